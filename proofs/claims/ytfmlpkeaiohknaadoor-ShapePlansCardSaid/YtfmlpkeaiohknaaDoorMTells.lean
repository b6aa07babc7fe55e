import Derived.Test.YtfmlpkeaiohknaaDoorMMk0
/-! The fixed question's tree: its plan, its numbers. -/
set_option linter.unusedVariables false
namespace Go.Proofs.YtfmlpkeaiohknaaDoor.Q
open Go.RowKit
def tK : S24 := ⟨29, ⟨#[43]⟩, ⟨#[]⟩, [⟨9, ⟨#[120]⟩, ⟨#[]⟩, []⟩, ⟨9, ⟨#[120]⟩, ⟨#[]⟩, []⟩]⟩
def xK : S24 := ⟨9, ⟨#[120]⟩, ⟨#[]⟩, []⟩
theorem ofP_tK : ofP tK = ⟨[tK, xK, xK], [-1, 0, 0], [3, 1, 1], [[1, 2], [], []]⟩ := by
  simp [ofP, tK, xK, addN, addL]
theorem it9 : Lib.itoa 9 = [57] := by simp [Lib.itoa, Lib.decDigits]
theorem it29 : Lib.itoa 29 = [50, 57] := by simp [Lib.itoa, Lib.decDigits]
theorem it0 : Lib.itoa 0 = [48] := by simp [Lib.itoa, Lib.decDigits]
theorem it1 : Lib.itoa 1 = [49] := by simp [Lib.itoa, Lib.decDigits]
theorem it2 : Lib.itoa 2 = [50] := by simp [Lib.itoa, Lib.decDigits]
theorem marks_tK : marks [tK] = [[0, 1, 1]] := by
  simp only [marks, rough, ofP_tK]
  simp [ownGo, nkey, headK, tailK, piece, tK, xK, it9, it29, it0, it1, it2, renums, renum, seen, List.idxOf, List.findIdx, List.findIdx.go]
end Go.Proofs.YtfmlpkeaiohknaaDoor.Q
