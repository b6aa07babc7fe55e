import Derived.Test.YtfmlpkeaiohknaaDoorQx4
import Derived.Test.YtfmlpkeaiohknaaDoorMTells
set_option linter.unusedVariables false
namespace Go.Proofs.YtfmlpkeaiohknaaDoor.Q
open Go.RowKit Go.Proofs.YtfmlpkeaiohknaaDoorW.PrintWords Go.Proofs.YtfmlpkeaiohknaaDoorW.PrintLast Go.Proofs.YtfmlpkeaiohknaaDoorW.PrintMore
theorem of_tK : shape_Of.f 29 ⟨#[43]⟩ ⟨#[]⟩ [xK, xK] = some ([tK, xK, xK], [-1, 0, 0], [3, 1, 1], [[1, 2], [], []]) := by
  unfold shape_Of.f
  rw [if_pos (by simp [nsz, nszL, xK])]
  have h := ofP_tK
  unfold tK at h
  unfold xK at h ⊢
  rw [h]; rfl
theorem mk_tK : shape_Marks.f [tK] = some [[0, 1, 1]] := by
  unfold shape_Marks.f
  rw [marks_tK, if_pos]
  simp only [List.all_cons, List.all_nil, okT, ofP_tK, Bool.and_true]
  kernel_rfl
theorem known_at : scarflaw10_known.f 20 = some true := by
  unfold scarflaw10_known.f
  simp only [scarflaw05_Name.f, scarflaw05_Bin.f, Option.bind_some]
  rw [show ([(⟨9, ⟨#[120]⟩, ⟨#[]⟩, []⟩ : S24), (⟨9, ⟨#[120]⟩, ⟨#[]⟩, []⟩ : S24)] : List S24) = [xK, xK] from rfl, of_tK, show ([(⟨29, ⟨#[43]⟩, ⟨#[]⟩, [xK, xK]⟩ : S24)] : List S24) = [tK] from rfl, mk_tK]
  kernel_rfl
theorem scarflaw10_known.tells (k : Nat) (r : Bool) (h : scarflaw10_known.f k = some r) : r = true := by
  have h1 := LeO.up (fun k => scarflaw10_known.mono k) (Nat.le_max_left k 20) h
  have h2 := LeO.up (fun k => scarflaw10_known.mono k) (Nat.le_max_right k 20) known_at
  rw [h1] at h2
  injection h2
theorem scarflaw10_known.callsA (k : Nat) (r : Bool) (w : World) (htab : TabOk w) (h : scarflaw10_known.f k = some r) :
    Calls Tryd.prog 9 #[] w fun e w' => e = .returned (.bool r) ∧ Below w.heap.size w w' :=
  scarflaw10_known.calls k r w htab h (scarflaw10_known.tells k r h)
end Go.Proofs.YtfmlpkeaiohknaaDoor.Q
