import Derived.Test.YtfmlpkeaiohknaaDoorMKey
import Derived.Test.YtfmlpkeaiohknaaDoorMRow
import Derived.Test.YtfmlpkeaiohknaaDoorMKnown
/-! What the plain laws of ShapeAlike and ShapeMarks share. -/
set_option linter.unusedVariables false
set_option linter.unusedSimpArgs false
namespace Go.Proofs.YtfmlpkeaiohknaaDoor.Q
open Go.RowKit Go.Proofs.YtfmlpkeaiohknaaDoorW.PrintWords Go.Proofs.YtfmlpkeaiohknaaDoorW.PrintLast Go.Proofs.YtfmlpkeaiohknaaDoorW.PrintMore
theorem s24_eta (x : S24) : (⟨x.f0, x.f1, x.f2, x.f3⟩ : S24) = x := by cases x; rfl
theorem known_eu : Ev (fun k => scarflaw10_known.f k) true := Ev.up (fun k => scarflaw10_known.mono k) known_at
theorem rdT_of {xs : List S24} {i : Nat} {x : S24} (h : xs[i]? = some x) : rd_T24 xs (i : Int) = x := by
  unfold rd_T24; simp [List.getD_eq_getElem?_getD, h]
theorem rdI_of {xs : List Int} {i : Nat} {x : Int} (h : xs[i]? = some x) : rd xs (i : Int) = x := by
  unfold rd; simp [List.getD_eq_getElem?_getD, h]
theorem sub_le {u x : S24} (h : u ∈ pre x) : nsz u ≤ nsz x := by
  obtain ⟨w1, ag, lay⟩ := addN_lay x (-1) ⟨[], [], [], []⟩ ⟨rfl, rfl, rfl⟩
  obtain ⟨i, hi⟩ := List.getElem?_of_mem h
  have hl := (List.getElem?_eq_some_iff.1 hi).1
  rw [pre_len] at hl
  obtain ⟨v, q, rest, hv, hN⟩ := lay_node x 0 (-1) (pre x) [] lay (by simp) i (by omega) (by omega)
  have huv : u = v := by
    obtain ⟨w, hw⟩ := head_pre v rest
    have : ((pre x).drop i)[0]? = some v := by rw [hN, hw]; rfl
    simp only [List.getElem?_drop, Nat.add_zero] at this
    rw [hi] at this
    injection this
  have h2 := congrArg List.length hN
  rw [List.length_drop, List.length_append, pre_len, pre_len] at h2
  rw [huv]; omega
/-- A tree of few nodes and short texts, its numbers in range: shape.Marks answers for it. -/
theorem okT_of {x : S24} (hn : nsz x ≤ 1000) (hs : ∀ y ∈ pre x, y.f1.size ≤ 50000 ∧ y.f2.size ≤ 50000) (hr : ∀ y ∈ pre x, inR y) : okT x = true := by
  unfold okT
  rw [ofP_N, Bool.and_eq_true]
  refine ⟨decide_eq_true (by omega), List.all_eq_true.2 fun y hy => ?_⟩
  obtain ⟨h1, h2⟩ := hs y hy
  obtain ⟨h3, h4⟩ := hr y hy
  unfold okNode
  simp only [Bool.and_eq_true]
  exact ⟨⟨⟨decide_eq_true h3, decide_eq_true h4⟩, decide_eq_true (by omega)⟩, decide_eq_true (by omega)⟩
theorem nodes_all (x : S24) (hn : nsz x ≤ 150) : Ev (fun k => scarfref05_Nodes.f k x.f0 x.f1 x.f2 x.f3 151) (pre x) := by
  have h := nodes_ev x 151 (by omega) (by omega)
  rwa [List.take_of_length_le (by rw [pre_len]; omega)] at h
end Go.Proofs.YtfmlpkeaiohknaaDoor.Q
