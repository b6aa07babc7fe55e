import Derived.Test.YtfmlpkeaiohknaaDoorQx10
import Derived.Test.YtfmlpkeaiohknaaDoorMFew
import Derived.Test.YtfmlpkeaiohknaaDoorMKnown
/-! ShapeSums answers true for every tree: the plain law. -/
set_option linter.unusedVariables false
set_option linter.unusedSimpArgs false
namespace Go.Proofs.YtfmlpkeaiohknaaDoor.Q
open Go.RowKit Go.Proofs.YtfmlpkeaiohknaaDoorW.PrintWords Go.Proofs.YtfmlpkeaiohknaaDoorW.PrintLast Go.Proofs.YtfmlpkeaiohknaaDoorW.PrintMore
mutual
theorem lay_at {s : PS} : ∀ (x : S24) (at_ : Nat) (p : Int), Lay s x at_ p → ∀ i, at_ ≤ i → i < at_ + nsz x → ∃ y q, Lay s y i q ∧ i + nsz y ≤ at_ + nsz x
  | ⟨a, b, c, l⟩, at_, p, h, i, h0, h1 => by
    by_cases he : i = at_
    · subst he; exact ⟨_, _, h, Nat.le_refl _⟩
    · simp only [Lay, nsz] at *
      obtain ⟨y, q, hy, hl⟩ := layL_at l (at_ + 1) at_ h.2.2.2 i (by omega) (by omega)
      exact ⟨y, q, hy, by omega⟩
theorem layL_at {s : PS} : ∀ (l : List S24) (a : Nat) (p : Int), LayL s l a p → ∀ i, a ≤ i → i < a + nszL l → ∃ y q, Lay s y i q ∧ i + nsz y ≤ a + nszL l
  | [], a, p, h, i, h0, h1 => by simp only [nszL] at h1; omega
  | k :: r, a, p, h, i, h0, h1 => by
    simp only [LayL, nszL] at *
    by_cases hc : i < a + nsz k
    · obtain ⟨y, q, hy, hl⟩ := lay_at k a p h.1 i h0 hc
      exact ⟨y, q, hy, by omega⟩
    · obtain ⟨y, q, hy, hl⟩ := layL_at r (a + nsz k) p h.2 i (by omega) (by omega)
      exact ⟨y, q, hy, by omega⟩
end
def sK (l : List (List Int)) : Nat := (l.map List.length).sum
theorem sK_app (l m : List (List Int)) : sK (l ++ m) = sK l + sK m := by simp [sK]
theorem sK_set : ∀ (l : List (List Int)) (i : Nat) (v : Int), i < l.length → sK (l.set i (l.getD i [] ++ [v])) = sK l + 1
  | [], i, v, h => by simp at h
  | y :: r, 0, v, h => by simp [sK]; omega
  | y :: r, i + 1, v, h => by
    have := sK_set r i v (by simpa using h)
    simp [sK] at *
    omega
mutual
theorem addN_sK : ∀ (x : S24) (p : Int) (s : PS), Wf s → sK (addN x p s).K + 1 = sK s.K + nsz x
  | ⟨a, b, c, l⟩, p, s, h => by
    have h0 : Wf ⟨s.N ++ [⟨a, b, c, l⟩], s.P ++ [p], s.Z ++ [0], s.K ++ [[]]⟩ := ⟨by simp [h.p], by simp [h.z], by simp [h.k]⟩
    have h1 := addL_sK l s.N.length _ h0 (by simp)
    simp only [addN, nsz]
    rw [h1, sK_app]
    simp [sK]; omega
theorem addL_sK : ∀ (l : List S24) (a : Nat) (s : PS), Wf s → a < s.N.length → sK (addL l a s).K = sK s.K + nszL l
  | [], a, s, h, ha => by simp [addL, nszL]
  | k :: r, a, s, h, ha => by
    have h1 := addN_sK k a s h
    obtain ⟨w1, ag, lay⟩ := addN_lay k a s h
    have hl := addN_len k a s
    have w2 : Wf { (addN k a s) with K := (addN k a s).K.set a ((addN k a s).K.getD a [] ++ [(s.N.length : Int)]) } := ⟨w1.p, w1.z, by simp only [List.length_set]; exact w1.k⟩
    have h2 := addL_sK r a _ w2 (by simp only []; omega)
    simp only [addL, nszL]
    rw [h2]
    simp only []
    rw [sK_set _ _ _ (by rw [w1.k]; omega)]
    omega
end
theorem known_ev : Ev (fun k => scarflaw10_known.f k) true := Ev.up (fun k => scarflaw10_known.mono k) known_at
section
variable {s : PS}
theorem rdL_of {K : List (List Int)} {i : Nat} {l : List Int} (h : K[i]? = some l) : rd_L3 K (i : Int) = l := by
  unfold rd_L3; simp [List.getD_eq_getElem?_getD, h]
theorem rd_of {K : List Int} {i : Nat} {l : Int} (h : K[i]? = some l) : rd K (i : Int) = l := by
  unfold rd; simp [List.getD_eq_getElem?_getD, h]
theorem len_of {α : Type} {K : List α} {i : Nat} {l : α} (h : K[i]? = some l) : i < K.length := by
  exact (List.getElem?_eq_some_iff.1 h).1
theorem places_len : ∀ (l : List S24) (a : Nat), (places l a).length = l.length
  | [], _ => rfl
  | k :: r, a => by simp [places, places_len r]
theorem lay_P {x : S24} {a : Nat} {p : Int} (h : Lay s x a p) : s.P[a]? = some p := by
  obtain ⟨_, _, _, l⟩ := x; exact h.1
theorem lay_Z {x : S24} {a : Nat} {p : Int} (h : Lay s x a p) : s.Z[a]? = some (nsz x : Int) := by
  obtain ⟨_, _, _, l⟩ := x; exact h.2.1
theorem sums1_ev : ∀ (r : List S24) (done : List Int) (i a : Nat) (cnt : Int), s.K[i]? = some (done ++ places r a) → LayL s r a i → i < a → s.Z[i]? = some ((a + nszL r - i : Nat) : Int) → a + nszL r ≤ 1000000 → done.length + r.length ≤ 1000000 → 0 ≤ cnt → cnt + r.length ≤ 1000000 →
    Ev (fun k => scarflaw10_ShapeSums.l0 k (cnt + r.length) ((i : Int) + 1) s.N s.P s.Z s.K) true →
    Ev (fun k => scarflaw10_ShapeSums.l1 k cnt i a (done.length : Int) s.N s.P s.Z s.K) true
  | [], done, i, a, cnt, hK, hL, hia, hZ, hn, hd, hc0, hc, hrest => by
    simp only [nszL, Nat.add_zero, places, List.append_nil] at *
    have hk := len_of hK
    have hz := len_of hZ
    refine Ev.step (Ev.congr hrest fun k => ?_)
    show scarflaw10_ShapeSums.l1 (k + 1) _ _ _ _ _ _ _ _ = _
    rw [scarflaw10_ShapeSums.l1, if_pos (by omega), if_pos (by omega), rdL_of hK, if_neg (by omega), if_pos (by omega), rd_of hZ, if_pos (by rw [w64 (by omega) (by omega)]; omega), w64 (by omega) (by omega)]
    simp
  | y :: r, done, i, a, cnt, hK, hL, hia, hZ, hn, hd, hc0, hc, hrest => by
    simp only [nszL, places, LayL, List.length_cons] at *
    have hk := len_of hK
    have hp := len_of (lay_P hL.1)
    have hz := len_of (lay_Z hL.1)
    have hy : 0 < nsz y := by have := pre_pos y; rwa [pre_len] at this
    have h := sums1_ev r (done ++ [(a : Int)]) i (a + nsz y) (cnt + 1) (by rw [hK]; simp) hL.2 (by omega) (by rw [hZ]; congr 2; omega) (by omega) (by simp; omega) (by omega) (by omega) (Ev.congr hrest fun k => by congr 1; push_cast; omega)
    refine Ev.step (Ev.congr h fun k => ?_)
    show scarflaw10_ShapeSums.l1 (k + 1) _ _ _ _ _ _ _ _ = _
    have hrd : rd (done ++ (a : Int) :: places r (a + nsz y)) (done.length : Int) = a := by unfold rd; simp
    rw [scarflaw10_ShapeSums.l1, if_pos (by omega), if_pos (by omega), rdL_of hK, if_pos (by simp; omega), if_pos (by omega), hrd, if_pos rfl, if_pos (by omega), if_pos (by omega), rd_of (lay_P hL.1), if_pos rfl, if_pos (by omega), rd_of (lay_Z hL.1),
      w64 (n := cnt + 1) (by omega) (by omega), w64 (n := (a : Int) + nsz y) (by omega) (by omega), w64 (by omega) (by omega)]
    simp
theorem sums0_ev {x : S24} (hw : Wf s) (hl : Lay s x 0 (-1)) (hlen : s.N.length = nsz x) (hs : sK s.K + 1 = nsz x) (hn : nsz x ≤ 1000) : ∀ (d i : Nat), i + d = nsz x →
    Ev (fun k => scarflaw10_ShapeSums.l0 k (sK (s.K.take i) : Int) i s.N s.P s.Z s.K) true
  | 0, i, hd => by
    refine Ev.step ?_
    have e : s.K.take i = s.K := List.take_of_length_le (by rw [hw.k]; omega)
    rw [e]
    refine Ev.congr (Ev.bind known_ev (f := fun k t => if t = true then (if (sK s.K : Int) = (wrap64 ((s.N.length : Int) - 1)) then (some true) else (some false)) else (some false)) (Ev.of fun k => ?_)) fun k => ?_
    · rw [if_pos rfl, if_pos (by rw [w64 (by omega) (by omega)]; omega)]
    · rw [scarflaw10_ShapeSums.l0, if_neg (by omega)]
  | d + 1, i, hd => by
    refine Ev.step ?_
    obtain ⟨y, q, hy, hyl⟩ := lay_at x 0 (-1) hl i (by omega) (by omega)
    obtain ⟨ya, yb, yc, l⟩ := y
    simp only [Lay, nsz] at hy hyl
    have ht : sK (s.K.take (i + 1)) = sK (s.K.take i) + l.length := by
      rw [List.take_add_one, hy.2.2.1, sK_app]
      simp [sK, places_len]
    have hle : sK (s.K.take (i + 1)) ≤ sK s.K := by
      conv => rhs; rw [← List.take_append_drop (i + 1) s.K, sK_app]
      omega
    have hl0 := sums0_ev hw hl hlen hs hn d (i + 1) (by omega)
    rw [ht] at hl0
    have h := sums1_ev l [] i (i + 1) (sK (s.K.take i) : Int) hy.2.2.1 hy.2.2.2 (by omega) (by rw [hy.2.1]; congr 2; omega) (by omega) (by simp; omega) (by omega) (by omega) (Ev.congr hl0 fun k => by push_cast; rfl)
    refine Ev.congr h fun k => ?_
    rw [scarflaw10_ShapeSums.l0, if_pos (by omega), w64 (by omega) (by omega)]
    simp
end
theorem sums_ev (x : S24) : Ev (fun k => scarflaw10_ShapeSums.f k x.f0 x.f1 x.f2 x.f3) true := by
  obtain ⟨b, hb, hm⟩ := few_ev x 1000 (by omega) (by omega)
  refine Ev.bind hb (f := fun k t433 => (if t433 = true then ((shape_Of.f x.f0 x.f1 x.f2 x.f3).bind fun bt435 => (scarflaw10_ShapeSums.l0 k 0 0 bt435.1 bt435.2.1 bt435.2.2.1 bt435.2.2.2)) else ((scarflaw10_known.f k).bind fun t434 => (if t434 = true then (some true) else (some false))))) ?_
  cases b with
  | false =>
    refine Ev.congr (Ev.bind known_ev (f := fun k t434 => if t434 = true then (some true) else (some false)) (Ev.of fun k => ?_)) fun k => ?_
    · rw [if_pos rfl]
    · rw [if_neg (by simp)]
  | true =>
    obtain ⟨hn, _⟩ := hm rfl
    obtain ⟨w1, ag, lay⟩ := addN_lay x (-1) ⟨[], [], [], []⟩ ⟨rfl, rfl, rfl⟩
    have hsk := addN_sK x (-1) ⟨[], [], [], []⟩ ⟨rfl, rfl, rfl⟩
    have hN : (addN x (-1) ⟨[], [], [], []⟩).N.length = nsz x := by rw [addN_N]; simp [pre_len]
    have h := sums0_ev w1 lay hN (by rw [hsk]; simp [sK]) (by omega) (nsz x) 0 (by omega)
    refine Ev.congr h fun k => ?_
    rw [if_pos rfl]
    unfold shape_Of.f
    obtain ⟨a, b, c, l⟩ := x
    rw [if_pos (by simp only; omega)]
    rfl
end Go.Proofs.YtfmlpkeaiohknaaDoor.Q
