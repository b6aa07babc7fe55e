import Derived.Test.YtfmlpkeaiohknaaDoorMKey
/-! What the reference's Of does to the row of parents, place by place. -/
set_option linter.unusedVariables false
set_option linter.unusedSimpArgs false
namespace Go.Proofs.YtfmlpkeaiohknaaDoor.Q
open Go.RowKit Go.Proofs.YtfmlpkeaiohknaaDoorW.PrintWords Go.Proofs.YtfmlpkeaiohknaaDoorW.PrintLast Go.Proofs.YtfmlpkeaiohknaaDoorW.PrintMore
theorem layK_P {s : PS} {x : S24} {a : Nat} {p : Int} (h : Lay s x a p) : s.P[a]? = some p := by obtain ⟨_, _, _, l⟩ := x; exact h.1
theorem layK_Z {s : PS} {x : S24} {a : Nat} {p : Int} (h : Lay s x a p) : s.Z[a]? = some (nsz x : Int) := by obtain ⟨_, _, _, l⟩ := x; exact h.2.1
theorem layK_K {s : PS} {x : S24} {a : Nat} {p : Int} (h : Lay s x a p) : s.K[a]? = some (places x.f3 (a + 1)) := by obtain ⟨_, _, _, l⟩ := x; exact h.2.2.1
theorem layK_L {s : PS} {x : S24} {a : Nat} {p : Int} (h : Lay s x a p) : LayL s x.f3 (a + 1) a := by obtain ⟨_, _, _, l⟩ := x; exact h.2.2.2
theorem nsz_eq (x : S24) : nsz x = 1 + nszL x.f3 := by obtain ⟨_, _, _, l⟩ := x; rfl
theorem nszL_app : ∀ (l m : List S24), nszL (l ++ m) = nszL l + nszL m
  | [], m => by simp [nszL]
  | x :: r, m => by simp only [List.cons_append, nszL, nszL_app r m]; omega
theorem layL_app {s : PS} : ∀ (l m : List S24) (a : Nat) (p : Int), LayL s (l ++ m) a p ↔ LayL s l a p ∧ LayL s m (a + nszL l) p
  | [], m, a, p => by simp [LayL, nszL]
  | x :: r, m, a, p => by
    simp only [List.cons_append, LayL, nszL]
    rw [layL_app r m]
    rw [show a + nsz x + nszL r = a + (nsz x + nszL r) by omega]
    exact ⟨fun h => ⟨⟨h.1, h.2.1⟩, h.2.2⟩, fun h => ⟨h.1.1, h.1.2, h.2⟩⟩
theorem places_app : ∀ (l m : List S24) (a : Nat), places (l ++ m) a = places l a ++ places m (a + nszL l)
  | [], m, a => by simp [places, nszL]
  | x :: r, m, a => by
    simp only [List.cons_append, places, nszL, places_app r m]
    rw [show a + nsz x + nszL r = a + (nsz x + nszL r) by omega]
theorem nsz_pos (x : S24) : 0 < nsz x := by rw [nsz_eq]; omega
mutual
theorem par {s : PS} : ∀ (x : S24) (a : Nat) (p : Int), Lay s x a p → ∀ k, a < k → k < a + nsz x → ∃ (v : Nat) (y : S24) (q : Int), s.P[k]? = some (v : Int) ∧ a ≤ v ∧ v < k ∧ Lay s y v q ∧ k < v + nsz y
  | ⟨a0, b0, c0, l⟩, a, p, h, k, h0, h1 => by
    have h' := h
    simp only [Lay, nsz] at h h1
    rcases parL l (a + 1) a h.2.2.2 k (by omega) (by omega) with hk | ⟨v, y, q, e1, e2, e3, e4, e5⟩
    · exact ⟨a, _, p, hk, Nat.le_refl _, h0, h', by simp only [nsz]; omega⟩
    · exact ⟨v, y, q, e1, by omega, e3, e4, e5⟩
theorem parL {s : PS} : ∀ (l : List S24) (a : Nat) (p : Int), LayL s l a p → ∀ k, a ≤ k → k < a + nszL l → s.P[k]? = some p ∨ ∃ (v : Nat) (y : S24) (q : Int), s.P[k]? = some (v : Int) ∧ a ≤ v ∧ v < k ∧ Lay s y v q ∧ k < v + nsz y
  | [], a, p, h, k, h0, h1 => by simp only [nszL] at h1; omega
  | x :: r, a, p, h, k, h0, h1 => by
    simp only [LayL, nszL] at h h1
    by_cases hc : k < a + nsz x
    · by_cases he : k = a
      · subst he; exact .inl (layK_P h.1)
      · exact .inr (par x a p h.1 k (by omega) hc)
    · rcases parL r (a + nsz x) p h.2 k (by omega) (by omega) with hk | ⟨v, y, q, e1, e2, e3, e4, e5⟩
      · exact .inl hk
      · exact .inr ⟨v, y, q, e1, by omega, e3, e4, e5⟩
end
/-- The row of parents, i nodes' Kids being told, and the i-th's below pos. -/
structure PInv (sP P : List Int) (i pos : Nat) : Prop where
  len : P.length = sP.length
  at_ : ∀ (k : Nat) (v : Int), sP[k]? = some v → P[k]? = some (if v < i ∨ (v = i ∧ k < pos) then v else -1)
section
variable {s : PS} {x : S24} (hx : Lay s x 0 (-1)) (hl : s.P.length = nsz x)
include hx hl
theorem parent_of {k : Nat} {v : Int} (h : s.P[k]? = some v) : (k = 0 ∧ v = -1) ∨ ∃ (u : Nat) (y : S24) (q : Int), v = u ∧ u < k ∧ Lay s y u q ∧ k < u + nsz y := by
  have hk := (List.getElem?_eq_some_iff.1 h).1
  by_cases h0 : k = 0
  · subst h0
    rw [layK_P hx] at h
    injection h with h
    exact .inl ⟨rfl, h.symm⟩
  · obtain ⟨u, y, q, e1, _, e3, e4, e5⟩ := par x 0 (-1) hx k (by omega) (by omega)
    rw [h] at e1
    injection e1 with e1
    exact .inr ⟨u, y, q, e1, e3, e4, e5⟩
theorem PInv.start : PInv s.P (List.replicate (nsz x) (-1)) 0 1 := by
  refine ⟨by simp [hl], fun k v h => ?_⟩
  have hk := (List.getElem?_eq_some_iff.1 h).1
  rw [List.getElem?_replicate, if_pos (by omega)]
  congr 1
  rcases parent_of hx hl h with ⟨_, hv⟩ | ⟨u, y, q, hv, hu, _, _⟩
  · subst hv; simp
  · rw [if_neg]
    intro hc
    rcases hc with hc | hc <;> omega
omit hx in
theorem PInv.step {P : List Int} {i pos : Nat} {y : S24} {q : Int} {j : Nat} {kid : S24} (h : PInv s.P P i pos) (hy : Lay s y i q) (hj : y.f3[j]? = some kid) (hpos : pos = i + 1 + nszL (y.f3.take j)) :
    PInv s.P (P.set pos (i : Int)) i (pos + nsz kid) ∧ pos < nsz x := by
  have hjl := (List.getElem?_eq_some_iff.1 hj).1
  have hsplit : y.f3 = y.f3.take j ++ kid :: y.f3.drop (j + 1) := by
    have e : y.f3[j] = kid := (List.getElem?_eq_some_iff.1 hj).2
    rw [← e, ← List.drop_eq_getElem_cons hjl, List.take_append_drop]
  have hL := layK_L hy
  rw [hsplit, layL_app] at hL
  obtain ⟨_, hL⟩ := hL
  simp only [LayL] at hL
  rw [show i + 1 + nszL (y.f3.take j) = pos by omega] at hL
  have hkid := hL.1
  have hPp := layK_P hkid
  have hpl := (List.getElem?_eq_some_iff.1 hPp).1
  refine ⟨⟨by simp [h.len], fun k v hv => ?_⟩, by omega⟩
  by_cases hk : k = pos
  · subst hk
    rw [hPp] at hv
    injection hv with hv
    rw [List.getElem?_set_self (by rw [h.len]; exact hpl), ← hv]
    have := nsz_pos kid
    rw [if_pos (Or.inr ⟨rfl, by omega⟩)]
  · rw [List.getElem?_set_ne (Ne.symm hk), h.at_ k v hv]
    congr 1
    have hiff : (v < (i : Int) ∨ (v = i ∧ k < pos)) ↔ (v < (i : Int) ∨ (v = i ∧ k < pos + nsz kid)) := by
      constructor
      · rintro (h1 | h1)
        · exact .inl h1
        · exact .inr ⟨h1.1, by omega⟩
      · rintro (h1 | h1)
        · exact .inl h1
        · by_cases hkp : k < pos
          · exact .inr ⟨h1.1, hkp⟩
          · obtain ⟨u, y', q', e1, e2, _, _, _⟩ := par kid pos i hkid k (by omega) h1.2
            rw [hv] at e1
            injection e1 with e1
            omega
    by_cases hc : v < (i : Int) ∨ (v = i ∧ k < pos)
    · rw [if_pos hc, if_pos (hiff.1 hc)]
    · rw [if_neg hc, if_neg (fun h => hc (hiff.2 h))]
theorem PInv.next {P : List Int} {i : Nat} {y : S24} {q : Int} (h : PInv s.P P i (i + 1 + nszL y.f3)) (hy : Lay s y i q) : PInv s.P P (i + 1) (i + 2) := by
  refine ⟨h.len, fun k v hv => ?_⟩
  rw [h.at_ k v hv]
  congr 1
  have hiff : (v < (i : Int) ∨ (v = i ∧ k < i + 1 + nszL y.f3)) ↔ (v < ((i + 1 : Nat) : Int) ∨ (v = ((i + 1 : Nat) : Int) ∧ k < i + 2)) := by
    rcases parent_of hx hl hv with ⟨_, h1⟩ | ⟨u, y', q', h1, h2, h3, h4⟩
    · subst h1
      constructor
      · intro _; exact .inl (by omega)
      · intro _; exact .inl (by omega)
    · constructor
      · rintro (h5 | h5)
        · exact .inl (by omega)
        · exact .inl (by omega)
      · rintro (h5 | h5)
        · by_cases hvi : v = (i : Int)
          · right
            refine ⟨hvi, ?_⟩
            have hu : u = i := by omega
            subst hu
            have e1 := layK_Z h3
            rw [layK_Z hy] at e1
            injection e1 with e1
            have e2 := nsz_eq y
            omega
          · exact .inl (by omega)
        · omega
  by_cases hc : v < (i : Int) ∨ (v = i ∧ k < i + 1 + nszL y.f3)
  · rw [if_pos hc, if_pos (hiff.1 hc)]
  · rw [if_neg hc, if_neg (fun h => hc (hiff.2 h))]
theorem PInv.fin {P : List Int} (h : PInv s.P P (nsz x) (nsz x + 1)) : P = s.P := by
  apply List.ext_getElem?
  intro k
  cases hk : s.P[k]? with
  | none => rw [List.getElem?_eq_none (by rw [h.len]; exact List.getElem?_eq_none_iff.1 hk)]
  | some v =>
    rw [h.at_ k v hk]
    have hkl := (List.getElem?_eq_some_iff.1 hk).1
    rw [if_pos]
    rcases parent_of hx hl hk with ⟨_, h1⟩ | ⟨u, y', q', h1, h2, h3, h4⟩
    · exact .inl (by omega)
    · exact .inl (by omega)
end
/-- The sizes of a plan. -/
theorem ofP_Z (x : S24) : (ofP x).Z = (ofP x).N.map fun y => (nsz y : Int) := by
  obtain ⟨w1, ag, lay⟩ := addN_lay x (-1) ⟨[], [], [], []⟩ ⟨rfl, rfl, rfl⟩
  have hN : (ofP x).N = pre x := ofP_N x
  have hZl : (ofP x).Z.length = (ofP x).N.length := w1.z
  apply List.ext_getElem?
  intro k
  by_cases hk : k < nsz x
  · obtain ⟨y, q, rest, hy, hd⟩ := lay_node x 0 (-1) (pre x) [] lay (by simp) k (by omega) (by omega)
    obtain ⟨r2, hr2⟩ := head_pre y rest
    have h1 : (pre x)[k]? = some y := by
      have : ((pre x).drop k)[0]? = some y := by rw [hd, hr2]; rfl
      simpa using this
    have h2 : (ofP x).Z[k]? = some (nsz y : Int) := layK_Z hy
    rw [h2, List.getElem?_map, hN, h1]
    rfl
  · rw [List.getElem?_eq_none (by rw [hZl, hN, pre_len]; omega), List.getElem?_eq_none (by rw [List.length_map, hN, pre_len]; omega)]
theorem ofP_at (x : S24) {i : Nat} {y : S24} (h : (ofP x).N[i]? = some y) : ∃ q, Lay (ofP x) y i q := by
  obtain ⟨w1, ag, lay⟩ := addN_lay x (-1) ⟨[], [], [], []⟩ ⟨rfl, rfl, rfl⟩
  rw [ofP_N] at h
  have hl := (List.getElem?_eq_some_iff.1 h).1
  rw [pre_len] at hl
  obtain ⟨v, q, rest, hv, hN⟩ := lay_node x 0 (-1) (pre x) [] lay (by simp) i (by omega) (by omega)
  obtain ⟨w, hw⟩ := head_pre v rest
  have : ((pre x).drop i)[0]? = some v := by rw [hN, hw]; rfl
  simp only [List.getElem?_drop, Nat.add_zero] at this
  rw [h] at this
  injection this with this
  exact ⟨q, this ▸ hv⟩
theorem sub_szN (x : S24) {i : Nat} {y : S24} (h : (ofP x).N[i]? = some y) : nsz y ≤ nsz x := by
  obtain ⟨w1, ag, lay⟩ := addN_lay x (-1) ⟨[], [], [], []⟩ ⟨rfl, rfl, rfl⟩
  rw [ofP_N] at h
  have hl := (List.getElem?_eq_some_iff.1 h).1
  rw [pre_len] at hl
  obtain ⟨v, q, rest, hv, hN⟩ := lay_node x 0 (-1) (pre x) [] lay (by simp) i (by omega) (by omega)
  obtain ⟨w, hw⟩ := head_pre v rest
  have h1 : ((pre x).drop i)[0]? = some v := by rw [hN, hw]; rfl
  simp only [List.getElem?_drop, Nat.add_zero] at h1
  rw [h] at h1
  injection h1 with h1
  have h2 := congrArg List.length hN
  rw [List.length_drop, List.length_append, pre_len, pre_len] at h2
  rw [h1]; omega
end Go.Proofs.YtfmlpkeaiohknaaDoor.Q
