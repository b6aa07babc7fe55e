import Derived.Test.YtfmlpkeaiohknaaDoorMMk0
/-! How a plan lies: each node's parent, size and kids' places. -/
set_option linter.unusedVariables false
namespace Go.Proofs.YtfmlpkeaiohknaaDoor.Q
/-- The places of kids that begin at a. -/
def places : List S24 → Nat → List Int
  | [], _ => []
  | k :: r, a => (a : Int) :: places r (a + nsz k)
mutual
def Lay (s : PS) : S24 → Nat → Int → Prop
  | ⟨a, b, c, l⟩, at_, p => s.P[at_]? = some p ∧ s.Z[at_]? = some ((1 + nszL l : Nat) : Int) ∧ s.K[at_]? = some (places l (at_ + 1)) ∧ LayL s l (at_ + 1) at_
def LayL (s : PS) : List S24 → Nat → Int → Prop
  | [], _, _ => True
  | k :: r, a, p => Lay s k a p ∧ LayL s r (a + nsz k) p
end
/-- The same from a on, below b. -/
def Agree (s s' : PS) (a b : Nat) : Prop := ∀ i, a ≤ i → i < b → s'.P[i]? = s.P[i]? ∧ s'.Z[i]? = s.Z[i]? ∧ s'.K[i]? = s.K[i]?
mutual
theorem Lay.mono {s s' : PS} : ∀ (x : S24) (at_ : Nat) (p : Int), Lay s x at_ p → Agree s s' at_ (at_ + nsz x) → Lay s' x at_ p
  | ⟨a, b, c, l⟩, at_, p, h, hg => by
    simp only [Lay, nsz] at *
    obtain ⟨h1, h2, h3, h4⟩ := h
    obtain ⟨g1, g2, g3⟩ := hg at_ (Nat.le_refl _) (by omega)
    exact ⟨g1.trans h1, g2.trans h2, g3.trans h3, LayL.mono l (at_ + 1) at_ h4 (fun i hi hj => hg i (by omega) (by omega))⟩
theorem LayL.mono {s s' : PS} : ∀ (l : List S24) (a : Nat) (p : Int), LayL s l a p → Agree s s' a (a + nszL l) → LayL s' l a p
  | [], a, p, h, hg => trivial
  | k :: r, a, p, h, hg => by
    simp only [LayL, nszL] at *
    exact ⟨Lay.mono k a p h.1 (fun i hi hj => hg i hi (by omega)), LayL.mono r (a + nsz k) p h.2 (fun i hi hj => hg i (by omega) (by omega))⟩
end
structure Wf (s : PS) : Prop where
  p : s.P.length = s.N.length
  z : s.Z.length = s.N.length
  k : s.K.length = s.N.length
mutual
theorem addN_lay : ∀ (x : S24) (p : Int) (s : PS), Wf s → Wf (addN x p s) ∧ Agree s (addN x p s) 0 s.N.length ∧ Lay (addN x p s) x s.N.length p
  | ⟨a, b, c, l⟩, p, s, h => by
    have h0 : Wf ⟨s.N ++ [⟨a, b, c, l⟩], s.P ++ [p], s.Z ++ [0], s.K ++ [[]]⟩ := ⟨by simp [h.p], by simp [h.z], by simp [h.k]⟩
    obtain ⟨w1, g1, g2, g3, g4⟩ := addL_lay l s.N.length ⟨s.N ++ [⟨a, b, c, l⟩], s.P ++ [p], s.Z ++ [0], s.K ++ [[]]⟩ h0 (by simp)
    have hlen := addL_len l s.N.length ⟨s.N ++ [⟨a, b, c, l⟩], s.P ++ [p], s.Z ++ [0], s.K ++ [[]]⟩
    simp only [List.length_append, List.length_cons, List.length_nil, Nat.zero_add] at g1 g2 g3 g4 hlen
    have hp := h.p; have hz := h.z; have hk := h.k
    refine ⟨⟨w1.p, by simp only [addN, List.length_set]; exact w1.z, w1.k⟩, fun i _ hi => ⟨?_, ?_, ?_⟩, ?_⟩
    · exact ((g1 i (by omega)).1).trans (List.getElem?_append_left (by omega))
    · simp only [addN]; rw [List.getElem?_set_ne (by omega)]; exact ((g1 i (by omega)).2).trans (List.getElem?_append_left (by omega))
    · exact (g2 i (by omega) (by omega)).trans (List.getElem?_append_left (by omega))
    · have hK : (addL l s.N.length ⟨s.N ++ [⟨a, b, c, l⟩], s.P ++ [p], s.Z ++ [0], s.K ++ [[]]⟩).K[s.N.length]? = some (places l (s.N.length + 1)) := by
        have hlt : s.N.length < (addL l s.N.length ⟨s.N ++ [⟨a, b, c, l⟩], s.P ++ [p], s.Z ++ [0], s.K ++ [[]]⟩).K.length := by rw [w1.k, hlen]; omega
        have hK0 : (s.K ++ [[]]).getD s.N.length [] = [] := by rw [← hk]; simp
        rw [hK0, List.nil_append] at g3
        rw [← g3, List.getD_eq_getElem?_getD, List.getElem?_eq_getElem hlt]; rfl
      refine ⟨?_, ?_, hK, ?_⟩
      · refine ((g1 _ (by omega)).1).trans ?_
        rw [← hp]; simp
      · simp only [addN]
        rw [List.getElem?_set_self (by rw [w1.z, hlen]; omega), hlen]
        congr 1; push_cast; omega
      · refine LayL.mono l _ _ g4 (fun i hi _ => ⟨rfl, ?_, rfl⟩)
        simp only [addN]; rw [List.getElem?_set_ne (by omega)]
theorem addL_lay : ∀ (l : List S24) (a : Nat) (s : PS), Wf s → a < s.N.length → Wf (addL l a s) ∧ (∀ i, i < s.N.length → (addL l a s).P[i]? = s.P[i]? ∧ (addL l a s).Z[i]? = s.Z[i]?) ∧ (∀ i, i < s.N.length → i ≠ a → (addL l a s).K[i]? = s.K[i]?) ∧ (addL l a s).K.getD a [] = s.K.getD a [] ++ places l s.N.length ∧ LayL (addL l a s) l s.N.length a
  | [], a, s, h, ha => ⟨h, fun _ _ => ⟨rfl, rfl⟩, fun _ _ _ => rfl, by simp [addL, places], trivial⟩
  | k :: r, a, s, h, ha => by
    obtain ⟨w1, ag, lay⟩ := addN_lay k a s h
    have hl := addN_len k a s
    have w2 : Wf { (addN k a s) with K := (addN k a s).K.set a ((addN k a s).K.getD a [] ++ [(s.N.length : Int)]) } := ⟨w1.p, w1.z, by simp only [List.length_set]; exact w1.k⟩
    obtain ⟨w3, g1, g2, g3, g4⟩ := addL_lay r a _ w2 (by simp only []; omega)
    simp only [] at g1 g2 g3 g4
    have hka : a < (addN k a s).K.length := by rw [w1.k]; omega
    have hsk : (addN k a s).K.getD a [] = s.K.getD a [] := by rw [List.getD_eq_getElem?_getD, List.getD_eq_getElem?_getD, (ag a (Nat.zero_le _) ha).2.2]
    refine ⟨w3, fun i hi => ⟨(g1 i (by omega)).1.trans (ag i (Nat.zero_le _) hi).1, (g1 i (by omega)).2.trans (ag i (Nat.zero_le _) hi).2.1⟩, fun i hi hne => ?_, ?_, ?_, ?_⟩
    · exact (g2 i (by omega) hne).trans ((List.getElem?_set_ne (Ne.symm hne)).trans (ag i (Nat.zero_le _) hi).2.2)
    · simp only [addL]
      rw [g3, List.getD_eq_getElem?_getD, List.getElem?_set_self hka, Option.getD_some, hsk, hl]
      simp [places]
    · refine Lay.mono k _ _ lay (fun i hi hj => ⟨(g1 i (by omega)).1, (g1 i (by omega)).2, ?_⟩)
      exact (g2 i (by omega) (by omega)).trans (List.getElem?_set_ne (by omega))
    · rw [hl] at g4; exact g4
end
end Go.Proofs.YtfmlpkeaiohknaaDoor.Q
