/- The texts of this claim that lie below its row, in their order: GUp GKg GRi GSf GTb GPl GKw GKx Qx2 GSm GK7 Qx3 GRc GS5. -/
import Derived.Test.YtfmlpkeaiohknaaZP12
/-! Plain facts of a plan: parents lie ahead; kids are those whose parent it is, in order. -/
set_option linter.unusedVariables false
set_option linter.unusedSimpArgs false
namespace Go.Proofs.Ytfmlpkeaiohknaa.Q
structure Up (s : PS) : Prop where
  p : s.P.length = s.N.length
  up : ∀ j, 0 < j → j < s.N.length → 0 ≤ s.P.getD j 0 ∧ s.P.getD j 0 < (j : Int)
mutual
theorem addN_up : ∀ (x : S24) (p : Int) (s : PS), Up s → (0 < s.N.length → 0 ≤ p ∧ p < (s.N.length : Int)) → Up (addN x p s)
  | ⟨a, b, c, l⟩, p, s, h, hp => by
    have h0 : Up ⟨s.N ++ [⟨a, b, c, l⟩], s.P ++ [p], s.Z ++ [0], s.K ++ [[]]⟩ := by
      refine ⟨by simp [h.p], fun j hj hl => ?_⟩
      simp only [List.length_append, List.length_cons, List.length_nil] at hl
      simp only [List.getD_eq_getElem?_getD]
      by_cases e : j < s.N.length
      · rw [List.getElem?_append_left (by rw [h.p]; exact e)]
        have := h.up j hj e
        rwa [List.getD_eq_getElem?_getD] at this
      · have ej : j = s.P.length := by rw [h.p]; omega
        rw [ej, List.getElem?_append_right (Nat.le_refl _), Nat.sub_self]
        have := hp (by omega)
        rw [← h.p] at this
        exact this
    have h1 := addL_up l s.N.length _ h0 (by simp)
    exact ⟨h1.p, h1.up⟩
theorem addL_up : ∀ (l : List S24) (a : Nat) (s : PS), Up s → a < s.N.length → Up (addL l a s)
  | [], a, s, h, _ => h
  | k :: r, a, s, h, ha => by
    have h1 := addN_up k a s h (fun _ => ⟨by omega, by omega⟩)
    have hl := addN_len k a s
    exact addL_up r a _ ⟨h1.p, h1.up⟩ (by show a < (addN k a s).N.length; omega)
end
/-- Those of a .. b-1 whose parent is i. -/
def kidsOf (P : List Int) (a b : Nat) (i : Nat) : List Int := ((List.range' a (b - a)).filter (fun j => decide (P.getD j 0 = (i : Int)))).map (fun j : Nat => (j : Int))
theorem kidsOf_split {P : List Int} {a m b i : Nat} (h1 : a ≤ m) (h2 : m ≤ b) : kidsOf P a b i = kidsOf P a m i ++ kidsOf P m b i := by
  unfold kidsOf
  rw [← List.map_append, ← List.filter_append]
  congr 2
  have h := List.range'_append (s := a) (m := m - a) (n := b - m) (step := 1)
  rw [Nat.one_mul, show a + (m - a) = m by omega, show m - a + (b - m) = b - a by omega] at h
  exact h.symm
theorem kidsOf_congr {P Q : List Int} {a b i : Nat} (h : ∀ j, a ≤ j → j < b → P.getD j 0 = Q.getD j 0) : kidsOf P a b i = kidsOf Q a b i := by
  unfold kidsOf
  congr 1
  refine List.filter_congr fun j hj => ?_
  rw [List.mem_range'_1] at hj
  rw [h j hj.1 (by omega)]
theorem kidsOf_none {P : List Int} {a b i : Nat} (h : ∀ j, a ≤ j → j < b → P.getD j 0 ≠ (i : Int)) : kidsOf P a b i = [] := by
  unfold kidsOf
  rw [List.filter_eq_nil_iff.2, List.map_nil]
  intro j hj
  rw [List.mem_range'_1] at hj
  simpa using h j hj.1 (by omega)
theorem kidsOf_one {P : List Int} {a i : Nat} (h : P.getD a 0 = (i : Int)) : kidsOf P a (a + 1) i = [(a : Int)] := by
  unfold kidsOf
  rw [show a + 1 - a = 1 by omega, show List.range' a 1 = [a] from rfl, List.filter_cons_of_pos (by simpa using h)]
  rfl
theorem getD_of {α : Type} {l l' : List α} {i : Nat} {d : α} (h : l'[i]? = l[i]?) : l'.getD i d = l.getD i d := by rw [List.getD_eq_getElem?_getD, List.getD_eq_getElem?_getD, h]
mutual
theorem addN_kids : ∀ (x : S24) (p : Int) (s : PS), Up s → Wf s → p < (s.N.length : Int) → (0 < s.N.length → 0 ≤ p) →
    (addN x p s).P.getD s.N.length 0 = p ∧ (∀ j, s.N.length < j → j < (addN x p s).N.length → (s.N.length : Int) ≤ (addN x p s).P.getD j 0) ∧
    ∀ i, s.N.length ≤ i → i < (addN x p s).N.length → (addN x p s).K.getD i [] = kidsOf (addN x p s).P s.N.length (addN x p s).N.length i
  | ⟨a, b, c, l⟩, p, s, h, hw, hp, hp0 => by
    have h0 : Wf ⟨s.N ++ [⟨a, b, c, l⟩], s.P ++ [p], s.Z ++ [0], s.K ++ [[]]⟩ := ⟨by simp [hw.p], by simp [hw.z], by simp [hw.k]⟩
    have hu0 : Up ⟨s.N ++ [⟨a, b, c, l⟩], s.P ++ [p], s.Z ++ [0], s.K ++ [[]]⟩ := by
      have := addN_up ⟨a, b, c, []⟩ p s h (fun h => ⟨hp0 h, hp⟩)
      exact ⟨by simp [h.p], by
        have h2 := this.up
        simp only [addN, addL] at h2
        intro j hj hl
        exact h2 j hj (by simpa using hl)⟩
    have hn0 : (s.N ++ [(⟨a, b, c, l⟩ : S24)]).length = s.N.length + 1 := by simp
    have hN : (addN ⟨a, b, c, l⟩ p s).N = (addL l s.N.length ⟨s.N ++ [⟨a, b, c, l⟩], s.P ++ [p], s.Z ++ [0], s.K ++ [[]]⟩).N := rfl
    have hP : (addN ⟨a, b, c, l⟩ p s).P = (addL l s.N.length ⟨s.N ++ [⟨a, b, c, l⟩], s.P ++ [p], s.Z ++ [0], s.K ++ [[]]⟩).P := rfl
    have hK : (addN ⟨a, b, c, l⟩ p s).K = (addL l s.N.length ⟨s.N ++ [⟨a, b, c, l⟩], s.P ++ [p], s.Z ++ [0], s.K ++ [[]]⟩).K := rfl
    rw [hN, hP, hK]
    have hA := addL_kids l s.N.length ⟨s.N ++ [⟨a, b, c, l⟩], s.P ++ [p], s.Z ++ [0], s.K ++ [[]]⟩ hu0 h0 (by simp)
    have hB := addL_lay l s.N.length ⟨s.N ++ [⟨a, b, c, l⟩], s.P ++ [p], s.Z ++ [0], s.K ++ [[]]⟩ h0 (by simp)
    have hL := addL_len l s.N.length ⟨s.N ++ [⟨a, b, c, l⟩], s.P ++ [p], s.Z ++ [0], s.K ++ [[]]⟩
    obtain ⟨t, ht⟩ : ∃ t, addL l s.N.length ⟨s.N ++ [⟨a, b, c, l⟩], s.P ++ [p], s.Z ++ [0], s.K ++ [[]]⟩ = t := ⟨_, rfl⟩
    rw [ht] at hA hB hL ⊢
    dsimp only at hA hB hL
    rw [hn0] at hA hB hL
    obtain ⟨a3, a4, a5⟩ := hA
    have hPn : t.P.getD s.N.length 0 = p := by
      rw [getD_of (hB.2.1 s.N.length (by omega)).1, ← hw.p]
      simp [List.getD_eq_getElem?_getD]
    have hK0 : (s.K ++ [[]]).getD s.N.length [] = [] := by rw [← hw.k]; simp
    rw [hK0, List.nil_append] at a3
    refine ⟨hPn, fun j h1 h2 => ?_, fun i h1 h2 => ?_⟩
    · rcases a4 j (by omega) h2 with h3 | h3 <;> omega
    · rw [kidsOf_split (m := s.N.length + 1) (by omega) (by omega), kidsOf_none (b := s.N.length + 1) (fun j g1 g2 => by rw [show j = s.N.length by omega, hPn]; omega), List.nil_append]
      by_cases e : i = s.N.length
      · subst e; exact a3
      · exact a5 i (by omega) h2
theorem addL_kids : ∀ (l : List S24) (a : Nat) (s : PS), Up s → Wf s → a < s.N.length →
    (addL l a s).K.getD a [] = s.K.getD a [] ++ kidsOf (addL l a s).P s.N.length (addL l a s).N.length a ∧
    (∀ j, s.N.length ≤ j → j < (addL l a s).N.length → (addL l a s).P.getD j 0 = (a : Int) ∨ (s.N.length : Int) ≤ (addL l a s).P.getD j 0) ∧
    ∀ i, s.N.length ≤ i → i < (addL l a s).N.length → (addL l a s).K.getD i [] = kidsOf (addL l a s).P s.N.length (addL l a s).N.length i
  | [], a, s, h, hw, ha => by
    simp only [addL]
    exact ⟨by rw [kidsOf_none (fun j h1 h2 => by omega), List.append_nil], fun j h1 h2 => by omega, fun i h1 h2 => by omega⟩
  | k :: r, a, s, h, hw, ha => by
    have hA := addN_kids k a s h hw (by omega) (fun _ => by omega)
    have hu1 := addN_up k a s h (fun _ => ⟨by omega, by omega⟩)
    have hl1 := addN_lay k a s hw
    have hn1 := addN_len k a s
    have hpos : 0 < nsz k := by cases k; simp only [nsz]; omega
    obtain ⟨s1, hs1⟩ : ∃ t, addN k a s = t := ⟨_, rfl⟩
    rw [addL]
    try dsimp only
    rw [hs1] at hA hu1 hl1 hn1 ⊢
    have hw2 : Wf { s1 with K := s1.K.set a (s1.K.getD a [] ++ [(s.N.length : Int)]) } := ⟨hl1.1.p, hl1.1.z, by rw [List.length_set]; exact hl1.1.k⟩
    have hu2 : Up { s1 with K := s1.K.set a (s1.K.getD a [] ++ [(s.N.length : Int)]) } := ⟨hu1.p, hu1.up⟩
    have ha1 : a < s1.N.length := by omega
    have hC := addL_kids r a _ hu2 hw2 ha1
    have hD := addL_lay r a _ hw2 ha1
    have hn2 := addL_len r a { s1 with K := s1.K.set a (s1.K.getD a [] ++ [(s.N.length : Int)]) }
    obtain ⟨t, ht⟩ : ∃ t, addL r a { s1 with K := s1.K.set a (s1.K.getD a [] ++ [(s.N.length : Int)]) } = t := ⟨_, rfl⟩
    rw [ht] at hC hD hn2 ⊢
    dsimp only at hC hD hn2
    obtain ⟨b1, b2, b3⟩ := hA
    obtain ⟨c3, c4, c5⟩ := hC
    have hP : ∀ j, j < s1.N.length → t.P.getD j 0 = s1.P.getD j 0 := fun j hj => getD_of (hD.2.1 j hj).1
    have hKa : s1.K.getD a [] = s.K.getD a [] := getD_of (hl1.2.1 a (Nat.zero_le _) ha).2.2
    have hset : (s1.K.set a (s1.K.getD a [] ++ [(s.N.length : Int)])).getD a [] = s.K.getD a [] ++ [(s.N.length : Int)] := by
      rw [List.getD_eq_getElem?_getD, List.getElem?_set_self (by rw [hl1.1.k]; exact ha1), hKa]; rfl
    rw [hset] at c3
    have hPn : t.P.getD s.N.length 0 = (a : Int) := (hP _ (by omega)).trans b1
    refine ⟨?_, fun j h1 h2 => ?_, fun i h1 h2 => ?_⟩
    · rw [c3, kidsOf_split (m := s1.N.length) (a := s.N.length) (by omega) (by omega), kidsOf_split (m := s.N.length + 1) (a := s.N.length) (b := s1.N.length) (by omega) (by omega), kidsOf_one hPn, kidsOf_none (a := s.N.length + 1) (fun j g1 g2 => by rw [hP j g2]; have := b2 j (by omega) g2; omega), List.append_nil, List.append_assoc]
    · by_cases e : j < s1.N.length
      · rw [hP j e]
        by_cases e2 : j = s.N.length
        · subst e2; exact .inl b1
        · exact .inr (b2 j (by omega) e)
      · rcases c4 j (by omega) h2 with h3 | h3
        · exact .inl h3
        · exact .inr (by omega)
    · rw [kidsOf_split (m := s1.N.length) (a := s.N.length) (by omega) (by omega)]
      by_cases e : i < s1.N.length
      · have hKi : t.K.getD i [] = s1.K.getD i [] := by
          rw [getD_of (hD.2.2.1 i e (by omega))]
          exact getD_of (List.getElem?_set_ne (by omega))
        rw [hKi, b3 i h1 e, kidsOf_congr (fun j g1 g2 => (hP j g2)), kidsOf_none (a := s1.N.length) (fun j g1 g2 => by rcases c4 j g1 g2 with h3 | h3 <;> omega), List.append_nil]
      · rw [c5 i (by omega) h2, kidsOf_none (b := s1.N.length) (fun j g1 g2 => by rw [hP j g2]; have := hu1.up j (by omega) g2; omega), List.nil_append]
end
theorem ofP_kidsOf (x : S24) {i : Nat} (hi : i < (ofP x).N.length) : (ofP x).K.getD i [] = kidsOf (ofP x).P 0 (ofP x).N.length i :=
  (addN_kids x (-1) ⟨[], [], [], []⟩ ⟨rfl, fun j _ hj => by simp at hj⟩ ⟨rfl, rfl, rfl⟩ (by simp) (fun h => by simp at h)).2.2 i (Nat.zero_le _) hi
end Go.Proofs.Ytfmlpkeaiohknaa.Q
/-! The grove of a plan: what stands at each name. -/
set_option linter.unusedVariables false
set_option linter.unusedSimpArgs false
namespace Go.Proofs.Ytfmlpkeaiohknaa.Q
end Go.Proofs.Ytfmlpkeaiohknaa.Q
/-! rising of 0, 1, .. n-1: all of them. -/
set_option linter.unusedVariables false
set_option linter.unusedSimpArgs false
namespace Go.Proofs.Ytfmlpkeaiohknaa.Q
end Go.Proofs.Ytfmlpkeaiohknaa.Q
/-! script.Of of a tree with itself, place by place: no edits. -/
set_option linter.unusedVariables false
set_option linter.unusedSimpArgs false
namespace Go.Proofs.Ytfmlpkeaiohknaa.Q
theorem ph3_self {kept : Int → Bool} {s : Os} : ∀ (n : Nat), (∀ j : Nat, j < n → kept (j : Int) = true) → ph3 kept n s = some s
  | 0, _ => rfl
  | n + 1, h => by
    rw [ph3, if_pos (h n (by omega)), Option.bind_some]
    exact ph3_self n (fun j hj => h j (by omega))
theorem kidsOf_mem {P : List Int} {a b i : Nat} {k : Int} (h : k ∈ kidsOf P a b i) : (a : Int) ≤ k ∧ k < (b : Int) := by
  unfold kidsOf at h
  obtain ⟨j, hj, rfl⟩ := List.mem_map.1 h
  have := List.mem_range'_1.1 (List.mem_filter.1 hj).1
  omega
theorem kidsOf_nodup {P : List Int} {a b i : Nat} : (kidsOf P a b i).Nodup := by
  unfold kidsOf
  exact List.Pairwise.map _ (fun x y (hxy : x ≠ y) (e : (x : Int) = (y : Int)) => hxy (by omega)) (List.Nodup.sublist List.filter_sublist (List.nodup_range' (step := 1)))
end Go.Proofs.Ytfmlpkeaiohknaa.Q
/-! The tree of a plan's grove is the tree. -/
set_option linter.unusedVariables false
set_option linter.unusedSimpArgs false
namespace Go.Proofs.Ytfmlpkeaiohknaa.Q
theorem nsz_pos (x : S24) : 0 < nsz x := by cases x; simp only [nsz]; omega
theorem planOk {x : S24} (h : nsz x ≤ 1000) : PlanOk x := by
  have hu : Up (ofP x) := addN_up x (-1) ⟨[], [], [], []⟩ ⟨rfl, fun j _ hj => by simp at hj⟩ (fun hj => by simp at hj)
  exact ⟨h, by unfold ofP; rw [addN_len]; simp, hu.p, hu.up, nsz_pos x⟩
end Go.Proofs.Ytfmlpkeaiohknaa.Q
/-! Plain facts of a plan: parents lie ahead, kids lie behind. -/
set_option linter.unusedVariables false
set_option linter.unusedSimpArgs false
namespace Go.Proofs.Ytfmlpkeaiohknaa.Q
open Go Go.RowKit Go.Lib Go.Sort Go.Proofs.YtfmlpkeaiohknaaW.PrintWords Go.Proofs.YtfmlpkeaiohknaaW.SL
/-- Kids lie in the plan. -/
def KidsIn (s : PS) : Prop := s.K.length = s.N.length ∧ ∀ ks ∈ s.K, ∀ k ∈ ks, 0 ≤ k ∧ k < (s.N.length : Int)
theorem set_mem {α : Type} {l : List α} {i : Nat} {x y : α} (h : y ∈ l.set i x) : y = x ∨ y ∈ l := by
  rcases List.mem_or_eq_of_mem_set h with h | h
  · exact .inr h
  · exact .inl h
mutual
theorem addN_len2 : ∀ (x : S24) (p : Int) (s : PS), KidsIn s → KidsIn (addN x p s)
  | ⟨a, b, c, l⟩, p, s, h => by
    have h0 : KidsIn ⟨s.N ++ [⟨a, b, c, l⟩], s.P ++ [p], s.Z ++ [0], s.K ++ [[]]⟩ := by
      refine ⟨by simp [h.1], fun ks hk k hm => ?_⟩
      rcases List.mem_append.1 hk with hk | hk
      · have := h.2 ks hk k hm; simp; omega
      · rw [List.mem_singleton.1 hk] at hm; cases hm
    have h1 := addL_len2 l s.N.length _ h0
    exact h1
theorem addL_len2 : ∀ (l : List S24) (a : Nat) (s : PS), KidsIn s → KidsIn (addL l a s)
  | [], a, s, h => h
  | k :: r, a, s, h => by
    have h1 := addN_len2 k a s h
    have hl := addN_len k a s
    have hp : 0 < nsz k := by cases k; simp only [nsz]; omega
    refine addL_len2 r a _ ⟨by simp [h1.1], fun ks hk j hm => ?_⟩
    rcases set_mem hk with hk | hk
    · subst hk
      rcases List.mem_append.1 hm with hm | hm
      · have hg : (addN k a s).K.getD a [] ∈ (addN k a s).K ∨ (addN k a s).K.getD a [] = [] := by
          rw [List.getD_eq_getElem?_getD]
          cases hq : (addN k a s).K[a]? with
          | none => exact .inr rfl
          | some v => exact .inl (List.mem_of_getElem? hq)
        rcases hg with hg | hg
        · exact h1.2 _ hg j hm
        · rw [hg] at hm; cases hm
      · rw [List.mem_singleton.1 hm]; simp only []; omega
    · exact h1.2 ks hk j hm
end
theorem ofP_kids (x : S24) : KidsIn (ofP x) := addN_len2 x _ _ ⟨rfl, fun ks h => by cases h⟩
theorem planB {x : S24} (h : nsz x ≤ 1000) : PlanB (ofP x) := by
  have hk := ofP_kids x
  have hs := addN_sum x (-1) ⟨[], [], [], []⟩
  refine ⟨hk.1, fun i hi k hm => ?_, fun i => ?_⟩
  · refine hk.2 _ (getD_mem (by rw [hk.1]; exact hi) []) k hm
  · rw [List.getD_eq_getElem?_getD]
    cases hq : (ofP x).K[i]? with
    | none => simp
    | some v =>
      have h1 := sumK_mem hq
      have h2 : sumK (ofP x).K + 1 ≤ sumK [] + nsz x := hs
      have h3 : sumK [] = 0 := rfl
      show v.length ≤ 1000
      omega
end Go.Proofs.Ytfmlpkeaiohknaa.Q
/-! The chapter's example in plain Lean: one insert makes the one to the other. -/
set_option linter.unusedVariables false
set_option linter.unusedSimpArgs false
namespace Go.Proofs.Ytfmlpkeaiohknaa.Q
def kA (r n : Int) (e tx : ByteArray) : S24 := ⟨r, e, e, [⟨n, tx, e, []⟩]⟩
def kB (r n : Int) (e tx ty : ByteArray) : S24 := ⟨r, e, e, [⟨n, ty, e, []⟩, ⟨n, tx, e, []⟩]⟩
section
variable (r n : Int) (e tx ty : ByteArray)
theorem ofP_kA : ofP (kA r n e tx) = ⟨[kA r n e tx, ⟨n, tx, e, []⟩], [-1, 0], [2, 1], [[1], []]⟩ := rfl
theorem ofP_kB : ofP (kB r n e tx ty) = ⟨[kB r n e tx ty, ⟨n, ty, e, []⟩, ⟨n, tx, e, []⟩], [-1, 0, 0], [3, 1, 1], [[1, 2], [], []]⟩ := rfl
theorem grove_kA : groveX (kA r n e tx) = [⟨0, r, e, e, none, [1]⟩, ⟨1, n, tx, e, some 0, []⟩] := rfl
/-- The edit. -/
def kE : S54 := ⟨1, 2, 0, -1, n, ty, e⟩
theorem new_kA : newK [⟨0, r, e, e, none, [1]⟩, ⟨1, n, tx, e, some 0, []⟩] (edOf (kE n e ty)) = [⟨0, r, e, e, none, [2, 1]⟩, ⟨1, n, tx, e, some 0, []⟩, ⟨2, n, ty, e, some 0, []⟩] := rfl
theorem do_kA : doK [⟨0, r, e, e, none, [1]⟩, ⟨1, n, tx, e, some 0, []⟩] (edOf (kE n e ty)) = some [⟨0, r, e, e, none, [2, 1]⟩, ⟨1, n, tx, e, some 0, []⟩, ⟨2, n, ty, e, some 0, []⟩] := by
  unfold doK
  rw [if_pos (show (edOf (kE n e ty)).so = 1 from rfl), if_pos ⟨rfl, by show (0 : Int) ≤ 2; decide, ⟨0, r, e, e, none, [1]⟩, rfl, .inl rfl⟩, new_kA]
theorem run_kA (nm : List Int) (nx : Int) : (⟨nm, nx, [⟨0, r, e, e, none, [1]⟩, ⟨1, n, tx, e, some 0, []⟩], []⟩ : Os).run (kE n e ty) = some ⟨nm, nx, [⟨0, r, e, e, none, [2, 1]⟩, ⟨1, n, tx, e, some 0, []⟩, ⟨2, n, ty, e, some 0, []⟩], [kE n e ty]⟩ := by
  unfold Os.run
  rw [if_pos ⟨by simp, by unfold in64 kE; simp, by unfold in64 kE; simp⟩]
  dsimp only
  rw [do_kA]
  rfl
theorem of_known : ofK (ofP (kA r n e tx)).N (ofP (kA r n e tx)).P (ofP (kB r n e tx ty)).N (ofP (kB r n e tx ty)).K [(0, 0), (1, 2)] = some ⟨[0, 2, 1], 3, [⟨0, r, e, e, none, [2, 1]⟩, ⟨1, n, tx, e, some 0, []⟩, ⟨2, n, ty, e, some 0, []⟩], [kE n e ty]⟩ := by
  rw [ofP_kA, ofP_kB]
  unfold ofK
  have h1 : ph1 [kA r n e tx, ⟨n, tx, e, []⟩] [kB r n e tx ty, ⟨n, ty, e, []⟩, ⟨n, tx, e, []⟩] [(0, 0), (1, 2)] ⟨[-1, -1, -1], 2, [⟨0, r, e, e, none, [1]⟩, ⟨1, n, tx, e, some 0, []⟩], []⟩ = some ⟨[0, -1, 1], 2, [⟨0, r, e, e, none, [1]⟩, ⟨1, n, tx, e, some 0, []⟩], []⟩ := by
    rw [ph1]
    have a : st1 [kA r n e tx, ⟨n, tx, e, []⟩] [kB r n e tx ty, ⟨n, ty, e, []⟩, ⟨n, tx, e, []⟩] ⟨[-1, -1, -1], 2, [⟨0, r, e, e, none, [1]⟩, ⟨1, n, tx, e, some 0, []⟩], []⟩ (0, 0) = some ⟨[0, -1, -1], 2, [⟨0, r, e, e, none, [1]⟩, ⟨1, n, tx, e, some 0, []⟩], []⟩ := by
      unfold st1
      dsimp only
      rw [if_pos ⟨rfl, rfl⟩]
      rfl
    rw [a, Option.bind_some, ph1]
    have b : st1 [kA r n e tx, ⟨n, tx, e, []⟩] [kB r n e tx ty, ⟨n, ty, e, []⟩, ⟨n, tx, e, []⟩] ⟨[0, -1, -1], 2, [⟨0, r, e, e, none, [1]⟩, ⟨1, n, tx, e, some 0, []⟩], []⟩ (1, 2) = some ⟨[0, -1, 1], 2, [⟨0, r, e, e, none, [1]⟩, ⟨1, n, tx, e, some 0, []⟩], []⟩ := by
      unfold st1
      dsimp only
      rw [if_pos ⟨rfl, rfl⟩]
      rfl
    rw [b, Option.bind_some, ph1]
  have h1' : ph1 [kA r n e tx, ⟨n, tx, e, []⟩] [kB r n e tx ty, ⟨n, ty, e, []⟩, ⟨n, tx, e, []⟩] [(0, 0), (1, 2)] ⟨List.replicate [kB r n e tx ty, ⟨n, ty, e, []⟩, ⟨n, tx, e, []⟩].length (-1), (([kA r n e tx, ⟨n, tx, e, []⟩].length : Nat) : Int), groveP [kA r n e tx, ⟨n, tx, e, []⟩] [-1, 0] [kA r n e tx, ⟨n, tx, e, []⟩].length, []⟩ = _ := h1
  dsimp only
  rw [h1', Option.bind_some]
  have p0 : placeStep [kB r n e tx ty, ⟨n, ty, e, []⟩, ⟨n, tx, e, []⟩] [[1, 2], [], []] ⟨[0, -1, 1], 2, [⟨0, r, e, e, none, [1]⟩, ⟨1, n, tx, e, some 0, []⟩], []⟩ 0 = some ⟨[0, 2, 1], 3, [⟨0, r, e, e, none, [2, 1]⟩, ⟨1, n, tx, e, some 0, []⟩, ⟨2, n, ty, e, some 0, []⟩], [kE n e ty]⟩ := by
    unfold placeStep
    have hg : gAt [(⟨0, r, e, e, none, [1]⟩ : Kn), ⟨1, n, tx, e, some 0, []⟩] (([0, -1, 1] : List Int).getD 0 0) = some ⟨0, r, e, e, none, [1]⟩ := rfl
    dsimp only
    rw [hg]
    dsimp only
    have hk1 := kidStep_new (M := [kB r n e tx ty, ⟨n, ty, e, []⟩, ⟨n, tx, e, []⟩]) (i := 0) (k := 1) (st := stayK [0, -1, 1] ⟨0, r, e, e, none, [1]⟩ [1, 2]) (s := ⟨[0, -1, 1], 2, [⟨0, r, e, e, none, [1]⟩, ⟨1, n, tx, e, some 0, []⟩], []⟩) (last := -1) (by show (-1 : Int) < 0; decide)
    have hr := run_kA r n e tx ty [0, 2, 1] 3
    have hk1' : kidStep [kB r n e tx ty, ⟨n, ty, e, []⟩, ⟨n, tx, e, []⟩] 0 (stayK [0, -1, 1] ⟨0, r, e, e, none, [1]⟩ [1, 2]) (⟨[0, -1, 1], 2, [⟨0, r, e, e, none, [1]⟩, ⟨1, n, tx, e, some 0, []⟩], []⟩, -1) 1 = (Os.run ⟨[0, 2, 1], 3, [⟨0, r, e, e, none, [1]⟩, ⟨1, n, tx, e, some 0, []⟩], []⟩ (kE n e ty)).map fun t => (t, 2) := hk1
    have hk2 := kidStep_stay (M := [kB r n e tx ty, ⟨n, ty, e, []⟩, ⟨n, tx, e, []⟩]) (i := 0) (k := 2) (st := stayK [0, -1, 1] ⟨0, r, e, e, none, [1]⟩ [1, 2]) (s := ⟨[0, 2, 1], 3, [⟨0, r, e, e, none, [2, 1]⟩, ⟨1, n, tx, e, some 0, []⟩, ⟨2, n, ty, e, some 0, []⟩], [kE n e ty]⟩) (last := 2) (by show ¬ (1 : Int) < 0; decide) (by rfl)
    have hc : ([[1, 2], [], []] : List (List Int)).getD 0 [] = [1, 2] := rfl
    rw [hc, kidsR, hk1', hr, Option.map_some, Option.bind_some, kidsR]
    have hk2' : kidStep [kB r n e tx ty, ⟨n, ty, e, []⟩, ⟨n, tx, e, []⟩] 0 (stayK [0, -1, 1] ⟨0, r, e, e, none, [1]⟩ [1, 2]) (⟨[0, 2, 1], 3, [⟨0, r, e, e, none, [2, 1]⟩, ⟨1, n, tx, e, some 0, []⟩, ⟨2, n, ty, e, some 0, []⟩], [kE n e ty]⟩, 2) 2 = _ := hk2
    rw [hk2', Option.bind_some, kidsR]
    rfl
  have h2 : ph2 [kB r n e tx ty, ⟨n, ty, e, []⟩, ⟨n, tx, e, []⟩] [[1, 2], [], []] 3 0 ⟨[0, -1, 1], 2, [⟨0, r, e, e, none, [1]⟩, ⟨1, n, tx, e, some 0, []⟩], []⟩ = some ⟨[0, 2, 1], 3, [⟨0, r, e, e, none, [2, 1]⟩, ⟨1, n, tx, e, some 0, []⟩, ⟨2, n, ty, e, some 0, []⟩], [kE n e ty]⟩ := by
    rw [ph2, p0, Option.bind_some]
    rfl
  have h2' : ph2 [kB r n e tx ty, ⟨n, ty, e, []⟩, ⟨n, tx, e, []⟩] [[1, 2], [], []] [kB r n e tx ty, ⟨n, ty, e, []⟩, ⟨n, tx, e, []⟩].length 0 ⟨[0, -1, 1], 2, [⟨0, r, e, e, none, [1]⟩, ⟨1, n, tx, e, some 0, []⟩], []⟩ = _ := h2
  rw [h2', Option.bind_some]
  exact ph3_self 2 (fun j hj => decide_eq_true (by
    rcases (show j = 0 ∨ j = 1 by omega) with rfl | rfl <;> simp))
end
end Go.Proofs.Ytfmlpkeaiohknaa.Q
/-! Right pairs: a tree with itself, the chapter's example; Apply at the example. -/
set_option linter.unusedVariables false
set_option linter.unusedSimpArgs false
namespace Go.Proofs.Ytfmlpkeaiohknaa.Q
section
variable (r n : Int) (e tx ty : ByteArray)
theorem right_known : rightK (ofP (kA r n e tx)).N (ofP (kB r n e tx ty)).N [(0, 0), (1, 2)] = true := by
  rw [ofP_kA, ofP_kB]
  unfold rightK
  refine decide_eq_true ⟨fun i hi hb => ?_, by decide, rfl⟩
  simp only [List.length_cons, List.length_nil] at hi
  rcases (show i = 0 ∨ i = 1 by omega) with rfl | rfl
  · unfold pairBad at hb
    simp [kA, kB] at hb
  · unfold pairBad at hb
    simp at hb
theorem nsz_kA : nsz (kA r n e tx) = 2 := rfl
theorem nsz_kB : nsz (kB r n e tx ty) = 3 := rfl
theorem run_known : runK (groveX (kA r n e tx)) [kE n e ty] 0 = .inr [⟨0, r, e, e, none, [2, 1]⟩, ⟨1, n, tx, e, some 0, []⟩, ⟨2, n, ty, e, some 0, []⟩] := by
  rw [grove_kA, runK, do_kA]
  rfl
theorem tree_known : treeOf [⟨0, r, e, e, none, [2, 1]⟩, ⟨1, n, tx, e, some 0, []⟩, ⟨2, n, ty, e, some 0, []⟩] 0 = kB r n e tx ty := by
  have hp : PlanOk (kA r n e tx) := planOk (by rw [nsz_kA]; omega)
  have I := groveX_inv hp
  rw [grove_kA] at I
  have I2 := doK_inv I (by unfold in64; show (-9223372036854775808 : Int) ≤ 2 ∧ (2 : Int) ≤ 9223372036854775807; decide) (do_kA r n e tx ty)
  have h0 := treeOf_eq I2 (k := ⟨0, r, e, e, none, [2, 1]⟩) (by simp)
  have h1 := treeOf_eq I2 (k := ⟨1, n, tx, e, some 0, []⟩) (by simp)
  have h2 := treeOf_eq I2 (k := ⟨2, n, ty, e, some 0, []⟩) (by simp)
  dsimp only at h0 h1 h2
  rw [h0, List.map_cons, List.map_cons, h1, h2]
  rfl
theorem gone_known (es : ByteArray) : runK (groveX (kA r n e tx)) [⟨2, 0, 0, 0, 0, es, es⟩] 0 = .inl 0 := by
  rw [grove_kA, runK]
  have : doK [⟨0, r, e, e, none, [1]⟩, ⟨1, n, tx, e, some 0, []⟩] (edOf ⟨2, 0, 0, 0, 0, es, es⟩) = none := by
    unfold doK
    rw [if_neg (show ¬ (edOf ⟨2, 0, 0, 0, 0, es, es⟩).so = 1 by show ¬ (2 : Int) = 1; decide), if_pos (show (edOf ⟨2, 0, 0, 0, 0, es, es⟩).so = 2 from rfl)]
    rfl
  rw [this]
end
end Go.Proofs.Ytfmlpkeaiohknaa.Q
-- Written by a program of this session (wip/mkprint.py, wip/pr.sh) for this claim; Lean checks it.
namespace Go.Proofs.Ytfmlpkeaiohknaa.Q
open Go.RowKit Go.Proofs.YtfmlpkeaiohknaaW.PrintWords Go.Proofs.YtfmlpkeaiohknaaW.PrintLast Go.Proofs.YtfmlpkeaiohknaaW.PrintMore
attribute [local go_sem] max2_int min2_int max_two min_two max_three min_three max_four min_four   -- for this text's walks alone
set_option linter.unusedVariables false
set_option linter.unusedSimpArgs false
/-! ### scarfref05_Same: function 14 -/
mutual
def scarfref05_Same.j0 : Nat → Bool → Int → ByteArray → ByteArray → List (S24) → Int → ByteArray → ByteArray → List (S24) → Option (Bool)
 | 0, _, _, _, _, _, _, _, _, _ => none
 | k + 1, x33, x128000, x128001, x128002, x128003, x129000, x129001, x129002, x129003 => if x33 = true then (some false) else (scarfref05_Same.l0 k 0 x128000 x128001 x128002 x128003 x129000 x129001 x129002 x129003)
def scarfref05_Same.l0 : Nat → Int → Int → ByteArray → ByteArray → List (S24) → Int → ByteArray → ByteArray → List (S24) → Option (Bool)
 | 0, _, _, _, _, _, _, _, _, _ => none
 | k + 1, x5, x128000, x128001, x128002, x128003, x129000, x129001, x129002, x129003 => if x5 < (x128003.length : Int) then (if 0 ≤ x5 then (if x5 < (x129003.length : Int) then ((scarfref05_Same.f k ((rd_T24 x128003 x5).f0) ((rd_T24 x128003 x5).f1) ((rd_T24 x128003 x5).f2) ((rd_T24 x128003 x5).f3) ((rd_T24 x129003 x5).f0) ((rd_T24 x129003 x5).f1) ((rd_T24 x129003 x5).f2) ((rd_T24 x129003 x5).f3)).bind fun t131 => (if t131 = true then (scarfref05_Same.l0 k (wrap64 (x5 + 1)) x128000 x128001 x128002 x128003 x129000 x129001 x129002 x129003) else (some false))) else (none)) else (none)) else (some true)
def scarfref05_Same.f : Nat → Int → ByteArray → ByteArray → List (S24) → Int → ByteArray → ByteArray → List (S24) → Option (Bool)
 | 0, _, _, _, _, _, _, _, _ => none
 | k + 1, a0_0, a0_1, a0_2, l0_3, a1_0, a1_1, a1_2, l1_3 => if a0_0 = a1_0 then (if a0_1.toList = a1_1.toList then (if a0_2.toList = a1_2.toList then (scarfref05_Same.j0 k ((l0_3.length : Int) != (l1_3.length : Int)) a0_0 a0_1 a0_2 l0_3 a1_0 a1_1 a1_2 l1_3) else (scarfref05_Same.j0 k true a0_0 a0_1 a0_2 l0_3 a1_0 a1_1 a1_2 l1_3)) else (scarfref05_Same.j0 k true a0_0 a0_1 a0_2 l0_3 a1_0 a1_1 a1_2 l1_3)) else (scarfref05_Same.j0 k true a0_0 a0_1 a0_2 l0_3 a1_0 a1_1 a1_2 l1_3)
end
theorem scarfref05_Same.mono_l : ∀ k, (∀ y0 y1 y2 y3 y4 y5 y6 y7, LeO (scarfref05_Same.f k y0 y1 y2 y3 y4 y5 y6 y7) (scarfref05_Same.f (k + 1) y0 y1 y2 y3 y4 y5 y6 y7)) ∧ (∀ y0 y1 y2 y3 y4 y5 y6 y7 y8, LeO (scarfref05_Same.j0 k y0 y1 y2 y3 y4 y5 y6 y7 y8) (scarfref05_Same.j0 (k + 1) y0 y1 y2 y3 y4 y5 y6 y7 y8)) ∧ (∀ y0 y1 y2 y3 y4 y5 y6 y7 y8, LeO (scarfref05_Same.l0 k y0 y1 y2 y3 y4 y5 y6 y7 y8) (scarfref05_Same.l0 (k + 1) y0 y1 y2 y3 y4 y5 y6 y7 y8))
 | 0 => ⟨fun _ _ _ _ _ _ _ _ r h => by simp [scarfref05_Same.f] at h, fun _ _ _ _ _ _ _ _ _ r h => by simp [scarfref05_Same.j0] at h, fun _ _ _ _ _ _ _ _ _ r h => by simp [scarfref05_Same.l0] at h⟩
 | k + 1 => by
  obtain ⟨ih0, ih1, ih2⟩ := scarfref05_Same.mono_l k
  refine ⟨?_, ?_, ?_⟩
  ·intro y0 y1 y2 y3 y4 y5 y6 y7
   unfold scarfref05_Same.f
   repeat' first
   | (with_reducible exact ih0 _ _ _ _ _ _ _ _)
   | (with_reducible exact ih1 _ _ _ _ _ _ _ _ _)
   | (with_reducible exact ih2 _ _ _ _ _ _ _ _ _)
   | (with_reducible exact LeO.refl _)
   | (with_reducible exact LeO.none _)
   | (with_reducible refine LeO.ite ?_ ?_)
   | (with_reducible refine LeO.bind ?_ (fun _ => ?_))
   | exact ih0 _ _ _ _ _ _ _ _
   | exact ih1 _ _ _ _ _ _ _ _ _
   | exact ih2 _ _ _ _ _ _ _ _ _
   | exact LeO.none _
   | refine LeO.ite ?_ ?_
   | refine LeO.bind ?_ (fun _ => ?_)
  ·intro y0 y1 y2 y3 y4 y5 y6 y7 y8
   unfold scarfref05_Same.j0
   repeat' first
   | (with_reducible exact ih0 _ _ _ _ _ _ _ _)
   | (with_reducible exact ih1 _ _ _ _ _ _ _ _ _)
   | (with_reducible exact ih2 _ _ _ _ _ _ _ _ _)
   | (with_reducible exact LeO.refl _)
   | (with_reducible exact LeO.none _)
   | (with_reducible refine LeO.ite ?_ ?_)
   | (with_reducible refine LeO.bind ?_ (fun _ => ?_))
   | exact ih0 _ _ _ _ _ _ _ _
   | exact ih1 _ _ _ _ _ _ _ _ _
   | exact ih2 _ _ _ _ _ _ _ _ _
   | exact LeO.none _
   | refine LeO.ite ?_ ?_
   | refine LeO.bind ?_ (fun _ => ?_)
  ·intro y0 y1 y2 y3 y4 y5 y6 y7 y8
   unfold scarfref05_Same.l0
   repeat' first
   | (with_reducible exact ih0 _ _ _ _ _ _ _ _)
   | (with_reducible exact ih1 _ _ _ _ _ _ _ _ _)
   | (with_reducible exact ih2 _ _ _ _ _ _ _ _ _)
   | (with_reducible exact LeO.refl _)
   | (with_reducible exact LeO.none _)
   | (with_reducible refine LeO.ite ?_ ?_)
   | (with_reducible refine LeO.bind ?_ (fun _ => ?_))
   | exact ih0 _ _ _ _ _ _ _ _
   | exact ih1 _ _ _ _ _ _ _ _ _
   | exact ih2 _ _ _ _ _ _ _ _ _
   | exact LeO.none _
   | refine LeO.ite ?_ ?_
   | refine LeO.bind ?_ (fun _ => ?_)
theorem scarfref05_Same.mono : ∀ a0 a1 a2 a3 a4 a5 a6 a7 k, LeO (scarfref05_Same.f k a0 a1 a2 a3 a4 a5 a6 a7) (scarfref05_Same.f (k + 1) a0 a1 a2 a3 a4 a5 a6 a7) := by
 intro a0 a1 a2 a3 a4 a5 a6 a7 k
 obtain ⟨ih0, ih1, ih2⟩ := scarfref05_Same.mono_l k
 exact ih0 a0 a1 a2 a3 a4 a5 a6 a7
def scarfref05_Same.T6 : Bool × List (List Nat × List Nat) := (true, [([], []), ([0], [0]), ([], []), ([1, 2], [1, 2]), ([3], [3]), ([], []), ([5], [5]), ([], []), ([6, 7], [6, 7]), ([8], [8]), ([4, 9], [4, 9]), ([10], [10])])
def scarfref05_Same.B6 : List Nat := [0, 1, 0, 7, 15, 0, 32, 0, 224, 480, 1023, 2047]
theorem scarfref05_Same.tab6 : rtab .any (opsOf Try.f14 6) = scarfref05_Same.T6 := by kernel_rfl
theorem scarfref05_Same.bits6 : waitsOk scarfref05_Same.T6.2 scarfref05_Same.B6 = true := by kernel_rfl
set_option maxHeartbeats 8000000 in
set_option maxRecDepth 100000 in
theorem scarfref05_Same.calls (k : Nat) : ∀ (a0_0 : Int) (a0_1 : ByteArray) (a0_2 : ByteArray) (A0_3 : Option Addr) (c0_3 : Nat) (l0_3 : List (S24)) (a1_0 : Int) (a1_1 : ByteArray) (a1_2 : ByteArray) (A1_3 : Option Addr) (c1_3 : Nat) (l1_3 : List (S24)) (r : Bool) (w : World) (hr0_3 : Kd.C k24 w A0_3 l0_3.length l0_3) (hc0_3 : l0_3.length ≤ c0_3) (hr1_3 : Kd.C k24 w A1_3 l1_3.length l1_3) (hc1_3 : l1_3.length ≤ c1_3) (h : scarfref05_Same.f k a0_0 a0_1 a0_2 l0_3 a1_0 a1_1 a1_2 l1_3 = some r),
  Calls Try.prog 14 #[.agg #[.int .i64 a0_0, .string a0_1, .string a0_2, .slice A0_3 l0_3.length c0_3], .agg #[.int .i64 a1_0, .string a1_1, .string a1_2, .slice A1_3 l1_3.length c1_3]] w fun e w' => e = .returned (.bool r) ∧ Below w.heap.size w w' := by
 induction k using Nat.strongRecOn with
 | _ k ih =>
 intro a0_0 a0_1 a0_2 A0_3 c0_3 l0_3 a1_0 a1_1 a1_2 A1_3 c1_3 l1_3 r w hr0_3 hc0_3 hr1_3 hc1_3 h
 cases k with
 | zero => exact absurd h (by simp [scarfref05_Same.f])
 | succ k =>
 simp only [scarfref05_Same.f] at h
 have hu24 := Try.underlying24
 have HR0_3 := Aside0.mk hr0_3
 have HC0_3 := Aside0.mk hc0_3
 clear hr0_3 hc0_3
 have HR1_3 := Aside0.mk hr1_3
 have HC1_3 := Aside0.mk hc1_3
 clear hr1_3 hc1_3
 have HB := Aside0.mk (Below.refl w.heap.size w)
 have H : (if a0_0 = a1_0 then (if a0_1.toList = a1_1.toList then (if a0_2.toList = a1_2.toList then (scarfref05_Same.j0 k ((l0_3.length : Int) != (l1_3.length : Int)) a0_0 a0_1 a0_2 l0_3 a1_0 a1_1 a1_2 l1_3) else (scarfref05_Same.j0 k true a0_0 a0_1 a0_2 l0_3 a1_0 a1_1 a1_2 l1_3)) else (scarfref05_Same.j0 k true a0_0 a0_1 a0_2 l0_3 a1_0 a1_1 a1_2 l1_3)) else (scarfref05_Same.j0 k true a0_0 a0_1 a0_2 l0_3 a1_0 a1_1 a1_2 l1_3)) = some r := h
 clear h
 have HC3 := Aside0.mk H
 clear H
 go_enter Try.func14, Try.ntmps14
 go_upto_region 1 with (first | ((with_reducible refine gate_dst (N := 2) rfl ?_); (try (refine gate_guard (by rfl) ?_; dsimp only)); refine box_event ?hg (N := 2) ?hd (cs := #[.int .i64 a0_0, .string a0_1, .string a0_2, .slice A0_3 l0_3.length c0_3]) (t := 24) ?hr ?_; (case hd => rfl); (case hg => rfl); (case hr => first | (go_simp; done) | (go_simp; rfl)); intro gb127 hg w4 hbox hb; have n0_ := Aside0.mk (below_step (by repeat (first | (with_reducible first | exact HB.out | apply below_alloc | apply pw_below_drewN | apply below_drew1) | exact HB.out)) hb); have n1_ := Aside0.mk (hbox); have n2_ := Aside0.mk ((by rw [hg]; exact (below_size (by repeat (first | (with_reducible first | exact HB.out | apply below_alloc | apply pw_below_drewN | apply below_drew1) | exact HB.out))) : w.heap.size ≤ gb127)); have n3_ := Aside0.mk ((by rw [hg]; exact (below_size (by repeat (first | (with_reducible first | exact HB.out | apply below_alloc | apply pw_below_drewN | apply below_drew1) | exact HB.out))) : w.heap.size ≤ gb127)); clear HB; have HB := n0_; have BK127 := n1_; have GW127 := n2_; have GE127 := n3_; clear n0_ n1_ n2_ n3_; clear hb hbox hg) | ((with_reducible refine gate_dst (N := 3) rfl ?_); (try (refine gate_guard (by rfl) ?_; dsimp only)); refine box_event ?hg (N := 3) ?hd (cs := #[.int .i64 a1_0, .string a1_1, .string a1_2, .slice A1_3 l1_3.length c1_3]) (t := 24) ?hr ?_; (case hd => rfl); (case hg => rfl); (case hr => first | (go_simp; done) | (go_simp; rfl)); intro gb128 hg w5 hbox hb; have n0_ := Aside0.mk (blk_below (g := gb127) (o := .cells #[.int .i64 a0_0, .string a0_1, .string a0_2, .slice A0_3 l0_3.length c0_3] 24 (0, 0)) (by (with_reducible repeat (first | refine blk_drewN ?_ _ | refine blk_drew ?_ | refine blk_alloc ?_ _)); exact BK127.out) hb); have n1_ := Aside0.mk (below_step (by repeat (first | (with_reducible first | exact HB.out | apply below_alloc | apply pw_below_drewN | apply below_drew1 | refine below_set ?_ GE127.out) | exact HB.out)) hb); have n2_ := Aside0.mk (hbox); have n3_ := Aside0.mk ((by rw [hg]; exact (below_size (by repeat (first | (with_reducible first | exact HB.out | apply below_alloc | apply pw_below_drewN | apply below_drew1 | refine below_set ?_ GE127.out) | exact HB.out))) : w.heap.size ≤ gb128)); have n4_ := Aside0.mk ((by rw [hg]; exact (below_size (by repeat (first | (with_reducible first | exact HB.out | apply below_alloc | apply pw_below_drewN | apply below_drew1 | refine below_set ?_ GE127.out) | exact HB.out))) : w.heap.size ≤ gb128)); have n5_ := Aside0.mk ((by rw [hg]; exact Nat.ne_of_lt (blk_lt (g := gb127) (o := .cells #[.int .i64 a0_0, .string a0_1, .string a0_2, .slice A0_3 l0_3.length c0_3] 24 (0, 0)) (by (with_reducible repeat (first | refine blk_drewN ?_ _ | refine blk_drew ?_ | refine blk_alloc ?_ _)); exact BK127.out)) : gb127 ≠ gb128)); have n6_ := Aside0.mk ((by rw [hg]; exact Nat.ne_of_gt (blk_lt (g := gb127) (o := .cells #[.int .i64 a0_0, .string a0_1, .string a0_2, .slice A0_3 l0_3.length c0_3] 24 (0, 0)) (by (with_reducible repeat (first | refine blk_drewN ?_ _ | refine blk_drew ?_ | refine blk_alloc ?_ _)); exact BK127.out)) : gb128 ≠ gb127)); clear BK127; clear HB; have BK127 := n0_; have HB := n1_; have BK128 := n2_; have GW128 := n3_; have GE128 := n4_; have NB127_128 := n5_; have NB128_127 := n6_; clear n0_ n1_ n2_ n3_ n4_ n5_ n6_; clear hb hbox hg))
 (try simp only [Act.put, List.setIfInBounds_toArray, List.set_cons_zero, List.set_cons_succ])
 go_cut [33] (fun v33 wc => ∃ (kq : Nat) (x33_2 : Bool), v33 = .bool x33_2 ∧ Aside0 (scarfref05_Same.j0 kq x33_2 a0_0 a0_1 a0_2 l0_3 a1_0 a1_1 a1_2 l1_3 = some r) ∧ Aside0 (kq ≤ k) ∧ Aside0 (wc.heap[gb127]? = some (.cells #[.int .i64 a0_0, .string a0_1, .string a0_2, (.slice A0_3 l0_3.length c0_3)] 24 (0, 0))) ∧ Aside0 (wc.heap[gb128]? = some (.cells #[.int .i64 a1_0, .string a1_1, .string a1_2, (.slice A1_3 l1_3.length c1_3)] 24 (0, 0))) ∧ Aside0 (Below w.heap.size w wc))
 case first =>
  have H := HC3.out
  clear HC3
  by_cases c6 : a0_0 = a1_0
  ·rw [if_pos c6] at H
   have c6b0 : (a0_0 == a1_0) = true := beq_iff_eq.mpr c6
   have c6b1 : (a0_0 != a1_0) = false := bne_eq_false_iff_eq.mpr c6
   clear c6
   (first | rw [c6b0] | (simp only [i64_w, i32_w]; rw [c6b0]) | skip)
   by_cases c7 : a0_1.toList = a1_1.toList
   ·rw [if_pos c7] at H
    have c7b0 : (a0_1.toList == a1_1.toList) = true := beq_iff_eq.mpr c7
    have c7b1 : (a0_1.toList != a1_1.toList) = false := bne_eq_false_iff_eq.mpr c7
    clear c7
    by_cases c8 : a0_2.toList = a1_2.toList
    ·rw [if_pos c8] at H
     have c8b0 : (a0_2.toList == a1_2.toList) = true := beq_iff_eq.mpr c8
     have c8b1 : (a0_2.toList != a1_2.toList) = false := bne_eq_false_iff_eq.mpr c8
     clear c8
     have H' := Aside0.mk H
     clear H
     have hnb9 := NB127_128.out
     have hnc9 := NB128_127.out
     have hcz10_0 : w5.cell? ⟨gb127, 0, none⟩ = some (.int .i64 a0_0) := (blk_cell BK127.out 0).trans rfl
     have hcz10_1 : w5.cell? ⟨gb127, 1, none⟩ = some (.string a0_1) := (blk_cell BK127.out 1).trans rfl
     have hcz10_2 : w5.cell? ⟨gb127, 2, none⟩ = some (.string a0_2) := (blk_cell BK127.out 2).trans rfl
     have hcz10_3 : w5.cell? ⟨gb127, 3, none⟩ = some (.slice A0_3 l0_3.length c0_3) := (blk_cell BK127.out 3).trans rfl
     have hfz10_0 := blk_frozen BK127.out 0
     have hfz10_1 := blk_frozen BK127.out 1
     have hfz10_2 := blk_frozen BK127.out 2
     have hfz10_3 := blk_frozen BK127.out 3
     have hcz11_0 : w5.cell? ⟨gb128, 0, none⟩ = some (.int .i64 a1_0) := (blk_cell BK128.out 0).trans rfl
     have hcz11_1 : w5.cell? ⟨gb128, 1, none⟩ = some (.string a1_1) := (blk_cell BK128.out 1).trans rfl
     have hcz11_2 : w5.cell? ⟨gb128, 2, none⟩ = some (.string a1_2) := (blk_cell BK128.out 2).trans rfl
     have hcz11_3 : w5.cell? ⟨gb128, 3, none⟩ = some (.slice A1_3 l1_3.length c1_3) := (blk_cell BK128.out 3).trans rfl
     have hfz11_0 := blk_frozen BK128.out 0
     have hfz11_1 := blk_frozen BK128.out 1
     have hfz11_2 := blk_frozen BK128.out 2
     have hfz11_3 := blk_frozen BK128.out 3
     go_wp2
     go_meet
     case rel => exact ⟨_, (((l0_3.length : Int) != (l1_3.length : Int))), (by first | rfl | (simp; done) | (simp [*]; done)), H', ⟨by first | omega | exact Nat.le_refl _⟩, ⟨by (with_reducible repeat (first | refine blk_drewN ?_ _ | refine blk_drew ?_ | refine blk_alloc ?_ _)); exact BK127.out⟩, ⟨by (with_reducible repeat (first | refine blk_drewN ?_ _ | refine blk_drew ?_ | refine blk_alloc ?_ _)); exact BK128.out⟩, ⟨by repeat (first | (with_reducible first | exact HB.out | apply below_alloc | apply pw_below_drewN | apply below_drew1 | refine below_set ?_ GE127.out | refine below_set ?_ GE128.out) | exact HB.out)⟩⟩
    ·rw [if_neg c8] at H
     have c8b0 : (a0_2.toList == a1_2.toList) = false := beq_eq_false_iff_ne.mpr c8
     have c8b1 : (a0_2.toList != a1_2.toList) = true := bne_iff_ne.mpr c8
     have H' := Aside0.mk H
     clear H
     have hnb12 := NB127_128.out
     have hnc12 := NB128_127.out
     have hcz13_0 : w5.cell? ⟨gb127, 0, none⟩ = some (.int .i64 a0_0) := (blk_cell BK127.out 0).trans rfl
     have hcz13_1 : w5.cell? ⟨gb127, 1, none⟩ = some (.string a0_1) := (blk_cell BK127.out 1).trans rfl
     have hcz13_2 : w5.cell? ⟨gb127, 2, none⟩ = some (.string a0_2) := (blk_cell BK127.out 2).trans rfl
     have hcz13_3 : w5.cell? ⟨gb127, 3, none⟩ = some (.slice A0_3 l0_3.length c0_3) := (blk_cell BK127.out 3).trans rfl
     have hfz13_0 := blk_frozen BK127.out 0
     have hfz13_1 := blk_frozen BK127.out 1
     have hfz13_2 := blk_frozen BK127.out 2
     have hfz13_3 := blk_frozen BK127.out 3
     have hcz14_0 : w5.cell? ⟨gb128, 0, none⟩ = some (.int .i64 a1_0) := (blk_cell BK128.out 0).trans rfl
     have hcz14_1 : w5.cell? ⟨gb128, 1, none⟩ = some (.string a1_1) := (blk_cell BK128.out 1).trans rfl
     have hcz14_2 : w5.cell? ⟨gb128, 2, none⟩ = some (.string a1_2) := (blk_cell BK128.out 2).trans rfl
     have hcz14_3 : w5.cell? ⟨gb128, 3, none⟩ = some (.slice A1_3 l1_3.length c1_3) := (blk_cell BK128.out 3).trans rfl
     have hfz14_0 := blk_frozen BK128.out 0
     have hfz14_1 := blk_frozen BK128.out 1
     have hfz14_2 := blk_frozen BK128.out 2
     have hfz14_3 := blk_frozen BK128.out 3
     go_wp2
     go_meet
     case rel => exact ⟨_, (true), (by first | rfl | (simp; done) | (simp [*]; done)), H', ⟨by first | omega | exact Nat.le_refl _⟩, ⟨by (with_reducible repeat (first | refine blk_drewN ?_ _ | refine blk_drew ?_ | refine blk_alloc ?_ _)); exact BK127.out⟩, ⟨by (with_reducible repeat (first | refine blk_drewN ?_ _ | refine blk_drew ?_ | refine blk_alloc ?_ _)); exact BK128.out⟩, ⟨by repeat (first | (with_reducible first | exact HB.out | apply below_alloc | apply pw_below_drewN | apply below_drew1 | refine below_set ?_ GE127.out | refine below_set ?_ GE128.out) | exact HB.out)⟩⟩
   ·rw [if_neg c7] at H
    have c7b0 : (a0_1.toList == a1_1.toList) = false := beq_eq_false_iff_ne.mpr c7
    have c7b1 : (a0_1.toList != a1_1.toList) = true := bne_iff_ne.mpr c7
    have H' := Aside0.mk H
    clear H
    have hnb15 := NB127_128.out
    have hnc15 := NB128_127.out
    have hcz16_0 : w5.cell? ⟨gb127, 0, none⟩ = some (.int .i64 a0_0) := (blk_cell BK127.out 0).trans rfl
    have hcz16_1 : w5.cell? ⟨gb127, 1, none⟩ = some (.string a0_1) := (blk_cell BK127.out 1).trans rfl
    have hcz16_2 : w5.cell? ⟨gb127, 2, none⟩ = some (.string a0_2) := (blk_cell BK127.out 2).trans rfl
    have hcz16_3 : w5.cell? ⟨gb127, 3, none⟩ = some (.slice A0_3 l0_3.length c0_3) := (blk_cell BK127.out 3).trans rfl
    have hfz16_0 := blk_frozen BK127.out 0
    have hfz16_1 := blk_frozen BK127.out 1
    have hfz16_2 := blk_frozen BK127.out 2
    have hfz16_3 := blk_frozen BK127.out 3
    have hcz17_0 : w5.cell? ⟨gb128, 0, none⟩ = some (.int .i64 a1_0) := (blk_cell BK128.out 0).trans rfl
    have hcz17_1 : w5.cell? ⟨gb128, 1, none⟩ = some (.string a1_1) := (blk_cell BK128.out 1).trans rfl
    have hcz17_2 : w5.cell? ⟨gb128, 2, none⟩ = some (.string a1_2) := (blk_cell BK128.out 2).trans rfl
    have hcz17_3 : w5.cell? ⟨gb128, 3, none⟩ = some (.slice A1_3 l1_3.length c1_3) := (blk_cell BK128.out 3).trans rfl
    have hfz17_0 := blk_frozen BK128.out 0
    have hfz17_1 := blk_frozen BK128.out 1
    have hfz17_2 := blk_frozen BK128.out 2
    have hfz17_3 := blk_frozen BK128.out 3
    go_wp2
    go_meet
    case rel => exact ⟨_, (true), (by first | rfl | (simp; done) | (simp [*]; done)), H', ⟨by first | omega | exact Nat.le_refl _⟩, ⟨by (with_reducible repeat (first | refine blk_drewN ?_ _ | refine blk_drew ?_ | refine blk_alloc ?_ _)); exact BK127.out⟩, ⟨by (with_reducible repeat (first | refine blk_drewN ?_ _ | refine blk_drew ?_ | refine blk_alloc ?_ _)); exact BK128.out⟩, ⟨by repeat (first | (with_reducible first | exact HB.out | apply below_alloc | apply pw_below_drewN | apply below_drew1 | refine below_set ?_ GE127.out | refine below_set ?_ GE128.out) | exact HB.out)⟩⟩
  ·rw [if_neg c6] at H
   have c6b0 : (a0_0 == a1_0) = false := beq_eq_false_iff_ne.mpr c6
   have c6b1 : (a0_0 != a1_0) = true := bne_iff_ne.mpr c6
   (first | rw [c6b0] | (simp only [i64_w, i32_w]; rw [c6b0]) | skip)
   have H' := Aside0.mk H
   clear H
   have hnb18 := NB127_128.out
   have hnc18 := NB128_127.out
   have hcz19_0 : w5.cell? ⟨gb127, 0, none⟩ = some (.int .i64 a0_0) := (blk_cell BK127.out 0).trans rfl
   have hcz19_1 : w5.cell? ⟨gb127, 1, none⟩ = some (.string a0_1) := (blk_cell BK127.out 1).trans rfl
   have hcz19_2 : w5.cell? ⟨gb127, 2, none⟩ = some (.string a0_2) := (blk_cell BK127.out 2).trans rfl
   have hcz19_3 : w5.cell? ⟨gb127, 3, none⟩ = some (.slice A0_3 l0_3.length c0_3) := (blk_cell BK127.out 3).trans rfl
   have hfz19_0 := blk_frozen BK127.out 0
   have hfz19_1 := blk_frozen BK127.out 1
   have hfz19_2 := blk_frozen BK127.out 2
   have hfz19_3 := blk_frozen BK127.out 3
   have hcz20_0 : w5.cell? ⟨gb128, 0, none⟩ = some (.int .i64 a1_0) := (blk_cell BK128.out 0).trans rfl
   have hcz20_1 : w5.cell? ⟨gb128, 1, none⟩ = some (.string a1_1) := (blk_cell BK128.out 1).trans rfl
   have hcz20_2 : w5.cell? ⟨gb128, 2, none⟩ = some (.string a1_2) := (blk_cell BK128.out 2).trans rfl
   have hcz20_3 : w5.cell? ⟨gb128, 3, none⟩ = some (.slice A1_3 l1_3.length c1_3) := (blk_cell BK128.out 3).trans rfl
   have hfz20_0 := blk_frozen BK128.out 0
   have hfz20_1 := blk_frozen BK128.out 1
   have hfz20_2 := blk_frozen BK128.out 2
   have hfz20_3 := blk_frozen BK128.out 3
   go_wp2
   go_meet
   case rel => exact ⟨_, (true), (by first | rfl | (simp; done) | (simp [*]; done)), H', ⟨by first | omega | exact Nat.le_refl _⟩, ⟨by (with_reducible repeat (first | refine blk_drewN ?_ _ | refine blk_drew ?_ | refine blk_alloc ?_ _)); exact BK127.out⟩, ⟨by (with_reducible repeat (first | refine blk_drewN ?_ _ | refine blk_drew ?_ | refine blk_alloc ?_ _)); exact BK128.out⟩, ⟨by repeat (first | (with_reducible first | exact HB.out | apply below_alloc | apply pw_below_drewN | apply below_drew1 | refine below_set ?_ GE127.out | refine below_set ?_ GE128.out) | exact HB.out)⟩⟩
 case rest =>
  clear HC3
  try clear c1
  try clear p2
  try clear c6
  try clear c6b0
  try clear c6b1
  try clear c7
  try clear c7b0
  try clear c7b1
  try clear c8
  try clear c8b0
  try clear c8b1
  try clear c9
  try clear c12
  try clear c14
  try clear c15
  try clear c18
  try clear hcz10_0
  try clear hcz10_1
  try clear hcz10_2
  try clear hcz10_3
  try clear hcz11_0
  try clear hcz11_1
  try clear hcz11_2
  try clear hcz11_3
  try clear hcz13_0
  try clear hcz13_1
  try clear hcz13_2
  try clear hcz13_3
  try clear hcz14_0
  try clear hcz14_1
  try clear hcz14_2
  try clear hcz14_3
  try clear hcz16_0
  try clear hcz16_1
  try clear hcz16_2
  try clear hcz16_3
  try clear hcz17_0
  try clear hcz17_1
  try clear hcz17_2
  try clear hcz17_3
  try clear hcz19_0
  try clear hcz19_1
  try clear hcz19_2
  try clear hcz19_3
  try clear hcz20_0
  try clear hcz20_1
  try clear hcz20_2
  try clear hcz20_3
  try clear hfz10_0
  try clear hfz10_1
  try clear hfz10_2
  try clear hfz10_3
  try clear hfz11_0
  try clear hfz11_1
  try clear hfz11_2
  try clear hfz11_3
  try clear hfz13_0
  try clear hfz13_1
  try clear hfz13_2
  try clear hfz13_3
  try clear hfz14_0
  try clear hfz14_1
  try clear hfz14_2
  try clear hfz14_3
  try clear hfz16_0
  try clear hfz16_1
  try clear hfz16_2
  try clear hfz16_3
  try clear hfz17_0
  try clear hfz17_1
  try clear hfz17_2
  try clear hfz17_3
  try clear hfz19_0
  try clear hfz19_1
  try clear hfz19_2
  try clear hfz19_3
  try clear hfz20_0
  try clear hfz20_1
  try clear hfz20_2
  try clear hfz20_3
  obtain ⟨kq, x33_2, rfl, HA, HJ2, BK127, BK128, HB⟩ := hcut
  cases kq with
  | zero => exact absurd HA.out (by simp [scarfref05_Same.j0])
  | succ kj2 =>
   have H := HA.out
   clear HA
   simp only [scarfref05_Same.j0] at H
   by_cases c21 : x33_2 = true
   ·subst c21
    have H1 : (some false) = some r := by rw [if_pos rfl] at H; exact H
    clear H
    have H := H1
    clear H1
    obtain rfl := Option.some.inj H
    go_wp2
    go_ret
    exact ⟨by first | rfl | (simp [errW_none, errW_some] <;> rfl) | (simp [*, errW_none, errW_some] <;> rfl), by repeat (first | (with_reducible first | exact HB.out | apply below_alloc | apply pw_below_drewN | apply below_drew1 | refine below_set ?_ GE127.out | refine below_set ?_ GE128.out) | exact HB.out)⟩
   ·replace c21 := Bool.eq_false_iff.mpr c21
    subst c21
    have H1 : (scarfref05_Same.l0 kj2 0 a0_0 a0_1 a0_2 l0_3 a1_0 a1_1 a1_2 l1_3) = some r := by rw [if_neg (show ¬ (false = true) by decide)] at H; exact H
    clear H
    have H := H1
    clear H1
    have H' := Aside0.mk H
    clear H
    go_wp2
    go_loopg [5] kj2 (fun kq v5 w' => ∃ (x5_2 : Int), v5 = .int .i64 x5_2 ∧ Aside0 (scarfref05_Same.l0 kq x5_2 a0_0 a0_1 a0_2 l0_3 a1_0 a1_1 a1_2 l1_3 = some r) ∧ Aside0 (kq ≤ kj2) ∧ Aside0 (w'.heap[gb127]? = some (.cells #[.int .i64 a0_0, .string a0_1, .string a0_2, (.slice A0_3 l0_3.length c0_3)] 24 (0, 0))) ∧ Aside0 (w'.heap[gb128]? = some (.cells #[.int .i64 a1_0, .string a1_1, .string a1_2, (.slice A1_3 l1_3.length c1_3)] 24 (0, 0))) ∧ Aside0 (Below w.heap.size w w'))
    case atStart => exact ⟨(0), (by first | rfl | (simp; done) | (simp [*]; done)), H', ⟨Nat.le_refl _⟩, ⟨by (with_reducible repeat (first | refine blk_drewN ?_ _ | refine blk_drew ?_ | refine blk_alloc ?_ _)); exact BK127.out⟩, ⟨by (with_reducible repeat (first | refine blk_drewN ?_ _ | refine blk_drew ?_ | refine blk_alloc ?_ _)); exact BK128.out⟩, ⟨by repeat (first | (with_reducible first | exact HB.out | apply below_alloc | apply pw_below_drewN | apply below_drew1 | refine below_set ?_ GE127.out | refine below_set ?_ GE128.out) | exact HB.out)⟩⟩
    case round =>
     clear H'
     try clear c1
     try clear c2
     try clear p2
     try clear c6
     try clear c6b0
     try clear c6b1
     try clear c7
     try clear c7b0
     try clear c7b1
     try clear c8
     try clear c8b0
     try clear c8b1
     try clear c9
     try clear c12
     try clear c14
     try clear c15
     try clear c18
     try clear c21
     try clear hcz10_0
     try clear hcz10_1
     try clear hcz10_2
     try clear hcz10_3
     try clear hcz11_0
     try clear hcz11_1
     try clear hcz11_2
     try clear hcz11_3
     try clear hcz13_0
     try clear hcz13_1
     try clear hcz13_2
     try clear hcz13_3
     try clear hcz14_0
     try clear hcz14_1
     try clear hcz14_2
     try clear hcz14_3
     try clear hcz16_0
     try clear hcz16_1
     try clear hcz16_2
     try clear hcz16_3
     try clear hcz17_0
     try clear hcz17_1
     try clear hcz17_2
     try clear hcz17_3
     try clear hcz19_0
     try clear hcz19_1
     try clear hcz19_2
     try clear hcz19_3
     try clear hcz20_0
     try clear hcz20_1
     try clear hcz20_2
     try clear hcz20_3
     try clear hfz10_0
     try clear hfz10_1
     try clear hfz10_2
     try clear hfz10_3
     try clear hfz11_0
     try clear hfz11_1
     try clear hfz11_2
     try clear hfz11_3
     try clear hfz13_0
     try clear hfz13_1
     try clear hfz13_2
     try clear hfz13_3
     try clear hfz14_0
     try clear hfz14_1
     try clear hfz14_2
     try clear hfz14_3
     try clear hfz16_0
     try clear hfz16_1
     try clear hfz16_2
     try clear hfz16_3
     try clear hfz17_0
     try clear hfz17_1
     try clear hfz17_2
     try clear hfz17_3
     try clear hfz19_0
     try clear hfz19_1
     try clear hfz19_2
     try clear hfz19_3
     try clear hfz20_0
     try clear hfz20_1
     try clear hfz20_2
     try clear hfz20_3
     try clear p2
     obtain ⟨x5_2, rfl, HA, HK2, BK127, BK128, HB⟩ := hrel
     cases gk with
     | zero => exact absurd HA.out (by simp [scarfref05_Same.l0])
     | succ k2 =>
      have H := HA.out
      clear HA
      simp only [scarfref05_Same.l0] at H
      by_cases c22 : x5_2 < (l0_3.length : Int)
      ·rw [if_pos c22] at H
       have c22b0 : decide (x5_2 < (l0_3.length : Int)) = true := decide_eq_true c22
       clear c22
       by_cases c23 : 0 ≤ x5_2
       ·rw [if_pos c23] at H
        have c23b0 : decide (0 ≤ x5_2) = true := decide_eq_true c23
        clear c23
        by_cases c24 : x5_2 < (l1_3.length : Int)
        ·rw [if_pos c24] at H
         have c24b0 : decide (x5_2 < (l1_3.length : Int)) = true := decide_eq_true c24
         clear c24
         replace H := Option.bind_eq_some_iff.mp H
         obtain ⟨t131, A250, H⟩ := H
         replace H : (if t131 = true then (scarfref05_Same.l0 k2 (wrap64 (x5_2 + 1)) a0_0 a0_1 a0_2 l0_3 a1_0 a1_1 a1_2 l1_3) else (some false)) = some r := H
         have A25 := Aside0.mk A250
         clear A250
         by_cases c26 : t131 = true
         ·subst c26
          have H1 : (scarfref05_Same.l0 k2 (wrap64 (x5_2 + 1)) a0_0 a0_1 a0_2 l0_3 a1_0 a1_1 a1_2 l1_3) = some r := by rw [if_pos rfl] at H; exact H
          clear H
          have H := H1
          clear H1
          have H' := Aside0.mk H
          clear H
          have hnb27 := NB127_128.out
          have hnc27 := NB128_127.out
          have hcz28_0 : wr.cell? ⟨gb127, 0, none⟩ = some (.int .i64 a0_0) := (blk_cell BK127.out 0).trans rfl
          have hcz28_1 : wr.cell? ⟨gb127, 1, none⟩ = some (.string a0_1) := (blk_cell BK127.out 1).trans rfl
          have hcz28_2 : wr.cell? ⟨gb127, 2, none⟩ = some (.string a0_2) := (blk_cell BK127.out 2).trans rfl
          have hcz28_3 : wr.cell? ⟨gb127, 3, none⟩ = some (.slice A0_3 l0_3.length c0_3) := (blk_cell BK127.out 3).trans rfl
          have hfz28_0 := blk_frozen BK127.out 0
          have hfz28_1 := blk_frozen BK127.out 1
          have hfz28_2 := blk_frozen BK127.out 2
          have hfz28_3 := blk_frozen BK127.out 3
          try go_wp2
          have n0_ := Aside0.mk (blk_drew BK127.out)
          have n1_ := Aside0.mk (blk_drew BK128.out)
          have n2_ := Aside0.mk (below_drew1 HB.out)
          clear BK127
          clear BK128
          clear HB
          have BK127 := n0_
          have BK128 := n1_
          have HB := n2_
          clear n0_ n1_ n2_
          have p129 : 0 ≤ (x5_2 : Int) := of_decide_eq_true (by first | (with_reducible assumption) | assumption)
          have q129 : x5_2 < (l0_3.length : Int) := of_decide_eq_true (by first | (with_reducible assumption) | assumption)
          obtain ⟨ad129, A129_3, c129_3, e129, hx129_0, hx129_1, hx129_2, hx129_3, hl129_3, hi129_3⟩ := at_T24 HR0_3.out x5_2 p129 q129
          have hw129_3 := hx129_3
          have hw129_2 := hx129_2
          have hw129_1 := hx129_1
          have hw129_0 := hx129_0
          cases e129
          replace hx129_0 := (HB.out.cell (World.block_lt_of_cell? w _ hx129_0)).trans hx129_0
          replace hx129_1 := (HB.out.cell (World.block_lt_of_cell? w _ hx129_1)).trans hx129_1
          replace hx129_2 := (HB.out.cell (World.block_lt_of_cell? w _ hx129_2)).trans hx129_2
          replace hx129_3 := (HB.out.cell (World.block_lt_of_cell? w _ hx129_3)).trans hx129_3
          have HR129_3 := Aside0.mk hi129_3
          have HC129_3 := Aside0.mk hl129_3
          clear hi129_3 hl129_3
          replace p129 := eq_true p129
          replace q129 := eq_true q129
          have p130 : 0 ≤ (x5_2 : Int) := of_decide_eq_true (by first | (with_reducible assumption) | assumption)
          have q130 : x5_2 < (l1_3.length : Int) := of_decide_eq_true (by first | (with_reducible assumption) | assumption)
          obtain ⟨ad130, A130_3, c130_3, e130, hx130_0, hx130_1, hx130_2, hx130_3, hl130_3, hi130_3⟩ := at_T24 HR1_3.out x5_2 p130 q130
          have hw130_3 := hx130_3
          have hw130_2 := hx130_2
          have hw130_1 := hx130_1
          have hw130_0 := hx130_0
          cases e130
          replace hx130_0 := (HB.out.cell (World.block_lt_of_cell? w _ hx130_0)).trans hx130_0
          replace hx130_1 := (HB.out.cell (World.block_lt_of_cell? w _ hx130_1)).trans hx130_1
          replace hx130_2 := (HB.out.cell (World.block_lt_of_cell? w _ hx130_2)).trans hx130_2
          replace hx130_3 := (HB.out.cell (World.block_lt_of_cell? w _ hx130_3)).trans hx130_3
          have HR130_3 := Aside0.mk hi130_3
          have HC130_3 := Aside0.mk hl130_3
          clear hi130_3 hl130_3
          replace p130 := eq_true p130
          replace q130 := eq_true q130
          refine start_ (n := 12) (S := fun w' => w'.cell? ⟨gb127, 0, none⟩ = some (.int .i64 a0_0) ∧ w'.cell? ⟨gb127, 1, none⟩ = some (.string a0_1) ∧ w'.cell? ⟨gb127, 2, none⟩ = some (.string a0_2) ∧ w'.cell? ⟨gb127, 3, none⟩ = some (.slice (some ad129) l0_3.length c0_3) ∧ w'.cell? ⟨gb128, 0, none⟩ = some (.int .i64 a1_0) ∧ w'.cell? ⟨gb128, 1, none⟩ = some (.string a1_1) ∧ w'.cell? ⟨gb128, 2, none⟩ = some (.string a1_2) ∧ w'.cell? ⟨gb128, 3, none⟩ = some (.slice (some ad130) l1_3.length c1_3) ∧ w'.cell? (ad129.add ((x5_2).toNat * 4)) = some (.int .i64 ((rd_T24 l0_3 x5_2).f0)) ∧ w'.cell? ⟨(ad129.add ((x5_2).toNat * 4)).block, (ad129.add ((x5_2).toNat * 4)).off + 1, none⟩ = some (.string ((rd_T24 l0_3 x5_2).f1)) ∧ w'.cell? ⟨(ad129.add ((x5_2).toNat * 4)).block, (ad129.add ((x5_2).toNat * 4)).off + 2, none⟩ = some (.string ((rd_T24 l0_3 x5_2).f2)) ∧ w'.cell? ⟨(ad129.add ((x5_2).toNat * 4)).block, (ad129.add ((x5_2).toNat * 4)).off + 3, none⟩ = some (.slice A129_3 ((rd_T24 l0_3 x5_2).f3).length c129_3) ∧ w'.cell? (ad130.add ((x5_2).toNat * 4)) = some (.int .i64 ((rd_T24 l1_3 x5_2).f0)) ∧ w'.cell? ⟨(ad130.add ((x5_2).toNat * 4)).block, (ad130.add ((x5_2).toNat * 4)).off + 1, none⟩ = some (.string ((rd_T24 l1_3 x5_2).f1)) ∧ w'.cell? ⟨(ad130.add ((x5_2).toNat * 4)).block, (ad130.add ((x5_2).toNat * 4)).off + 2, none⟩ = some (.string ((rd_T24 l1_3 x5_2).f2)) ∧ w'.cell? ⟨(ad130.add ((x5_2).toNat * 4)).block, (ad130.add ((x5_2).toNat * 4)).off + 3, none⟩ = some (.slice A130_3 ((rd_T24 l1_3 x5_2).f3).length c130_3)) (ds := []) #[false, false, false, false, false, false, false, false, false, false, false, false] (by kernel_rfl) rfl rfl ⟨(blk_cell BK127.out 0).trans rfl, (blk_cell BK127.out 1).trans rfl, (blk_cell BK127.out 2).trans rfl, (blk_cell BK127.out 3).trans rfl, (blk_cell BK128.out 0).trans rfl, (blk_cell BK128.out 1).trans rfl, (blk_cell BK128.out 2).trans rfl, (blk_cell BK128.out 3).trans rfl, ((HB.out.cell (World.block_lt_of_cell? w _ hw129_0)).trans hw129_0), ((HB.out.cell (World.block_lt_of_cell? w _ hw129_1)).trans hw129_1), ((HB.out.cell (World.block_lt_of_cell? w _ hw129_2)).trans hw129_2), ((HB.out.cell (World.block_lt_of_cell? w _ hw129_3)).trans hw129_3), ((HB.out.cell (World.block_lt_of_cell? w _ hw130_0)).trans hw130_0), ((HB.out.cell (World.block_lt_of_cell? w _ hw130_1)).trans hw130_1), ((HB.out.cell (World.block_lt_of_cell? w _ hw130_2)).trans hw130_2), ((HB.out.cell (World.block_lt_of_cell? w _ hw130_3)).trans hw130_3)⟩ (fun hHeld => ?_); refine with_tabW scarfref05_Same.tab6 scarfref05_Same.bits6 (fun HT_ HW_ => ?_)
          generalize wr.drew = w29 at BK127 BK128 HB HR129_3 HR130_3 hx129_0 hx129_1 hx129_2 hx129_3 hx130_0 hx130_1 hx130_2 hx130_3 hHeld ⊢
          refine pure_ (i := 0) (N := some 41) (v := ?_) (a' := ?_) #[true, false, false, false, false, false, false, false, false, false, false, false] rfl rfl (any_of HT_.out (by kernel_rfl)) (fun _ _ _ h => h) (Or.inl ⟨by rfl, ?_⟩) ?_ ?_
          rotate_left
          ·intro w'
           go_simp
           with_reducible rfl
          rotate_left
          ·simp only [Act.put, List.setIfInBounds_toArray, List.set_cons_zero, List.set_cons_succ, i64_w, i32_w]
           rfl
          refine pure_ (i := 2) (N := some 43) (v := ?_) (a' := ?_) #[true, false, true, false, false, false, false, false, false, false, false, false] rfl rfl (any_of HT_.out (by kernel_rfl)) (fun _ _ _ h => h) (Or.inl ⟨by rfl, ?_⟩) ?_ ?_
          rotate_left
          ·intro w'
           go_simp
           with_reducible rfl
          rotate_left
          ·simp only [Act.put, List.setIfInBounds_toArray, List.set_cons_zero, List.set_cons_succ, i64_w, i32_w]
           rfl
          refine pure_ (i := 5) (N := some 46) (v := ?_) (a' := ?_) #[true, false, true, false, false, true, false, false, false, false, false, false] rfl rfl (any_of HT_.out (by kernel_rfl)) (fun _ _ _ h => h) (Or.inl ⟨by rfl, ?_⟩) ?_ ?_
          rotate_left
          ·intro w'
           go_simp
           with_reducible rfl
          rotate_left
          ·simp only [Act.put, List.setIfInBounds_toArray, List.set_cons_zero, List.set_cons_succ, i64_w, i32_w]
           rfl
          refine pure_ (i := 7) (N := some 48) (v := ?_) (a' := ?_) #[true, false, true, false, false, true, false, true, false, false, false, false] rfl rfl (any_of HT_.out (by kernel_rfl)) (fun _ _ _ h => h) (Or.inl ⟨by rfl, ?_⟩) ?_ ?_
          rotate_left
          ·intro w'
           go_simp
           with_reducible rfl
          rotate_left
          ·simp only [Act.put, List.setIfInBounds_toArray, List.set_cons_zero, List.set_cons_succ, i64_w, i32_w]
           rfl
          refine take_ (i := 1) (N := some 42) (v := ?_) (a' := ?_) #[true, true, true, false, false, true, false, true, false, false, false, false] rfl rfl (take_ofW HT_.out HW_.out (by kernel_rfl)) (fun _ _ _ h => h) (Or.inl ⟨by rfl, ?_⟩) hHeld ?_ ?_
          rotate_left
          ·rintro w' ⟨s0, s1, s2, s3, s4, s5, s6, s7, s8, s9, s10, s11, s12, s13, s14, s15⟩
           go_simp
           with_reducible rfl
          rotate_left
          ·simp only [Act.put, List.setIfInBounds_toArray, List.set_cons_zero, List.set_cons_succ, i64_w, i32_w]
           rfl
          refine pure_ (i := 3) (N := some 44) (v := ?_) (a' := ?_) #[true, true, true, true, false, true, false, true, false, false, false, false] rfl rfl (any_of HT_.out (by kernel_rfl)) (fun _ _ _ h => h) (Or.inl ⟨by rfl, ?_⟩) ?_ ?_
          rotate_left
          ·intro w'
           go_simp
           with_reducible rfl
          rotate_left
          ·simp only [Act.put, List.setIfInBounds_toArray, List.set_cons_zero, List.set_cons_succ, i64_w, i32_w]
           rfl
          refine take_ (i := 4) (N := some 45) (v := ?_) (a' := ?_) #[true, true, true, true, true, true, false, true, false, false, false, false] rfl rfl (take_ofW HT_.out HW_.out (by kernel_rfl)) (fun _ _ _ h => h) (Or.inl ⟨by rfl, ?_⟩) hHeld ?_ ?_
          rotate_left
          ·rintro w' ⟨s0, s1, s2, s3, s4, s5, s6, s7, s8, s9, s10, s11, s12, s13, s14, s15⟩
           go_simp
           with_reducible rfl
          rotate_left
          ·simp only [Act.put, List.setIfInBounds_toArray, List.set_cons_zero, List.set_cons_succ, i64_w, i32_w]
           rfl
          refine take_ (i := 6) (N := some 47) (v := ?_) (a' := ?_) #[true, true, true, true, true, true, true, true, false, false, false, false] rfl rfl (take_ofW HT_.out HW_.out (by kernel_rfl)) (fun _ _ _ h => h) (Or.inl ⟨by rfl, ?_⟩) hHeld ?_ ?_
          rotate_left
          ·rintro w' ⟨s0, s1, s2, s3, s4, s5, s6, s7, s8, s9, s10, s11, s12, s13, s14, s15⟩
           go_simp
           with_reducible rfl
          rotate_left
          ·simp only [Act.put, List.setIfInBounds_toArray, List.set_cons_zero, List.set_cons_succ, i64_w, i32_w]
           rfl
          refine pure_ (i := 8) (N := some 49) (v := ?_) (a' := ?_) #[true, true, true, true, true, true, true, true, true, false, false, false] rfl rfl (any_of HT_.out (by kernel_rfl)) (fun _ _ _ h => h) (Or.inl ⟨by rfl, ?_⟩) ?_ ?_
          rotate_left
          ·intro w'
           go_simp
           with_reducible rfl
          rotate_left
          ·simp only [Act.put, List.setIfInBounds_toArray, List.set_cons_zero, List.set_cons_succ, i64_w, i32_w]
           rfl
          refine take_ (i := 9) (N := some 50) (v := ?_) (a' := ?_) #[true, true, true, true, true, true, true, true, true, true, false, false] rfl rfl (take_ofW HT_.out HW_.out (by kernel_rfl)) (fun _ _ _ h => h) (Or.inl ⟨by rfl, ?_⟩) hHeld ?_ ?_
          rotate_left
          ·rintro w' ⟨s0, s1, s2, s3, s4, s5, s6, s7, s8, s9, s10, s11, s12, s13, s14, s15⟩
           go_simp
           with_reducible rfl
          rotate_left
          ·simp only [Act.put, List.setIfInBounds_toArray, List.set_cons_zero, List.set_cons_succ, i64_w, i32_w]
           rfl
          refine one_ (i := 10) (N := some 51) #[true, true, true, true, true, true, true, true, true, true, true, false] rfl rfl (one_of HT_.out (by kernel_rfl)) (by decide) (fun K hK => ?_)
          refine goes_ Try.func14 (by kernel_rfl) rfl #[.agg #[.int .i64 ((rd_T24 l0_3 x5_2).f0), .string ((rd_T24 l0_3 x5_2).f1), .string ((rd_T24 l0_3 x5_2).f2), .slice A129_3 ((rd_T24 l0_3 x5_2).f3).length c129_3], .agg #[.int .i64 ((rd_T24 l1_3 x5_2).f0), .string ((rd_T24 l1_3 x5_2).f1), .string ((rd_T24 l1_3 x5_2).f2), .slice A130_3 ((rd_T24 l1_3 x5_2).f3).length c130_3]] (by rfl) rfl rfl (by (try simp only [List.map_toArray, List.map_cons, List.map_nil]); first | done | rfl | (simp only [List.length_drop, List.length_take]; rfl)) ?_
          with_reducible refine (ih k2 (by have := HJ2.out; have := HK2.out; omega) ((rd_T24 l0_3 x5_2).f0) ((rd_T24 l0_3 x5_2).f1) ((rd_T24 l0_3 x5_2).f2) _ _ ((rd_T24 l0_3 x5_2).f3) ((rd_T24 l1_3 x5_2).f0) ((rd_T24 l1_3 x5_2).f1) ((rd_T24 l1_3 x5_2).f2) _ _ ((rd_T24 l1_3 x5_2).f3) true _ ?side1 ?side2 ?side3 ?side4 A25.out).mono ?_
          (case side1 => repeat (first | exact (Kd.C_below HR129_3.out HB.out) | (with_reducible refine Kd.C_alloc ?_ _) | (with_reducible refine Kd.C_drewN ?_ _) | (with_reducible refine Kd.C_drew ?_)))
          (case side2 => exact HC129_3.out)
          (case side3 => repeat (first | exact (Kd.C_below HR130_3.out HB.out) | (with_reducible refine Kd.C_alloc ?_ _) | (with_reducible refine Kd.C_drewN ?_ _) | (with_reducible refine Kd.C_drew ?_)))
          (case side4 => exact HC130_3.out)
          rintro e w30 ⟨rfl, hb⟩
          refine ⟨_, rfl, ?_⟩
          have n0_ := Aside0.mk (blk_below (g := gb127) (o := .cells #[.int .i64 a0_0, .string a0_1, .string a0_2, .slice (some ad129) l0_3.length c0_3] 24 (0, 0)) (by (with_reducible repeat (first | refine blk_drewN ?_ _ | refine blk_drew ?_ | refine blk_alloc ?_ _)); exact BK127.out) hb)
          have n1_ := Aside0.mk (blk_below (g := gb128) (o := .cells #[.int .i64 a1_0, .string a1_1, .string a1_2, .slice (some ad130) l1_3.length c1_3] 24 (0, 0)) (by (with_reducible repeat (first | refine blk_drewN ?_ _ | refine blk_drew ?_ | refine blk_alloc ?_ _)); exact BK128.out) hb)
          have n2_ := Aside0.mk (below_step (by repeat (first | (with_reducible first | exact HB.out | apply below_alloc | apply pw_below_drewN | apply below_drew1 | refine below_set ?_ GE127.out | refine below_set ?_ GE128.out) | exact HB.out)) hb)
          clear BK127
          clear BK128
          clear HB
          have BK127 := n0_
          have BK128 := n1_
          have HB := n2_
          clear n0_ n1_ n2_
          (try clear hb)
          (try clear hb2)
          (try clear hk)
          (try clear hi)
          refine hK.out _ _ ⟨(blk_cell BK127.out 0).trans rfl, (blk_cell BK127.out 1).trans rfl, (blk_cell BK127.out 2).trans rfl, (blk_cell BK127.out 3).trans rfl, (blk_cell BK128.out 0).trans rfl, (blk_cell BK128.out 1).trans rfl, (blk_cell BK128.out 2).trans rfl, (blk_cell BK128.out 3).trans rfl, ((HB.out.cell (World.block_lt_of_cell? w _ hw129_0)).trans hw129_0), ((HB.out.cell (World.block_lt_of_cell? w _ hw129_1)).trans hw129_1), ((HB.out.cell (World.block_lt_of_cell? w _ hw129_2)).trans hw129_2), ((HB.out.cell (World.block_lt_of_cell? w _ hw129_3)).trans hw129_3), ((HB.out.cell (World.block_lt_of_cell? w _ hw130_0)).trans hw130_0), ((HB.out.cell (World.block_lt_of_cell? w _ hw130_1)).trans hw130_1), ((HB.out.cell (World.block_lt_of_cell? w _ hw130_2)).trans hw130_2), ((HB.out.cell (World.block_lt_of_cell? w _ hw130_3)).trans hw130_3)⟩ (fun hHeld => ?_)
          clear hK K
          refine norm_ (a' := ?_) ?_ ?_
          rotate_left
          ·show Act.put _ (some 51) _ = _
           simp only [Act.put, List.setIfInBounds_toArray, List.set_cons_zero, List.set_cons_succ, i64_w, i32_w]
           rfl
          refine pure_ (i := 11) (N := some 52) (v := ?_) (a' := ?_) #[true, true, true, true, true, true, true, true, true, true, true, true] rfl rfl (any_of HT_.out (by kernel_rfl)) (fun _ _ _ h => h) (Or.inl ⟨by rfl, ?_⟩) ?_ ?_
          rotate_left
          ·intro w'
           go_simp
           with_reducible rfl
          rotate_left
          ·simp only [Act.put, List.setIfInBounds_toArray, List.set_cons_zero, List.set_cons_succ, i64_w, i32_w]
           rfl
          refine done_ (done_of HT_.out (by kernel_rfl)) ?_
          try go_wp2
          go_roundg k2
          case measure => have := HJ2.out; have := HK2.out; omega
          case rel => exact ⟨(wrap64 (x5_2 + 1)), (by first | rfl | (simp; done) | (simp [*]; done)), H', ⟨by have := HJ2.out; have := HK2.out; omega⟩, ⟨by (with_reducible repeat (first | refine blk_drewN ?_ _ | refine blk_drew ?_ | refine blk_alloc ?_ _)); exact BK127.out⟩, ⟨by (with_reducible repeat (first | refine blk_drewN ?_ _ | refine blk_drew ?_ | refine blk_alloc ?_ _)); exact BK128.out⟩, ⟨by repeat (first | (with_reducible first | exact HB.out | apply below_alloc | apply pw_below_drewN | apply below_drew1 | refine below_set ?_ GE127.out | refine below_set ?_ GE128.out) | exact HB.out)⟩⟩
         ·replace c26 := Bool.eq_false_iff.mpr c26
          subst c26
          have H1 : (some false) = some r := by rw [if_neg (show ¬ (false = true) by decide)] at H; exact H
          clear H
          have H := H1
          clear H1
          obtain rfl := Option.some.inj H
          have hnb31 := NB127_128.out
          have hnc31 := NB128_127.out
          have hcz32_0 : wr.cell? ⟨gb127, 0, none⟩ = some (.int .i64 a0_0) := (blk_cell BK127.out 0).trans rfl
          have hcz32_1 : wr.cell? ⟨gb127, 1, none⟩ = some (.string a0_1) := (blk_cell BK127.out 1).trans rfl
          have hcz32_2 : wr.cell? ⟨gb127, 2, none⟩ = some (.string a0_2) := (blk_cell BK127.out 2).trans rfl
          have hcz32_3 : wr.cell? ⟨gb127, 3, none⟩ = some (.slice A0_3 l0_3.length c0_3) := (blk_cell BK127.out 3).trans rfl
          have hfz32_0 := blk_frozen BK127.out 0
          have hfz32_1 := blk_frozen BK127.out 1
          have hfz32_2 := blk_frozen BK127.out 2
          have hfz32_3 := blk_frozen BK127.out 3
          try go_wp2
          have n0_ := Aside0.mk (blk_drew BK127.out)
          have n1_ := Aside0.mk (blk_drew BK128.out)
          have n2_ := Aside0.mk (below_drew1 HB.out)
          clear BK127
          clear BK128
          clear HB
          have BK127 := n0_
          have BK128 := n1_
          have HB := n2_
          clear n0_ n1_ n2_
          have p129 : 0 ≤ (x5_2 : Int) := of_decide_eq_true (by first | (with_reducible assumption) | assumption)
          have q129 : x5_2 < (l0_3.length : Int) := of_decide_eq_true (by first | (with_reducible assumption) | assumption)
          obtain ⟨ad129, A129_3, c129_3, e129, hx129_0, hx129_1, hx129_2, hx129_3, hl129_3, hi129_3⟩ := at_T24 HR0_3.out x5_2 p129 q129
          have hw129_3 := hx129_3
          have hw129_2 := hx129_2
          have hw129_1 := hx129_1
          have hw129_0 := hx129_0
          cases e129
          replace hx129_0 := (HB.out.cell (World.block_lt_of_cell? w _ hx129_0)).trans hx129_0
          replace hx129_1 := (HB.out.cell (World.block_lt_of_cell? w _ hx129_1)).trans hx129_1
          replace hx129_2 := (HB.out.cell (World.block_lt_of_cell? w _ hx129_2)).trans hx129_2
          replace hx129_3 := (HB.out.cell (World.block_lt_of_cell? w _ hx129_3)).trans hx129_3
          have HR129_3 := Aside0.mk hi129_3
          have HC129_3 := Aside0.mk hl129_3
          clear hi129_3 hl129_3
          replace p129 := eq_true p129
          replace q129 := eq_true q129
          have p130 : 0 ≤ (x5_2 : Int) := of_decide_eq_true (by first | (with_reducible assumption) | assumption)
          have q130 : x5_2 < (l1_3.length : Int) := of_decide_eq_true (by first | (with_reducible assumption) | assumption)
          obtain ⟨ad130, A130_3, c130_3, e130, hx130_0, hx130_1, hx130_2, hx130_3, hl130_3, hi130_3⟩ := at_T24 HR1_3.out x5_2 p130 q130
          have hw130_3 := hx130_3
          have hw130_2 := hx130_2
          have hw130_1 := hx130_1
          have hw130_0 := hx130_0
          cases e130
          replace hx130_0 := (HB.out.cell (World.block_lt_of_cell? w _ hx130_0)).trans hx130_0
          replace hx130_1 := (HB.out.cell (World.block_lt_of_cell? w _ hx130_1)).trans hx130_1
          replace hx130_2 := (HB.out.cell (World.block_lt_of_cell? w _ hx130_2)).trans hx130_2
          replace hx130_3 := (HB.out.cell (World.block_lt_of_cell? w _ hx130_3)).trans hx130_3
          have HR130_3 := Aside0.mk hi130_3
          have HC130_3 := Aside0.mk hl130_3
          clear hi130_3 hl130_3
          replace p130 := eq_true p130
          replace q130 := eq_true q130
          refine start_ (n := 12) (S := fun w' => w'.cell? ⟨gb127, 0, none⟩ = some (.int .i64 a0_0) ∧ w'.cell? ⟨gb127, 1, none⟩ = some (.string a0_1) ∧ w'.cell? ⟨gb127, 2, none⟩ = some (.string a0_2) ∧ w'.cell? ⟨gb127, 3, none⟩ = some (.slice (some ad129) l0_3.length c0_3) ∧ w'.cell? ⟨gb128, 0, none⟩ = some (.int .i64 a1_0) ∧ w'.cell? ⟨gb128, 1, none⟩ = some (.string a1_1) ∧ w'.cell? ⟨gb128, 2, none⟩ = some (.string a1_2) ∧ w'.cell? ⟨gb128, 3, none⟩ = some (.slice (some ad130) l1_3.length c1_3) ∧ w'.cell? (ad129.add ((x5_2).toNat * 4)) = some (.int .i64 ((rd_T24 l0_3 x5_2).f0)) ∧ w'.cell? ⟨(ad129.add ((x5_2).toNat * 4)).block, (ad129.add ((x5_2).toNat * 4)).off + 1, none⟩ = some (.string ((rd_T24 l0_3 x5_2).f1)) ∧ w'.cell? ⟨(ad129.add ((x5_2).toNat * 4)).block, (ad129.add ((x5_2).toNat * 4)).off + 2, none⟩ = some (.string ((rd_T24 l0_3 x5_2).f2)) ∧ w'.cell? ⟨(ad129.add ((x5_2).toNat * 4)).block, (ad129.add ((x5_2).toNat * 4)).off + 3, none⟩ = some (.slice A129_3 ((rd_T24 l0_3 x5_2).f3).length c129_3) ∧ w'.cell? (ad130.add ((x5_2).toNat * 4)) = some (.int .i64 ((rd_T24 l1_3 x5_2).f0)) ∧ w'.cell? ⟨(ad130.add ((x5_2).toNat * 4)).block, (ad130.add ((x5_2).toNat * 4)).off + 1, none⟩ = some (.string ((rd_T24 l1_3 x5_2).f1)) ∧ w'.cell? ⟨(ad130.add ((x5_2).toNat * 4)).block, (ad130.add ((x5_2).toNat * 4)).off + 2, none⟩ = some (.string ((rd_T24 l1_3 x5_2).f2)) ∧ w'.cell? ⟨(ad130.add ((x5_2).toNat * 4)).block, (ad130.add ((x5_2).toNat * 4)).off + 3, none⟩ = some (.slice A130_3 ((rd_T24 l1_3 x5_2).f3).length c130_3)) (ds := []) #[false, false, false, false, false, false, false, false, false, false, false, false] (by kernel_rfl) rfl rfl ⟨(blk_cell BK127.out 0).trans rfl, (blk_cell BK127.out 1).trans rfl, (blk_cell BK127.out 2).trans rfl, (blk_cell BK127.out 3).trans rfl, (blk_cell BK128.out 0).trans rfl, (blk_cell BK128.out 1).trans rfl, (blk_cell BK128.out 2).trans rfl, (blk_cell BK128.out 3).trans rfl, ((HB.out.cell (World.block_lt_of_cell? w _ hw129_0)).trans hw129_0), ((HB.out.cell (World.block_lt_of_cell? w _ hw129_1)).trans hw129_1), ((HB.out.cell (World.block_lt_of_cell? w _ hw129_2)).trans hw129_2), ((HB.out.cell (World.block_lt_of_cell? w _ hw129_3)).trans hw129_3), ((HB.out.cell (World.block_lt_of_cell? w _ hw130_0)).trans hw130_0), ((HB.out.cell (World.block_lt_of_cell? w _ hw130_1)).trans hw130_1), ((HB.out.cell (World.block_lt_of_cell? w _ hw130_2)).trans hw130_2), ((HB.out.cell (World.block_lt_of_cell? w _ hw130_3)).trans hw130_3)⟩ (fun hHeld => ?_); refine with_tabW scarfref05_Same.tab6 scarfref05_Same.bits6 (fun HT_ HW_ => ?_)
          generalize wr.drew = w33 at BK127 BK128 HB HR129_3 HR130_3 hx129_0 hx129_1 hx129_2 hx129_3 hx130_0 hx130_1 hx130_2 hx130_3 hHeld ⊢
          refine pure_ (i := 0) (N := some 41) (v := ?_) (a' := ?_) #[true, false, false, false, false, false, false, false, false, false, false, false] rfl rfl (any_of HT_.out (by kernel_rfl)) (fun _ _ _ h => h) (Or.inl ⟨by rfl, ?_⟩) ?_ ?_
          rotate_left
          ·intro w'
           go_simp
           with_reducible rfl
          rotate_left
          ·simp only [Act.put, List.setIfInBounds_toArray, List.set_cons_zero, List.set_cons_succ, i64_w, i32_w]
           rfl
          refine pure_ (i := 2) (N := some 43) (v := ?_) (a' := ?_) #[true, false, true, false, false, false, false, false, false, false, false, false] rfl rfl (any_of HT_.out (by kernel_rfl)) (fun _ _ _ h => h) (Or.inl ⟨by rfl, ?_⟩) ?_ ?_
          rotate_left
          ·intro w'
           go_simp
           with_reducible rfl
          rotate_left
          ·simp only [Act.put, List.setIfInBounds_toArray, List.set_cons_zero, List.set_cons_succ, i64_w, i32_w]
           rfl
          refine pure_ (i := 5) (N := some 46) (v := ?_) (a' := ?_) #[true, false, true, false, false, true, false, false, false, false, false, false] rfl rfl (any_of HT_.out (by kernel_rfl)) (fun _ _ _ h => h) (Or.inl ⟨by rfl, ?_⟩) ?_ ?_
          rotate_left
          ·intro w'
           go_simp
           with_reducible rfl
          rotate_left
          ·simp only [Act.put, List.setIfInBounds_toArray, List.set_cons_zero, List.set_cons_succ, i64_w, i32_w]
           rfl
          refine pure_ (i := 7) (N := some 48) (v := ?_) (a' := ?_) #[true, false, true, false, false, true, false, true, false, false, false, false] rfl rfl (any_of HT_.out (by kernel_rfl)) (fun _ _ _ h => h) (Or.inl ⟨by rfl, ?_⟩) ?_ ?_
          rotate_left
          ·intro w'
           go_simp
           with_reducible rfl
          rotate_left
          ·simp only [Act.put, List.setIfInBounds_toArray, List.set_cons_zero, List.set_cons_succ, i64_w, i32_w]
           rfl
          refine take_ (i := 1) (N := some 42) (v := ?_) (a' := ?_) #[true, true, true, false, false, true, false, true, false, false, false, false] rfl rfl (take_ofW HT_.out HW_.out (by kernel_rfl)) (fun _ _ _ h => h) (Or.inl ⟨by rfl, ?_⟩) hHeld ?_ ?_
          rotate_left
          ·rintro w' ⟨s0, s1, s2, s3, s4, s5, s6, s7, s8, s9, s10, s11, s12, s13, s14, s15⟩
           go_simp
           with_reducible rfl
          rotate_left
          ·simp only [Act.put, List.setIfInBounds_toArray, List.set_cons_zero, List.set_cons_succ, i64_w, i32_w]
           rfl
          refine pure_ (i := 3) (N := some 44) (v := ?_) (a' := ?_) #[true, true, true, true, false, true, false, true, false, false, false, false] rfl rfl (any_of HT_.out (by kernel_rfl)) (fun _ _ _ h => h) (Or.inl ⟨by rfl, ?_⟩) ?_ ?_
          rotate_left
          ·intro w'
           go_simp
           with_reducible rfl
          rotate_left
          ·simp only [Act.put, List.setIfInBounds_toArray, List.set_cons_zero, List.set_cons_succ, i64_w, i32_w]
           rfl
          refine take_ (i := 4) (N := some 45) (v := ?_) (a' := ?_) #[true, true, true, true, true, true, false, true, false, false, false, false] rfl rfl (take_ofW HT_.out HW_.out (by kernel_rfl)) (fun _ _ _ h => h) (Or.inl ⟨by rfl, ?_⟩) hHeld ?_ ?_
          rotate_left
          ·rintro w' ⟨s0, s1, s2, s3, s4, s5, s6, s7, s8, s9, s10, s11, s12, s13, s14, s15⟩
           go_simp
           with_reducible rfl
          rotate_left
          ·simp only [Act.put, List.setIfInBounds_toArray, List.set_cons_zero, List.set_cons_succ, i64_w, i32_w]
           rfl
          refine take_ (i := 6) (N := some 47) (v := ?_) (a' := ?_) #[true, true, true, true, true, true, true, true, false, false, false, false] rfl rfl (take_ofW HT_.out HW_.out (by kernel_rfl)) (fun _ _ _ h => h) (Or.inl ⟨by rfl, ?_⟩) hHeld ?_ ?_
          rotate_left
          ·rintro w' ⟨s0, s1, s2, s3, s4, s5, s6, s7, s8, s9, s10, s11, s12, s13, s14, s15⟩
           go_simp
           with_reducible rfl
          rotate_left
          ·simp only [Act.put, List.setIfInBounds_toArray, List.set_cons_zero, List.set_cons_succ, i64_w, i32_w]
           rfl
          refine pure_ (i := 8) (N := some 49) (v := ?_) (a' := ?_) #[true, true, true, true, true, true, true, true, true, false, false, false] rfl rfl (any_of HT_.out (by kernel_rfl)) (fun _ _ _ h => h) (Or.inl ⟨by rfl, ?_⟩) ?_ ?_
          rotate_left
          ·intro w'
           go_simp
           with_reducible rfl
          rotate_left
          ·simp only [Act.put, List.setIfInBounds_toArray, List.set_cons_zero, List.set_cons_succ, i64_w, i32_w]
           rfl
          refine take_ (i := 9) (N := some 50) (v := ?_) (a' := ?_) #[true, true, true, true, true, true, true, true, true, true, false, false] rfl rfl (take_ofW HT_.out HW_.out (by kernel_rfl)) (fun _ _ _ h => h) (Or.inl ⟨by rfl, ?_⟩) hHeld ?_ ?_
          rotate_left
          ·rintro w' ⟨s0, s1, s2, s3, s4, s5, s6, s7, s8, s9, s10, s11, s12, s13, s14, s15⟩
           go_simp
           with_reducible rfl
          rotate_left
          ·simp only [Act.put, List.setIfInBounds_toArray, List.set_cons_zero, List.set_cons_succ, i64_w, i32_w]
           rfl
          refine one_ (i := 10) (N := some 51) #[true, true, true, true, true, true, true, true, true, true, true, false] rfl rfl (one_of HT_.out (by kernel_rfl)) (by decide) (fun K hK => ?_)
          refine goes_ Try.func14 (by kernel_rfl) rfl #[.agg #[.int .i64 ((rd_T24 l0_3 x5_2).f0), .string ((rd_T24 l0_3 x5_2).f1), .string ((rd_T24 l0_3 x5_2).f2), .slice A129_3 ((rd_T24 l0_3 x5_2).f3).length c129_3], .agg #[.int .i64 ((rd_T24 l1_3 x5_2).f0), .string ((rd_T24 l1_3 x5_2).f1), .string ((rd_T24 l1_3 x5_2).f2), .slice A130_3 ((rd_T24 l1_3 x5_2).f3).length c130_3]] (by rfl) rfl rfl (by (try simp only [List.map_toArray, List.map_cons, List.map_nil]); first | done | rfl | (simp only [List.length_drop, List.length_take]; rfl)) ?_
          with_reducible refine (ih k2 (by have := HJ2.out; have := HK2.out; omega) ((rd_T24 l0_3 x5_2).f0) ((rd_T24 l0_3 x5_2).f1) ((rd_T24 l0_3 x5_2).f2) _ _ ((rd_T24 l0_3 x5_2).f3) ((rd_T24 l1_3 x5_2).f0) ((rd_T24 l1_3 x5_2).f1) ((rd_T24 l1_3 x5_2).f2) _ _ ((rd_T24 l1_3 x5_2).f3) false _ ?side1 ?side2 ?side3 ?side4 A25.out).mono ?_
          (case side1 => repeat (first | exact (Kd.C_below HR129_3.out HB.out) | (with_reducible refine Kd.C_alloc ?_ _) | (with_reducible refine Kd.C_drewN ?_ _) | (with_reducible refine Kd.C_drew ?_)))
          (case side2 => exact HC129_3.out)
          (case side3 => repeat (first | exact (Kd.C_below HR130_3.out HB.out) | (with_reducible refine Kd.C_alloc ?_ _) | (with_reducible refine Kd.C_drewN ?_ _) | (with_reducible refine Kd.C_drew ?_)))
          (case side4 => exact HC130_3.out)
          rintro e w34 ⟨rfl, hb⟩
          refine ⟨_, rfl, ?_⟩
          have n0_ := Aside0.mk (blk_below (g := gb127) (o := .cells #[.int .i64 a0_0, .string a0_1, .string a0_2, .slice (some ad129) l0_3.length c0_3] 24 (0, 0)) (by (with_reducible repeat (first | refine blk_drewN ?_ _ | refine blk_drew ?_ | refine blk_alloc ?_ _)); exact BK127.out) hb)
          have n1_ := Aside0.mk (blk_below (g := gb128) (o := .cells #[.int .i64 a1_0, .string a1_1, .string a1_2, .slice (some ad130) l1_3.length c1_3] 24 (0, 0)) (by (with_reducible repeat (first | refine blk_drewN ?_ _ | refine blk_drew ?_ | refine blk_alloc ?_ _)); exact BK128.out) hb)
          have n2_ := Aside0.mk (below_step (by repeat (first | (with_reducible first | exact HB.out | apply below_alloc | apply pw_below_drewN | apply below_drew1 | refine below_set ?_ GE127.out | refine below_set ?_ GE128.out) | exact HB.out)) hb)
          clear BK127
          clear BK128
          clear HB
          have BK127 := n0_
          have BK128 := n1_
          have HB := n2_
          clear n0_ n1_ n2_
          (try clear hb)
          (try clear hb2)
          (try clear hk)
          (try clear hi)
          refine hK.out _ _ ⟨(blk_cell BK127.out 0).trans rfl, (blk_cell BK127.out 1).trans rfl, (blk_cell BK127.out 2).trans rfl, (blk_cell BK127.out 3).trans rfl, (blk_cell BK128.out 0).trans rfl, (blk_cell BK128.out 1).trans rfl, (blk_cell BK128.out 2).trans rfl, (blk_cell BK128.out 3).trans rfl, ((HB.out.cell (World.block_lt_of_cell? w _ hw129_0)).trans hw129_0), ((HB.out.cell (World.block_lt_of_cell? w _ hw129_1)).trans hw129_1), ((HB.out.cell (World.block_lt_of_cell? w _ hw129_2)).trans hw129_2), ((HB.out.cell (World.block_lt_of_cell? w _ hw129_3)).trans hw129_3), ((HB.out.cell (World.block_lt_of_cell? w _ hw130_0)).trans hw130_0), ((HB.out.cell (World.block_lt_of_cell? w _ hw130_1)).trans hw130_1), ((HB.out.cell (World.block_lt_of_cell? w _ hw130_2)).trans hw130_2), ((HB.out.cell (World.block_lt_of_cell? w _ hw130_3)).trans hw130_3)⟩ (fun hHeld => ?_)
          clear hK K
          refine norm_ (a' := ?_) ?_ ?_
          rotate_left
          ·show Act.put _ (some 51) _ = _
           simp only [Act.put, List.setIfInBounds_toArray, List.set_cons_zero, List.set_cons_succ, i64_w, i32_w]
           rfl
          refine pure_ (i := 11) (N := some 52) (v := ?_) (a' := ?_) #[true, true, true, true, true, true, true, true, true, true, true, true] rfl rfl (any_of HT_.out (by kernel_rfl)) (fun _ _ _ h => h) (Or.inl ⟨by rfl, ?_⟩) ?_ ?_
          rotate_left
          ·intro w'
           go_simp
           with_reducible rfl
          rotate_left
          ·simp only [Act.put, List.setIfInBounds_toArray, List.set_cons_zero, List.set_cons_succ, i64_w, i32_w]
           rfl
          refine done_ (done_of HT_.out (by kernel_rfl)) ?_
          try go_wp2
          go_ret
          exact ⟨by first | rfl | (simp [errW_none, errW_some] <;> rfl) | (simp [*, errW_none, errW_some] <;> rfl), by repeat (first | (with_reducible first | exact HB.out | apply below_alloc | apply pw_below_drewN | apply below_drew1 | refine below_set ?_ GE127.out | refine below_set ?_ GE128.out) | exact HB.out)⟩
        ·rw [if_neg c24] at H
         exact absurd H (by simp)
       ·rw [if_neg c23] at H
        exact absurd H (by simp)
      ·rw [if_neg c22] at H
       have c22b0 : decide (x5_2 < (l0_3.length : Int)) = false := decide_eq_false c22
       clear c22
       obtain rfl := Option.some.inj H
       have hnb35 := NB127_128.out
       have hnc35 := NB128_127.out
       have hcz36_0 : wr.cell? ⟨gb127, 0, none⟩ = some (.int .i64 a0_0) := (blk_cell BK127.out 0).trans rfl
       have hcz36_1 : wr.cell? ⟨gb127, 1, none⟩ = some (.string a0_1) := (blk_cell BK127.out 1).trans rfl
       have hcz36_2 : wr.cell? ⟨gb127, 2, none⟩ = some (.string a0_2) := (blk_cell BK127.out 2).trans rfl
       have hcz36_3 : wr.cell? ⟨gb127, 3, none⟩ = some (.slice A0_3 l0_3.length c0_3) := (blk_cell BK127.out 3).trans rfl
       have hfz36_0 := blk_frozen BK127.out 0
       have hfz36_1 := blk_frozen BK127.out 1
       have hfz36_2 := blk_frozen BK127.out 2
       have hfz36_3 := blk_frozen BK127.out 3
       go_wp2
       go_ret
       exact ⟨by first | rfl | (simp [errW_none, errW_some] <;> rfl) | (simp [*, errW_none, errW_some] <;> rfl), by repeat (first | (with_reducible first | exact HB.out | apply below_alloc | apply pw_below_drewN | apply below_drew1 | refine below_set ?_ GE127.out | refine below_set ?_ GE128.out) | exact HB.out)⟩
-- NOT PRINTED: function 26 (match_Right)
-- NOT PRINTED: function 30 (script_rising)
-- NOT PRINTED: function 15 (script_Of)
/-! ### scarflaw05_Name: function 19 -/
def scarflaw05_Name.f (a0 : ByteArray) : Option (Int × ByteArray × ByteArray × (List (S24))) := some (9, a0, (⟨#[]⟩ : ByteArray), ([] : List (S24)))
set_option maxHeartbeats 8000000 in
set_option maxRecDepth 100000 in
theorem scarflaw05_Name.calls (a0 : ByteArray) (r1 : Int) (r2 : ByteArray) (r3 : ByteArray) (r4 : List (S24)) (w : World) (h : scarflaw05_Name.f a0 = some (r1, r2, r3, r4)) :
  Calls Try.prog 19 #[.string a0] w fun e w' => ∃ v3_ : Value, e = .returned (.agg #[.int .i64 r1, .string r2, .string r3, v3_]) ∧ Kd.R k24 24 w' w.heap.size (fun _ => True) v3_ r4 ∧ Below w.heap.size w w' := by
 have hu24 := Try.underlying24
 have HB := Aside0.mk (Below.refl w.heap.size w)
 have H : (some (9, a0, (⟨#[]⟩ : ByteArray), ([] : List (S24)))) = some (r1, r2, r3, r4) := h
 clear h
 simp only [Option.some.injEq, Prod.mk.injEq] at H
 obtain ⟨rfl, rfl, rfl, rfl⟩ := H
 go_enter Try.func19, Try.ntmps19
 go_wp2_with (first | ((with_reducible refine gate_dst (N := 2) rfl ?_); refine box_event ?hg (N := 2) ?hd (cs := #[.int .i64 0, .string (⟨#[]⟩ : ByteArray), .string (⟨#[]⟩ : ByteArray), .slice none 0 0]) (t := 24) ?hr ?_; (case hd => rfl); (case hg => rfl); (case hr => first | (go_simp; done) | (go_simp; rfl)); intro gb132 hg w2 hbox hb; have n0_ := Aside0.mk (below_step (by repeat (first | (with_reducible first | exact HB.out | apply below_alloc | apply pw_below_drewN | apply below_drew1) | exact HB.out)) hb); have n1_ := Aside0.mk (hbox); have n2_ := Aside0.mk ((by rw [hg]; exact (below_size (by repeat (first | (with_reducible first | exact HB.out | apply below_alloc | apply pw_below_drewN | apply below_drew1) | exact HB.out))) : w.heap.size ≤ gb132)); have n3_ := Aside0.mk ((by rw [hg]; exact (below_size (by repeat (first | (with_reducible first | exact HB.out | apply below_alloc | apply pw_below_drewN | apply below_drew1) | exact HB.out))) : w.heap.size ≤ gb132)); clear HB; have HB := n0_; have BK132 := n1_; have GW132 := n2_; have GE132 := n3_; clear n0_ n1_ n2_ n3_; clear hb hbox hg; have hcz3_0 : w2.cell? ⟨gb132, 0, none⟩ = some (.int .i64 0) := (blk_cell BK132.out 0).trans rfl; have hcz3_1 : w2.cell? ⟨gb132, 1, none⟩ = some (.string (⟨#[]⟩ : ByteArray)) := (blk_cell BK132.out 1).trans rfl; have hcz3_2 : w2.cell? ⟨gb132, 2, none⟩ = some (.string (⟨#[]⟩ : ByteArray)) := (blk_cell BK132.out 2).trans rfl; have hcz3_3 : w2.cell? ⟨gb132, 3, none⟩ = some (.slice none 0 0) := (blk_cell BK132.out 3).trans rfl; have hfz3_0 := blk_frozen BK132.out 0; have hfz3_1 := blk_frozen BK132.out 1; have hfz3_2 := blk_frozen BK132.out 2; have hfz3_3 := blk_frozen BK132.out 3))
 refine bodyPost_ret (results_cell_row rfl _ _ gb132 24 #[.int .i64 9, .string a0, .string (⟨#[]⟩ : ByteArray), .slice none 0 0] (0, 0) _ rfl (by (with_reducible repeat (first | refine blk_drewN ?_ _ | refine blk_drew ?_ | refine blk_alloc ?_ _)); refine blk_put (cs := #[.int .i64 9, .string a0, .string (⟨#[]⟩ : ByteArray), .slice none 0 0]) ?_ 3 _ rfl; (with_reducible repeat (first | refine blk_drewN ?_ _ | refine blk_drew ?_ | refine blk_alloc ?_ _)); refine blk_put (cs := #[.int .i64 9, .string a0, .string (⟨#[]⟩ : ByteArray), .slice none 0 0]) ?_ 2 _ rfl; (with_reducible repeat (first | refine blk_drewN ?_ _ | refine blk_drew ?_ | refine blk_alloc ?_ _)); refine blk_put (cs := #[.int .i64 9, .string (⟨#[]⟩ : ByteArray), .string (⟨#[]⟩ : ByteArray), .slice none 0 0]) ?_ 1 _ rfl; (with_reducible repeat (first | refine blk_drewN ?_ _ | refine blk_drew ?_ | refine blk_alloc ?_ _)); refine blk_put (cs := #[.int .i64 0, .string (⟨#[]⟩ : ByteArray), .string (⟨#[]⟩ : ByteArray), .slice none 0 0]) ?_ 0 _ rfl; (with_reducible repeat (first | refine blk_drewN ?_ _ | refine blk_drew ?_ | refine blk_alloc ?_ _)); exact BK132.out) Try.underlying24 rfl (by kernel_rfl)) rfl ?_
 exact ⟨_, by first | rfl | (simp [errW_none, errW_some] <;> rfl) | (simp [*, errW_none, errW_some] <;> rfl), by first | exact Kd.R_nil _ _ _ _ _ | exact Kd.N_nil _ _ _ _ _ | exact Kd.V_nil _ _ _ _ _ | exact Kd.Q_nil _ _ _ _ _ | exact Kd.S_nil _ _ _ _ _, by repeat (first | (with_reducible first | exact HB.out | apply below_alloc | apply pw_below_drewN | apply below_drew1 | refine below_set ?_ GE132.out) | exact HB.out)⟩
-- NOT PRINTED: function 7 (scarflaw15_known)
end Go.Proofs.Ytfmlpkeaiohknaa.Q
/-! Trees that are the same; the numbers of shape.Marks told by the trees themselves. -/
set_option linter.unusedVariables false
set_option linter.unusedSimpArgs false
namespace Go.Proofs.Ytfmlpkeaiohknaa.Q
open Go.RowKit Go.Proofs.YtfmlpkeaiohknaaW.PrintWords Go.Proofs.YtfmlpkeaiohknaaW.PrintLast Go.Proofs.YtfmlpkeaiohknaaW.PrintMore
theorem sm_toList_loop (a : ByteArray) : ∀ (n i : Nat) (r : List UInt8), a.size - i = n → ByteArray.toList.loop a i r = r.reverse ++ a.data.toList.drop i
  | 0, i, r, h => by
    unfold ByteArray.toList.loop
    rw [if_neg (by omega), List.drop_eq_nil_of_le (by rw [Array.length_toList]; show a.size ≤ i; omega)]
    simp
  | n + 1, i, r, h => by
    unfold ByteArray.toList.loop
    rw [if_pos (by omega), sm_toList_loop a n (i + 1) _ (by omega)]
    have hl : i < a.data.toList.length := by rw [Array.length_toList]; show i < a.size; omega
    rw [List.drop_eq_getElem_cons hl]
    have : a.get! i = a.data.toList[i] := by
      show a.data[i]! = _
      simp at hl
      simp [getElem!_pos, hl]
    rw [this]
    simp
theorem sm_toList_data (a : ByteArray) : a.toList = a.data.toList := by
  unfold ByteArray.toList
  rw [sm_toList_loop a _ 0 [] rfl]
  simp
theorem sm_data_inj {a b : ByteArray} (h : a.data.toList = b.data.toList) : a = b := by
  obtain ⟨⟨a⟩⟩ := a; obtain ⟨⟨b⟩⟩ := b
  simp only at h
  rw [h]
theorem sm_toList_inj {a b : ByteArray} : a.toList = b.toList ↔ a = b := ⟨fun h => sm_data_inj (by rw [sm_toList_data, sm_toList_data] at h; exact h), fun h => by rw [h]⟩
mutual
theorem same_ev : ∀ (x y : S24), nsz x ≤ 1000000 → ∃ b, Ev (fun k => scarfref05_Same.f k x.f0 x.f1 x.f2 x.f3 y.f0 y.f1 y.f2 y.f3) b ∧ (b = true ↔ x = y)
  | ⟨a, b, c, l⟩, y, hn => by
    obtain ⟨a', b', c', m⟩ := y
    simp only [nsz] at hn
    have hj : ∀ q : Bool, q = true → Ev (fun k => scarfref05_Same.j0 k q a b c l a' b' c' m) false := fun q hq => by
      subst hq
      exact Ev.step (Ev.of fun k => by rw [scarfref05_Same.j0, if_pos rfl])
    by_cases h0 : a = a'
    · by_cases h1 : b = b'
      · by_cases h2 : c = c'
        · subst h0 h1 h2
          by_cases h3 : l.length = m.length
          · obtain ⟨q, hq, hm⟩ := sameL_ev l m [] [] a b c a b c h3 rfl (by simp; omega)
            simp only [List.nil_append, List.length_nil] at hq
            refine ⟨q, Ev.step (Ev.congr (Ev.step (g := fun k => scarfref05_Same.j0 k false a b c l a b c m) (Ev.congr hq fun k => ?_)) fun k => ?_), by rw [hm]; simp⟩
            · show scarfref05_Same.j0 (k + 1) false a b c l a b c m = _
              rw [scarfref05_Same.j0, if_neg (by simp)]; rfl
            · show scarfref05_Same.f (k + 1) _ _ _ _ _ _ _ _ = _
              rw [scarfref05_Same.f, if_pos rfl, if_pos rfl, if_pos rfl, h3]
              simp
          · refine ⟨false, Ev.step (Ev.congr (hj true rfl) fun k => ?_), by simp; intro h; exact h3 (by rw [h])⟩
            show scarfref05_Same.f (k + 1) _ _ _ _ _ _ _ _ = _
            rw [scarfref05_Same.f, if_pos rfl, if_pos rfl, if_pos rfl]
            congr 1
            simp; omega
        · refine ⟨false, Ev.step (Ev.congr (hj true rfl) fun k => ?_), by simp [h2]⟩
          show scarfref05_Same.f (k + 1) _ _ _ _ _ _ _ _ = _
          rw [scarfref05_Same.f, if_pos h0, if_pos (sm_toList_inj.2 h1), if_neg (fun h => h2 (sm_toList_inj.1 h))]
      · refine ⟨false, Ev.step (Ev.congr (hj true rfl) fun k => ?_), by simp [h1]⟩
        show scarfref05_Same.f (k + 1) _ _ _ _ _ _ _ _ = _
        rw [scarfref05_Same.f, if_pos h0, if_neg (fun h => h1 (sm_toList_inj.1 h))]
    · refine ⟨false, Ev.step (Ev.congr (hj true rfl) fun k => ?_), by simp [h0]⟩
      show scarfref05_Same.f (k + 1) _ _ _ _ _ _ _ _ = _
      rw [scarfref05_Same.f, if_neg h0]
theorem sameL_ev : ∀ (r s dx dy : List S24) (a : Int) (b c : ByteArray) (a' : Int) (b' c' : ByteArray), r.length = s.length → dx.length = dy.length → dx.length + nszL r ≤ 1000000 →
    ∃ q, Ev (fun k => scarfref05_Same.l0 k (dx.length : Int) a b c (dx ++ r) a' b' c' (dy ++ s)) q ∧ (q = true ↔ r = s)
  | [], s, dx, dy, a, b, c, a', b', c', hl, hd, hn => by
    obtain rfl : s = [] := List.length_eq_zero_iff.1 hl.symm
    exact ⟨true, Ev.step (Ev.of fun k => by rw [scarfref05_Same.l0, if_neg (by simp)]), by simp⟩
  | x :: r, s, dx, dy, a, b, c, a', b', c', hl, hd, hn => by
    obtain _ | ⟨y, s⟩ := s
    · simp at hl
    · simp only [nszL] at hn
      have hp : 0 < nsz x := by have := pre_pos x; rwa [pre_len] at this
      obtain ⟨q, hq, hm⟩ := same_ev x y (by omega)
      have hgo : ∀ k, scarfref05_Same.l0 (k + 1) (dx.length : Int) a b c (dx ++ x :: r) a' b' c' (dy ++ y :: s) = (scarfref05_Same.f k x.f0 x.f1 x.f2 x.f3 y.f0 y.f1 y.f2 y.f3).bind fun t131 => (if t131 = true then (scarfref05_Same.l0 k ((dx.length : Int) + 1) a b c (dx ++ x :: r) a' b' c' (dy ++ y :: s)) else (some false)) := fun k => by
        rw [scarfref05_Same.l0, if_pos (by simp; omega), if_pos (by omega), if_pos (by simp; omega), rdT_at, hd, rdT_at, w64 (by omega) (by omega)]
      cases q with
      | false =>
        refine ⟨false, Ev.step (Ev.congr (Ev.bind hq (f := fun k t131 => (if t131 = true then (scarfref05_Same.l0 k ((dx.length : Int) + 1) a b c (dx ++ x :: r) a' b' c' (dy ++ y :: s)) else (some false))) (Ev.of fun k => by rw [if_neg (by simp)])) hgo), by simp; intro h; simp [h] at hm⟩
      | true =>
        obtain rfl := hm.1 rfl
        obtain ⟨q2, hq2, hm2⟩ := sameL_ev r s (dx ++ [x]) (dy ++ [x]) a b c a' b' c' (by simpa using hl) (by simp [hd]) (by simp; omega)
        refine ⟨q2, Ev.step (Ev.congr (Ev.bind hq (f := fun k t131 => (if t131 = true then (scarfref05_Same.l0 k ((dx.length : Int) + 1) a b c (dx ++ x :: r) a' b' c' (dy ++ x :: s)) else (some false))) (Ev.congr hq2 fun k => ?_)) hgo), by rw [hm2]; simp⟩
        rw [if_pos rfl]
        simp
end
end Go.Proofs.Ytfmlpkeaiohknaa.Q
/-! known's calls: Of, Apply and Same at the chapter's example. -/
set_option linter.unusedVariables false
set_option linter.unusedSimpArgs false
namespace Go.Proofs.Ytfmlpkeaiohknaa.Q
open Go Go.RowKit Go.Lib Go.Sort Go.Proofs.YtfmlpkeaiohknaaW.PrintWords Go.Proofs.YtfmlpkeaiohknaaW.PrintLast Go.Proofs.YtfmlpkeaiohknaaW.PrintMore Go.Proofs.YtfmlpkeaiohknaaW.SL
theorem base_add (g m : Nat) : (⟨g, 0, none⟩ : Addr).add m = ⟨g, m, none⟩ := by
  unfold Addr.add
  split
  · rename_i h; subst h; rfl
  · simp
theorem lit_C1 {α : Type} {d : Kd α} {W : World} {g t : Nat} {cs : List Value} {x : α} (h : W.heap[g]? = some (.cells cs.toArray t (0, 0))) (hK : d.K W x cs) : Kd.C d W (some ⟨g, 0, none⟩) [x].length [x] := by
  refine ⟨rfl, by simp, fun _ => ⟨_, rfl, fun j p hj => ?_⟩⟩
  cases j with
  | zero =>
    simp only [List.getElem?_cons_zero, Option.some.injEq] at hj
    subst hj
    refine ⟨_, d.K_len hK, hK, fun i u hi => ?_⟩
    rw [base_add, blk_cell h]
    simpa using hi
  | succ j => simp at hj
theorem lit_C2 {α : Type} {d : Kd α} {W : World} {g t : Nat} {cs1 cs2 : List Value} {x y : α} (h : W.heap[g]? = some (.cells (cs1 ++ cs2).toArray t (0, 0))) (hK : d.K W x cs1) (hK2 : d.K W y cs2) : Kd.C d W (some ⟨g, 0, none⟩) [x, y].length [x, y] := by
  have hl := d.K_len hK
  have hl2 := d.K_len hK2
  refine ⟨rfl, by simp, fun _ => ⟨_, rfl, fun j p hj => ?_⟩⟩
  cases j with
  | zero =>
    simp only [List.getElem?_cons_zero, Option.some.injEq] at hj
    subst hj
    refine ⟨_, hl, hK, fun i u hi => ?_⟩
    rw [base_add, blk_cell h]
    have hi2 := (List.getElem?_eq_some_iff.1 hi).1
    simp only [List.getElem?_toArray]
    rw [Nat.zero_mul, Nat.zero_add, List.getElem?_append_left hi2]; exact hi
  | succ j =>
    cases j with
    | zero =>
      simp only [List.getElem?_cons_succ, List.getElem?_cons_zero, Option.some.injEq] at hj
      subst hj
      refine ⟨_, hl2, hK2, fun i u hi => ?_⟩
      rw [base_add, blk_cell h]
      simp only [List.getElem?_toArray]
      rw [List.getElem?_append_right (by omega)]
      rw [show (0 + 1) * d.sz + i - cs1.length = i by omega]; exact hi
    | succ j => simp at hj
abbrev eS : ByteArray := ⟨#[]⟩
abbrev xS : ByteArray := ⟨#[120]⟩
abbrev yS : ByteArray := ⟨#[121]⟩
abbrev nX : S24 := ⟨9, xS, eS, []⟩
abbrev nY : S24 := ⟨9, yS, eS, []⟩
theorem lit_X {W : World} {g t c : Nat} {A : Option Addr} (h : W.heap[g]? = some (.cells #[.int .i64 9, .string xS, .string eS, .slice A 0 c] t (0, 0))) (hA : Kd.C k24 W A 0 []) : Kd.C k24 W (some ⟨g, 0, none⟩) 1 [nX] :=
  lit_C1 (cs := [.int .i64 9, .string xS, .string eS, .slice A 0 c]) h (k24_mk W nX (Nat.zero_le _) hA)
theorem lit_YX {W : World} {g t c1 c2 : Nat} {A1 A2 : Option Addr} (h : W.heap[g]? = some (.cells #[.int .i64 9, .string yS, .string eS, .slice A1 0 c1, .int .i64 9, .string xS, .string eS, .slice A2 0 c2] t (0, 0))) (h1 : Kd.C k24 W A1 0 []) (h2 : Kd.C k24 W A2 0 []) : Kd.C k24 W (some ⟨g, 0, none⟩) 2 [nY, nX] :=
  lit_C2 (cs1 := [.int .i64 9, .string yS, .string eS, .slice A1 0 c1]) (cs2 := [.int .i64 9, .string xS, .string eS, .slice A2 0 c2]) h (k24_mk W nY (Nat.zero_le _) h1) (k24_mk W nX (Nat.zero_le _) h2)
theorem lit_prs {W : World} {g t : Nat} (h : W.heap[g]? = some (.cells #[.int .i64 0, .int .i64 0, .int .i64 1, .int .i64 2] t (0, 0))) : Kd.C kP W (some ⟨g, 0, none⟩) 2 [(0, 0), (1, 2)] :=
  lit_C2 (d := kP) (cs1 := [.int .i64 0, .int .i64 0]) (cs2 := [.int .i64 1, .int .i64 2]) h ⟨[.int .i64 0], [.int .i64 0], rfl, rfl, rfl⟩ ⟨[.int .i64 1], [.int .i64 2], rfl, rfl, rfl⟩
theorem lit_gone {W : World} {g t : Nat} (h : W.heap[g]? = some (.cells #[.int .i64 2, .int .i64 0, .int .i64 0, .int .i64 0, .int .i64 0, .string eS, .string eS] t (0, 0))) : Kd.C k54 W (some ⟨g, 0, none⟩) 1 [⟨2, 0, 0, 0, 0, eS, eS⟩] :=
  lit_C1 (cs := [.int .i64 2, .int .i64 0, .int .i64 0, .int .i64 0, .int .i64 0, .string eS, .string eS]) h (k54_mk W ⟨2, 0, 0, 0, 0, eS, eS⟩)
theorem kn_of (W : World) (A B P : Option Addr) (hA : Kd.C k24 W A 1 [nX]) (hB : Kd.C k24 W B 2 [nY, nX]) (hP : Kd.C kP W P 2 [(0, 0), (1, 2)]) :
    Calls Try.prog 15 #[.agg #[.int .i64 20, .string eS, .string eS, .slice A 1 1], .agg #[.int .i64 20, .string eS, .string eS, .slice B 2 2], .slice P 2 2] W fun e w' => ∃ A1 c1, e = .returned (.tuple #[.slice A1 1 c1, .int .i64 0]) ∧ Below W.heap.size W w' ∧ (rdV k54 A1 c1 [kE 9 eS yS]).P w' (fun k => W.heap.size ≤ k ∧ k < w'.heap.size) := by
  have h := sof_calls (kA 20 9 eS xS) (kB 20 9 eS xS yS) [(0, 0), (1, 2)] W (A := A) (c := 1) (B := B) (d := 2) (P := P) (e := 2) hA (Nat.le_refl _) hB (Nat.le_refl _) hP (Nat.le_refl _) (planOk (by rw [nsz_kA]; omega)) (by rw [nsz_kB]; omega) (by simp) (planB (by rw [nsz_kB]; omega)) _ (fun _ => of_known 20 9 eS xS yS)
  rw [right_known] at h
  refine h.mono ?_
  rintro e w' ⟨hb, v, rfl, hR⟩
  obtain ⟨A1, c1, rfl, hP⟩ := rd_R hR
  exact ⟨A1, c1, rfl, hb, hP⟩
theorem kn_ap (W : World) (A B : Option Addr) (c : Nat) (hA : Kd.C k24 W A 1 [nX]) (hB : Kd.C k54 W B 1 [kE 9 eS yS]) (hc : 1 ≤ c) :
    Calls Try.prog 10 #[.agg #[.int .i64 20, .string eS, .string eS, .slice A 1 1], .slice B 1 c] W fun e w' => ∃ A2 c2, e = .returned (.tuple #[.agg #[.int .i64 20, .string eS, .string eS, .slice A2 2 c2], .int .i64 1, .int .i64 0]) ∧ Below W.heap.size W w' ∧ (rdV k24 A2 c2 [nY, nX]).P w' (fun k => W.heap.size ≤ k ∧ k < w'.heap.size) := by
  have h := apply_calls (kA 20 9 eS xS) [kE 9 eS yS] W (A := A) (c := 1) (B := B) (d := c) hA (Nat.le_refl _) hB hc (planOk (by rw [nsz_kA]; omega)) (by simp) (by intro e he; rw [List.mem_singleton] at he; subst he; unfold kE in64; simp)
  rw [run_known] at h
  refine h.mono ?_
  rintro e w' ⟨hb, v, rfl, hR⟩
  rw [tree_known] at hR
  rw [tree_known]
  obtain ⟨A1, c1, rfl, hP⟩ := rd_R hR
  exact ⟨A1, c1, rfl, hb, hP⟩
theorem kn_gone (W : World) (A B : Option Addr) (hA : Kd.C k24 W A 1 [nX]) (hB : Kd.C k54 W B 1 [⟨2, 0, 0, 0, 0, eS, eS⟩]) :
    Calls Try.prog 10 #[.agg #[.int .i64 20, .string eS, .string eS, .slice A 1 1], .slice B 1 1] W fun e w' => e = .returned (.tuple #[.agg #[.int .i64 0, .string eS, .string eS, .slice none 0 0], .int .i64 0, .int .i64 10]) ∧ Below W.heap.size W w' := by
  have h := apply_calls (kA 20 9 eS xS) [⟨2, 0, 0, 0, 0, eS, eS⟩] W (A := A) (c := 1) (B := B) (d := 1) hA (Nat.le_refl _) hB (Nat.le_refl _) (planOk (by rw [nsz_kA]; omega)) (by simp) (by intro e he; rw [List.mem_singleton] at he; subst he; unfold in64; simp)
  rw [gone_known] at h
  refine h.mono ?_
  rintro e w' ⟨hb, rfl⟩
  exact ⟨rfl, hb⟩
theorem kn_same (W : World) (A B : Option Addr) (c d : Nat) (hA : Kd.C k24 W A 2 [nY, nX]) (hc : 2 ≤ c) (hB : Kd.C k24 W B 2 [nY, nX]) (hd : 2 ≤ d) :
    Calls Try.prog 14 #[.agg #[.int .i64 20, .string eS, .string eS, .slice A 2 c], .agg #[.int .i64 20, .string eS, .string eS, .slice B 2 d]] W fun e w' => e = .returned (.bool true) ∧ Below W.heap.size W w' := by
  obtain ⟨b, hb, hbt⟩ := same_ev (kB 20 9 eS xS yS) (kB 20 9 eS xS yS) (by rw [nsz_kB]; omega)
  obtain rfl := hbt.2 rfl
  obtain ⟨k, hk⟩ := hb.has
  refine (scarfref05_Same.calls k 20 eS eS A c [nY, nX] 20 eS eS B d [nY, nX] true W hA hc hB hd hk).mono ?_
  rintro e w' h
  exact h
theorem kn_name (a0 : ByteArray) (W : World) : Calls Try.prog 19 #[.string a0] W fun e w' => ∃ A c, e = .returned (.agg #[.int .i64 9, .string a0, .string eS, .slice A 0 c]) ∧ Below W.heap.size W w' ∧ (rdV k24 A c []).P w' (fun k => W.heap.size ≤ k ∧ k < w'.heap.size) := by
  refine (scarflaw05_Name.calls a0 _ _ _ _ W rfl).mono ?_
  rintro e w' ⟨v, rfl, hR, hb⟩
  obtain ⟨A1, c1, rfl, hP⟩ := rd_R hR
  exact ⟨A1, c1, rfl, hb, hP⟩
end Go.Proofs.Ytfmlpkeaiohknaa.Q
-- Written by a program of this session (wip/mkprint.py, wip/pr.sh) for this claim; Lean checks it.
namespace Go.Proofs.Ytfmlpkeaiohknaa.Q
open Go.RowKit Go.Proofs.YtfmlpkeaiohknaaW.PrintWords Go.Proofs.YtfmlpkeaiohknaaW.PrintLast Go.Proofs.YtfmlpkeaiohknaaW.PrintMore
attribute [local go_sem] max2_int min2_int max_two min_two max_three min_three max_four min_four   -- for this text's walks alone
set_option linter.unusedVariables false
set_option linter.unusedSimpArgs false
/-! ### scarfref05_Copy: function 8 -/
/-! ### scarflaw15_edits: function 9 -/
end Go.Proofs.Ytfmlpkeaiohknaa.Q
/-! The reference's Copy tells the same tree. -/
set_option linter.unusedVariables false
set_option linter.unusedSimpArgs false
namespace Go.Proofs.Ytfmlpkeaiohknaa.Q
open Go.RowKit Go.Proofs.YtfmlpkeaiohknaaW.PrintWords Go.Proofs.YtfmlpkeaiohknaaW.PrintLast Go.Proofs.YtfmlpkeaiohknaaW.PrintMore
end Go.Proofs.Ytfmlpkeaiohknaa.Q
/-! ScriptSelf's calls: few, Size, Copy, Of, Apply and Same of a tree with itself. -/
set_option linter.unusedVariables false
set_option linter.unusedSimpArgs false
namespace Go.Proofs.Ytfmlpkeaiohknaa.Q
open Go Go.RowKit Go.Lib Go.Sort Go.Proofs.YtfmlpkeaiohknaaW.PrintWords Go.Proofs.YtfmlpkeaiohknaaW.PrintLast Go.Proofs.YtfmlpkeaiohknaaW.PrintMore Go.Proofs.YtfmlpkeaiohknaaW.SL
section
variable (x : S24)
theorem few_calls (m : Int) (h0 : 1 ≤ m) (h1 : m ≤ 2000) : ∃ b : Bool, (b = true → (nsz x : Int) ≤ m ∧ ∀ y ∈ pre x, y.f1.size ≤ 50000 ∧ y.f2.size ≤ 50000) ∧ ∀ (W : World) (A : Option Addr) (c : Nat), Kd.C k24 W A x.f3.length x.f3 → x.f3.length ≤ c →
    Calls Try.prog 6 #[.agg #[.int .i64 x.f0, .string x.f1, .string x.f2, .slice A x.f3.length c], .int .i64 m] W fun e w' => e = .returned (.bool b) ∧ Below W.heap.size W w' := by
  obtain ⟨b, hb, hm⟩ := few_ev x m h0 h1
  obtain ⟨k, hk⟩ := hb.has
  exact ⟨b, hm, fun W A c hC hc => scarflaw15_few.calls k x.f0 x.f1 x.f2 A c x.f3 m b W hC hc hk⟩
end
end Go.Proofs.Ytfmlpkeaiohknaa.Q
