import Derived.Test.YtfmlpkeaiohknaaDoorMMap
import Derived.Test.YtfmlpkeaiohknaaDoorMOf
import Derived.Lib.AppendIntMem
/-! What shape.Marks computes, in plain words; what its walk needs of it. -/
set_option linter.unusedVariables false
set_option linter.unusedSimpArgs false
namespace Go.Proofs.YtfmlpkeaiohknaaDoor.Q
open Go.RowKit Go.Proofs.YtfmlpkeaiohknaaDoorW.PrintWords Go.Proofs.YtfmlpkeaiohknaaDoorW.PrintLast Go.Proofs.YtfmlpkeaiohknaaDoorW.PrintMore Go.Proofs.YtfmlpkeaiohknaaDoorW.SL
/-- One text of a node: its length, a colon, itself. -/
def piece (s : List UInt8) : List UInt8 := Lib.itoa s.length ++ [58] ++ s
def tailK (ns : List Int) : List UInt8 := ns.flatMap fun n => 44 :: Lib.itoa n
def headK (x : S24) : List UInt8 := piece (Lib.itoa x.f0) ++ piece x.f1.data.toList ++ piece x.f2.data.toList
/-- A node's key: kind, text, trail, its kids' numbers. -/
def nkey (x : S24) (ns : List Int) : List UInt8 := headK x ++ tailK ns
/-- The key numbered i - 1 .. 0: the keys so far, the numbers of one tree. -/
def ownGo (P : PS) : Nat → List (List UInt8) → List Int → List (List UInt8) × List Int
  | 0, ks, own => (ks, own)
  | i + 1, ks, own =>
    let key := nkey (P.N.getD i z24) ((P.K.getD i []).map fun k => own.getD k.toNat 0)
    ownGo P i (if key ∈ ks then ks else ks ++ [key]) (own.set i (ks.idxOf key : Nat))
def rough : List S24 → List (List UInt8) → List (List Int)
  | [], _ => []
  | x :: r, ks => let o := ownGo (ofP x) (ofP x).N.length ks (List.replicate (ofP x).N.length 0); o.2 :: rough r o.1
def roughK : List S24 → List (List UInt8) → List (List UInt8)
  | [], ks => ks
  | x :: r, ks => roughK r (ownGo (ofP x) (ofP x).N.length ks (List.replicate (ofP x).N.length 0)).1
/-- Numbers by when they first came. -/
def seen : List Int → List Int → List Int
  | [], ks => ks
  | k :: r, ks => seen r (if k ∈ ks then ks else ks ++ [k])
def renum : List Int → List Int → List Int
  | [], _ => []
  | k :: r, ks => (ks.idxOf k : Nat) :: renum r (if k ∈ ks then ks else ks ++ [k])
def renums : List (List Int) → List Int → List (List Int)
  | [], _ => []
  | o :: r, ks => renum o ks :: renums r (seen o ks)
def marks (l : List S24) : List (List Int) := renums (rough l []) []
def okNode (y : S24) : Bool := decide (-9223372036854775808 ≤ y.f0) && decide (y.f0 ≤ 9223372036854775807) && decide (y.f1.size ≤ 1000000000) && decide (y.f2.size ≤ 1000000000)
def okT (x : S24) : Bool := decide (nsz x ≤ 1000000) && (ofP x).N.all okNode
def shape_Marks.f (l0 : List (S24)) : Option ((List (List Int))) := if (decide (l0.length ≤ 1000) && l0.all okT) = true then some (marks l0) else none
theorem tab_below {w w' : World} (h : TabOk w) (hb : Below w.heap.size w w') : TabOk w' := Lib.tabBelow_of_tabIs h w' hb
theorem decDigits_len : ∀ (d u : Nat), u < 10 ^ (d + 1) → (Lib.decDigits u).length ≤ d + 1
  | 0, u, h => by rw [Lib.decDigits, dif_pos (by omega)]; simp
  | d + 1, u, h => by
    rw [Lib.decDigits]
    split
    · simp
    · have := decDigits_len d (u / 10) (by rw [Nat.pow_succ] at h; omega)
      simp; omega
theorem itoa_len (n : Int) (h0 : -9223372036854775808 ≤ n) (h1 : n ≤ 9223372036854775807) : (Lib.itoa n).length ≤ 20 := by
  unfold Lib.itoa
  split
  · have := decDigits_len 18 n.natAbs (by simp; omega); simp; omega
  · have := decDigits_len 18 n.toNat (by simp; omega); omega
theorem ownGo_len (P : PS) : ∀ (i : Nat) (ks : List (List UInt8)) (own : List Int), (ownGo P i ks own).2.length = own.length
  | 0, _, _ => rfl
  | i + 1, ks, own => by rw [ownGo, ownGo_len P i]; simp
/-- Kids lie in the plan. -/
def KidsIn (s : PS) : Prop := s.K.length = s.N.length ∧ ∀ ks ∈ s.K, ∀ k ∈ ks, 0 ≤ k ∧ k < (s.N.length : Int)
theorem set_mem {α : Type} {l : List α} {i : Nat} {x y : α} (h : y ∈ l.set i x) : y = x ∨ y ∈ l := by
  rcases List.mem_or_eq_of_mem_set h with h | h
  · exact .inr h
  · exact .inl h
mutual
theorem addN_len2 : ∀ (x : S24) (p : Int) (s : PS), KidsIn s → KidsIn (addN x p s)
  | ⟨a, b, c, l⟩, p, s, h => by
    have h0 : KidsIn ⟨s.N ++ [⟨a, b, c, l⟩], s.P ++ [p], s.Z ++ [0], s.K ++ [[]]⟩ := by
      refine ⟨by simp [h.1], fun ks hk k hm => ?_⟩
      rcases List.mem_append.1 hk with hk | hk
      · have := h.2 ks hk k hm; simp; omega
      · rw [List.mem_singleton.1 hk] at hm; cases hm
    have h1 := addL_len2 l s.N.length _ h0
    exact h1
theorem addL_len2 : ∀ (l : List S24) (a : Nat) (s : PS), KidsIn s → KidsIn (addL l a s)
  | [], a, s, h => h
  | k :: r, a, s, h => by
    have h1 := addN_len2 k a s h
    have hl := addN_len k a s
    have hp : 0 < nsz k := by cases k; simp only [nsz]; omega
    refine addL_len2 r a _ ⟨by simp [h1.1], fun ks hk j hm => ?_⟩
    rcases set_mem hk with hk | hk
    · subst hk
      rcases List.mem_append.1 hm with hm | hm
      · have hg : (addN k a s).K.getD a [] ∈ (addN k a s).K ∨ (addN k a s).K.getD a [] = [] := by
          rw [List.getD_eq_getElem?_getD]
          cases hq : (addN k a s).K[a]? with
          | none => exact .inr rfl
          | some v => exact .inl (List.mem_of_getElem? hq)
        rcases hg with hg | hg
        · exact h1.2 _ hg j hm
        · rw [hg] at hm; cases hm
      · rw [List.mem_singleton.1 hm]; simp only []; omega
    · exact h1.2 ks hk j hm
end
theorem ofP_kids (x : S24) : KidsIn (ofP x) := addN_len2 x _ _ ⟨rfl, fun ks h => by cases h⟩
end Go.Proofs.YtfmlpkeaiohknaaDoor.Q
