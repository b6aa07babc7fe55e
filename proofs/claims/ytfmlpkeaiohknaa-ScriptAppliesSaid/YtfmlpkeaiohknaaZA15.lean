/- The texts of this claim that lie below its row, in their order: GPl GKw GKx Qx2 GSm GK7 GRl GRo GRn GRc GS5 GRa. -/
import Derived.Test.YtfmlpkeaiohknaaZA14
set_option linter.unusedVariables false
set_option linter.unusedSimpArgs false
set_option maxHeartbeats 8000000
set_option maxRecDepth 100000
open Array renaming length_toList -> RE
open Bool renaming false -> BK, eq_false_iff -> SR
open ByteArray.toList renaming loop -> QF
open Go renaming World -> Pe, Calls -> PJ, Value -> Pd, heap_alloc_new -> Pv
open Go.Act renaming put -> Ph
open Go.RowKit.Below renaming refl -> Pn
open Go.Value renaming ownBlock -> PT
open Go.World renaming block_lt_of_cell? -> Pb
open Int renaming toNat_natCast -> PO
open List renaming mem_append -> Qm, mem_singleton -> PC, getD_eq_getElem?_getD -> Pt, mem_of_getElem? -> Pm, length_nil -> Qu, map_cons -> Py, setIfInBounds_toArray -> GW, set_cons_zero -> Pa, set_cons_succ -> NB, map_toArray -> PN, map_nil -> PZ, length_drop -> PG, length_take -> Pp, nil_append -> Pu, getElem?_cons_zero -> QR, getElem?_eq_some_iff -> Pf, getElem?_append_left -> PQ, getElem?_take -> PW, getElem?_drop -> Qk, length_map -> PM, getElem?_map -> PU, map_append -> Qs
open Nat renaming le_refl -> Ps, zero_le -> Qa, le_trans -> Qo
open Option renaming bind_some -> Pj
open Option.some renaming inj -> Px, injEq -> QA
open Or renaming inl -> PD
namespace Go.Proofs.Q
open Go Go.RowKit Go.Lib Go.Sort Go.Proofs.V.Words Go.Proofs.V.SL
def FQ (s : PS) : Prop := s.K.length = s.N.length /\ ∀ ks ∈ s.K, ∀ k ∈ ks, 0 <= k /\ k < (s.N.length : Int)
theorem NA {α : Type} {l : List α} {i : Nat} {x y : α} (h : y ∈ l.set i x) : y = x \/ y ∈ l := by
 rcases List.mem_or_eq_of_mem_set h with h | h
 ·exact .inr h
 ·exact .inl h
mutual
theorem I4 : ∀ (x : B8) (p : Int) (s : PS), FQ s -> FQ (C1 x p s)
 | ⟨a, b, c, l⟩, p, s, h => by
  have h0 : FQ ⟨s.N ++ [⟨a, b, c, l⟩], s.P ++ [p], s.Z ++ [0], s.K ++ [[]]⟩ := by
   refine ⟨by simp [h.1], fun ks hk k hm => ?_⟩;rcases Qm.1 hk with hk | hk
   ·have := h.2 ks hk k hm; simp; omega
   ·rw [PC.1 hk] at hm; cases hm
  have h1 := I5 l s.N.length _ h0;exact h1
theorem I5 : ∀ (l : List B8) (a : Nat) (s : PS), FQ s -> FQ (C8 l a s)
 | [], a, s, h => h
 | k :: r, a, s, h => by
  have h1 := I4 k a s h;have hl := CT k a s;have hp : 0 < BT k := by cases k; simp only [BT]; omega
  refine I5 r a _ ⟨by simp [h1.1], fun ks hk j hm => ?_⟩;rcases NA hk with hk | hk
  ·subst hk;rcases Qm.1 hm with hm | hm
   ·have hg : (C1 k a s).K.getD a [] ∈ (C1 k a s).K \/ (C1 k a s).K.getD a [] = [] := by
     rw [Pt];cases hq : (C1 k a s).K[a]? with
     | none => exact .inr rfl
     | some v => exact .inl (Pm hq)
    rcases hg with hg | hg
    ·exact h1.2 _ hg j hm
    ·rw [hg] at hm; cases hm
   ·rw [PC.1 hm]; simp only []; omega
  ·exact h1.2 ks hk j hm
end
theorem MP (x : B8) : FQ (Bk x) := I4 x _ _ ⟨rfl, fun ks h => by cases h⟩
theorem NW {x : B8} (h : BT x <= 1000) : KL (Bk x) := by
 have hk := MP x;have hs := Gw x (-1) ⟨[], [], [], []⟩;refine ⟨hk.1, fun i hi k hm => ?_, fun i => ?_⟩
 ·refine hk.2 _ (Fv (by rw [hk.1]; exact hi) []) k hm
 ·rw [Pt];cases hq : (Bk x).K[i]? with
  | none => simp
  | some v =>
   have h1 := Gv hq;have h2 : Db (Bk x).K + 1 <= Db [] + BT x := hs;have h3 : Db [] = 0 := rfl
   show v.length <= 1000
   omega
end Go.Proofs.Q
namespace Go.Proofs.Q
def kA (r n : Int) (e tx : ByteArray) : B8 := ⟨r, e, e, [⟨n, tx, e, []⟩]⟩
def kB (r n : Int) (e tx ty : ByteArray) : B8 := ⟨r, e, e, [⟨n, ty, e, []⟩, ⟨n, tx, e, []⟩]⟩
section
variable (r n : Int) (e tx ty : ByteArray)
theorem MQ : Bk (kA r n e tx) = ⟨[kA r n e tx, ⟨n, tx, e, []⟩], [-1, 0], [2, 1], [[1], []]⟩ := rfl
theorem MR : Bk (kB r n e tx ty) = ⟨[kB r n e tx ty, ⟨n, ty, e, []⟩, ⟨n, tx, e, []⟩], [-1, 0, 0], [3, 1, 1], [[1, 2], [], []]⟩ := rfl
theorem GK : Bd (kA r n e tx) = [⟨0, r, e, e, none, [1]⟩, ⟨1, n, tx, e, some 0, []⟩] := rfl
def kE : Dm := ⟨1, 2, 0, -1, n, ty, e⟩
theorem Oj : EU [⟨0, r, e, e, none, [1]⟩, ⟨1, n, tx, e, some 0, []⟩] (DM (kE n e ty)) = [⟨0, r, e, e, none, [2, 1]⟩, ⟨1, n, tx, e, some 0, []⟩, ⟨2, n, ty, e, some 0, []⟩] := rfl
theorem MS : Ce [⟨0, r, e, e, none, [1]⟩, ⟨1, n, tx, e, some 0, []⟩] (DM (kE n e ty)) = some [⟨0, r, e, e, none, [2, 1]⟩, ⟨1, n, tx, e, some 0, []⟩, ⟨2, n, ty, e, some 0, []⟩] := by
 unfold Ce;rw [if_pos (show (DM (kE n e ty)).so = 1 from rfl), if_pos ⟨rfl, by show (0 : Int) <= 2; decide, ⟨0, r, e, e, none, [1]⟩, rfl, .inl rfl⟩, Oj]
theorem Ol (nm : List Int) (nx : Int) : (⟨nm, nx, [⟨0, r, e, e, none, [1]⟩, ⟨1, n, tx, e, some 0, []⟩], []⟩ : Os).run (kE n e ty) = some ⟨nm, nx, [⟨0, r, e, e, none, [2, 1]⟩, ⟨1, n, tx, e, some 0, []⟩, ⟨2, n, ty, e, some 0, []⟩], [kE n e ty]⟩ := by
 unfold Os.run;rw [if_pos ⟨by simp, by unfold in64 kE; simp, by unfold in64 kE; simp⟩];dsimp only;rw [MS];rfl
theorem MT : OS (Bk (kA r n e tx)).N (Bk (kA r n e tx)).P (Bk (kB r n e tx ty)).N (Bk (kB r n e tx ty)).K [(0, 0), (1, 2)] = some ⟨[0, 2, 1], 3, [⟨0, r, e, e, none, [2, 1]⟩, ⟨1, n, tx, e, some 0, []⟩, ⟨2, n, ty, e, some 0, []⟩], [kE n e ty]⟩ := by
 rw [MQ, MR];unfold OS;have h1 : LX [kA r n e tx, ⟨n, tx, e, []⟩] [kB r n e tx ty, ⟨n, ty, e, []⟩, ⟨n, tx, e, []⟩] [(0, 0), (1, 2)] ⟨[-1, -1, -1], 2, [⟨0, r, e, e, none, [1]⟩, ⟨1, n, tx, e, some 0, []⟩], []⟩ = some ⟨[0, -1, 1], 2, [⟨0, r, e, e, none, [1]⟩, ⟨1, n, tx, e, some 0, []⟩], []⟩ := by
  rw [LX];have a : Og [kA r n e tx, ⟨n, tx, e, []⟩] [kB r n e tx ty, ⟨n, ty, e, []⟩, ⟨n, tx, e, []⟩] ⟨[-1, -1, -1], 2, [⟨0, r, e, e, none, [1]⟩, ⟨1, n, tx, e, some 0, []⟩], []⟩ (0, 0) = some ⟨[0, -1, -1], 2, [⟨0, r, e, e, none, [1]⟩, ⟨1, n, tx, e, some 0, []⟩], []⟩ := by
   unfold Og;dsimp only;rw [if_pos ⟨rfl, rfl⟩];rfl
  rw [a, Pj, LX];have b : Og [kA r n e tx, ⟨n, tx, e, []⟩] [kB r n e tx ty, ⟨n, ty, e, []⟩, ⟨n, tx, e, []⟩] ⟨[0, -1, -1], 2, [⟨0, r, e, e, none, [1]⟩, ⟨1, n, tx, e, some 0, []⟩], []⟩ (1, 2) = some ⟨[0, -1, 1], 2, [⟨0, r, e, e, none, [1]⟩, ⟨1, n, tx, e, some 0, []⟩], []⟩ := by
   unfold Og;dsimp only;rw [if_pos ⟨rfl, rfl⟩];rfl
  rw [b, Pj, LX]
 have h1' : LX [kA r n e tx, ⟨n, tx, e, []⟩] [kB r n e tx ty, ⟨n, ty, e, []⟩, ⟨n, tx, e, []⟩] [(0, 0), (1, 2)] ⟨List.replicate [kB r n e tx ty, ⟨n, ty, e, []⟩, ⟨n, tx, e, []⟩].length (-1), (([kA r n e tx, ⟨n, tx, e, []⟩].length : Nat) : Int), Bn [kA r n e tx, ⟨n, tx, e, []⟩] [-1, 0] [kA r n e tx, ⟨n, tx, e, []⟩].length, []⟩ = _ := h1;dsimp only;rw [h1', Pj];have p0 : ER [kB r n e tx ty, ⟨n, ty, e, []⟩, ⟨n, tx, e, []⟩] [[1, 2], [], []] ⟨[0, -1, 1], 2, [⟨0, r, e, e, none, [1]⟩, ⟨1, n, tx, e, some 0, []⟩], []⟩ 0 = some ⟨[0, 2, 1], 3, [⟨0, r, e, e, none, [2, 1]⟩, ⟨1, n, tx, e, some 0, []⟩, ⟨2, n, ty, e, some 0, []⟩], [kE n e ty]⟩ := by
  unfold ER;have hg : CY [(⟨0, r, e, e, none, [1]⟩ : Kn), ⟨1, n, tx, e, some 0, []⟩] (([0, -1, 1] : List Int).getD 0 0) = some ⟨0, r, e, e, none, [1]⟩ := rfl;dsimp only;rw [hg];dsimp only;have hk1 := G6 (M := [kB r n e tx ty, ⟨n, ty, e, []⟩, ⟨n, tx, e, []⟩]) (i := 0) (k := 1) (st := F0 [0, -1, 1] ⟨0, r, e, e, none, [1]⟩ [1, 2]) (s := ⟨[0, -1, 1], 2, [⟨0, r, e, e, none, [1]⟩, ⟨1, n, tx, e, some 0, []⟩], []⟩) (last := -1) (by show (-1 : Int) < 0; decide);have hr := Ol r n e tx ty [0, 2, 1] 3;have hk1' : Dr [kB r n e tx ty, ⟨n, ty, e, []⟩, ⟨n, tx, e, []⟩] 0 (F0 [0, -1, 1] ⟨0, r, e, e, none, [1]⟩ [1, 2]) (⟨[0, -1, 1], 2, [⟨0, r, e, e, none, [1]⟩, ⟨1, n, tx, e, some 0, []⟩], []⟩, -1) 1 = (Os.run ⟨[0, 2, 1], 3, [⟨0, r, e, e, none, [1]⟩, ⟨1, n, tx, e, some 0, []⟩], []⟩ (kE n e ty)).map fun t => (t, 2) := hk1
  have hk2 := Fw (M := [kB r n e tx ty, ⟨n, ty, e, []⟩, ⟨n, tx, e, []⟩]) (i := 0) (k := 2) (st := F0 [0, -1, 1] ⟨0, r, e, e, none, [1]⟩ [1, 2]) (s := ⟨[0, 2, 1], 3, [⟨0, r, e, e, none, [2, 1]⟩, ⟨1, n, tx, e, some 0, []⟩, ⟨2, n, ty, e, some 0, []⟩], [kE n e ty]⟩) (last := 2) (by show ¬ (1 : Int) < 0; decide) (by rfl);have hc : ([[1, 2], [], []] : List (List Int)).getD 0 [] = [1, 2] := rfl;rw [hc, Fs, hk1', hr, Option.map_some, Pj, Fs];have hk2' : Dr [kB r n e tx ty, ⟨n, ty, e, []⟩, ⟨n, tx, e, []⟩] 0 (F0 [0, -1, 1] ⟨0, r, e, e, none, [1]⟩ [1, 2]) (⟨[0, 2, 1], 3, [⟨0, r, e, e, none, [2, 1]⟩, ⟨1, n, tx, e, some 0, []⟩, ⟨2, n, ty, e, some 0, []⟩], [kE n e ty]⟩, 2) 2 = _ := hk2;rw [hk2', Pj, Fs];rfl
 have h2 : KH [kB r n e tx ty, ⟨n, ty, e, []⟩, ⟨n, tx, e, []⟩] [[1, 2], [], []] 3 0 ⟨[0, -1, 1], 2, [⟨0, r, e, e, none, [1]⟩, ⟨1, n, tx, e, some 0, []⟩], []⟩ = some ⟨[0, 2, 1], 3, [⟨0, r, e, e, none, [2, 1]⟩, ⟨1, n, tx, e, some 0, []⟩, ⟨2, n, ty, e, some 0, []⟩], [kE n e ty]⟩ := by
  rw [KH, p0, Pj];rfl
 have h2' : KH [kB r n e tx ty, ⟨n, ty, e, []⟩, ⟨n, tx, e, []⟩] [[1, 2], [], []] [kB r n e tx ty, ⟨n, ty, e, []⟩, ⟨n, tx, e, []⟩].length 0 ⟨[0, -1, 1], 2, [⟨0, r, e, e, none, [1]⟩, ⟨1, n, tx, e, some 0, []⟩], []⟩ = _ := h2;rw [h2', Pj];exact Je 2 (fun j hj => decide_eq_true (by
  rcases (show j = 0 \/ j = 1 by omega) with rfl | rfl <;> simp))
end
section
variable (r n : Int) (e tx ty : ByteArray)
theorem Ji : Dg (Bk (kA r n e tx)).N (Bk (kB r n e tx ty)).N [(0, 0), (1, 2)] = true := by
 rw [MQ, MR];unfold Dg;refine decide_eq_true ⟨fun i hi hb => ?_, by decide, rfl⟩;simp only [List.length_cons, Qu] at hi;rcases (show i = 0 \/ i = 1 by omega) with rfl | rfl
 ·unfold CC at hb;simp [kA, kB] at hb
 ·unfold CC at hb;simp at hb
theorem Iz : BT (kA r n e tx) = 2 := rfl
theorem JZ : BT (kB r n e tx ty) = 3 := rfl
theorem LN : BV (Bd (kA r n e tx)) [kE n e ty] 0 = .inr [⟨0, r, e, e, none, [2, 1]⟩, ⟨1, n, tx, e, some 0, []⟩, ⟨2, n, ty, e, some 0, []⟩] := by
 rw [GK, BV, MS];rfl
theorem GM : BH [⟨0, r, e, e, none, [2, 1]⟩, ⟨1, n, tx, e, some 0, []⟩, ⟨2, n, ty, e, some 0, []⟩] 0 = kB r n e tx ty := by
 have hp : CX (kA r n e tx) := GG (by rw [Iz]; omega);have I := Dz hp;rw [GK] at I;have I2 := Fp I (by unfold in64; show (-9223372036854775808 : Int) <= 2 /\ (2 : Int) <= 9223372036854775807; decide) (MS r n e tx ty);have h0 := EQ I2 (k := ⟨0, r, e, e, none, [2, 1]⟩) (by simp);have h1 := EQ I2 (k := ⟨1, n, tx, e, some 0, []⟩) (by simp);have h2 := EQ I2 (k := ⟨2, n, ty, e, some 0, []⟩) (by simp);dsimp only at h0 h1 h2;rw [h0, Py, Py, h1, h2];rfl
theorem K0 (es : ByteArray) : BV (Bd (kA r n e tx)) [⟨2, 0, 0, 0, 0, es, es⟩] 0 = .inl 0 := by
 rw [GK, BV];have : Ce [⟨0, r, e, e, none, [1]⟩, ⟨1, n, tx, e, some 0, []⟩] (DM ⟨2, 0, 0, 0, 0, es, es⟩) = none := by
  unfold Ce;rw [if_neg (show ¬ (DM ⟨2, 0, 0, 0, 0, es, es⟩).so = 1 by show ¬ (2 : Int) = 1; decide), if_pos (show (DM ⟨2, 0, 0, 0, 0, es, es⟩).so = 2 from rfl)];rfl
 rw [this]
end
end Go.Proofs.Q
namespace Go.Proofs.Q
open Go.RowKit Go.Proofs.V.Words Go.Proofs.V.Last Go.Proofs.V.More
attribute [local go_sem] BI BJ BY BZ Bu Bv BL BM   -- for this text's walks alone
mutual
def Af.j0 : Nat -> Bool -> Int -> ByteArray -> ByteArray -> List (B8) -> Int -> ByteArray -> ByteArray -> List (B8) -> Option (Bool)
 | 0, _, _, _, _, _, _, _, _, _ => none
 | k + 1, x33, x128000, x128001, x128002, x128003, x129000, x129001, x129002, x129003 => if x33 = true then (some BK) else (Af.l0 k 0 x128000 x128001 x128002 x128003 x129000 x129001 x129002 x129003)
def Af.l0 : Nat -> Int -> Int -> ByteArray -> ByteArray -> List (B8) -> Int -> ByteArray -> ByteArray -> List (B8) -> Option (Bool)
 | 0, _, _, _, _, _, _, _, _, _ => none
 | k + 1, x5, x128000, x128001, x128002, x128003, x129000, x129001, x129002, x129003 => if x5 < (x128003.length : Int) then (if 0 <= x5 then (if x5 < (x129003.length : Int) then ((Af.f k ((Aj x128003 x5).f0) ((Aj x128003 x5).f1) ((Aj x128003 x5).f2) ((Aj x128003 x5).f3) ((Aj x129003 x5).f0) ((Aj x129003 x5).f1) ((Aj x129003 x5).f2) ((Aj x129003 x5).f3)).bind fun t131 => (if t131 = true then (Af.l0 k (wrap64 (x5 + 1)) x128000 x128001 x128002 x128003 x129000 x129001 x129002 x129003) else (some BK))) else (none)) else (none)) else (some true)
def Af.f : Nat -> Int -> ByteArray -> ByteArray -> List (B8) -> Int -> ByteArray -> ByteArray -> List (B8) -> Option (Bool)
 | 0, _, _, _, _, _, _, _, _ => none
 | k + 1, a0_0, a0_1, a0_2, l0_3, a1_0, a1_1, a1_2, l1_3 => if a0_0 = a1_0 then (if a0_1.toList = a1_1.toList then (if a0_2.toList = a1_2.toList then (Af.j0 k ((l0_3.length : Int) != (l1_3.length : Int)) a0_0 a0_1 a0_2 l0_3 a1_0 a1_1 a1_2 l1_3) else (Af.j0 k true a0_0 a0_1 a0_2 l0_3 a1_0 a1_1 a1_2 l1_3)) else (Af.j0 k true a0_0 a0_1 a0_2 l0_3 a1_0 a1_1 a1_2 l1_3)) else (Af.j0 k true a0_0 a0_1 a0_2 l0_3 a1_0 a1_1 a1_2 l1_3)
end
def Af.T6 : Bool × List (List Nat × List Nat) := (true, [([], []), ([0], [0]), ([], []), ([1, 2], [1, 2]), ([3], [3]), ([], []), ([5], [5]), ([], []), ([6, 7], [6, 7]), ([8], [8]), ([4, 9], [4, 9]), ([10], [10])])
def Af.B6 : List Nat := [0, 1, 0, 7, 15, 0, 32, 0, 224, 480, 1023, 2047]
theorem Af.tab6 : Cd .any (DP Try.f14 6) = Af.T6 := by kernel_rfl
theorem Af.bits6 : C0 Af.T6.2 Af.B6 = true := by kernel_rfl
theorem Af.calls (k : Nat) : ∀ (a0_0 : Int) (a0_1 : ByteArray) (a0_2 : ByteArray) (A0_3 : Option Addr) (c0_3 : Nat) (l0_3 : List (B8)) (a1_0 : Int) (a1_1 : ByteArray) (a1_2 : ByteArray) (A1_3 : Option Addr) (c1_3 : Nat) (l1_3 : List (B8)) (r : Bool) (w : Pe) (hr0_3 : Kd.C AY w A0_3 l0_3.length l0_3) (hc0_3 : l0_3.length <= c0_3) (hr1_3 : Kd.C AY w A1_3 l1_3.length l1_3) (hc1_3 : l1_3.length <= c1_3) (h : Af.f k a0_0 a0_1 a0_2 l0_3 a1_0 a1_1 a1_2 l1_3 = some r),
  PJ Try.prog 14 #[.agg #[.int .i64 a0_0, .string a0_1, .string a0_2, .slice A0_3 l0_3.length c0_3], .agg #[.int .i64 a1_0, .string a1_1, .string a1_2, .slice A1_3 l1_3.length c1_3]] w fun e w' => e = .returned (.bool r) /\ Below w.heap.size w w' := by
 induction k using Nat.strongRecOn with
 | _ k ih =>
 intro a0_0 a0_1 a0_2 A0_3 c0_3 l0_3 a1_0 a1_1 a1_2 A1_3 c1_3 l1_3 r w hr0_3 hc0_3 hr1_3 hc1_3 h;cases k with
 | zero => exact absurd h (by simp [Af.f])
 | succ k =>
 simp only [Af.f] at h;have HR0_3 := A7.mk hr0_3;have HC0_3 := A7.mk hc0_3;have HR1_3 := A7.mk hr1_3;have HC1_3 := A7.mk hc1_3;have HB := A7.mk (Pn w.heap.size w);have H : (if a0_0 = a1_0 then (if a0_1.toList = a1_1.toList then (if a0_2.toList = a1_2.toList then (Af.j0 k ((l0_3.length : Int) != (l1_3.length : Int)) a0_0 a0_1 a0_2 l0_3 a1_0 a1_1 a1_2 l1_3) else (Af.j0 k true a0_0 a0_1 a0_2 l0_3 a1_0 a1_1 a1_2 l1_3)) else (Af.j0 k true a0_0 a0_1 a0_2 l0_3 a1_0 a1_1 a1_2 l1_3)) else (Af.j0 k true a0_0 a0_1 a0_2 l0_3 a1_0 a1_1 a1_2 l1_3)) = some r := h;have HC3 := A7.mk H;go_enter Try.func14, Try.ntmps14
 go_upto_region 1 with (first | ((with_reducible refine AE (N := 2) rfl ?_); refine Aw ?hg (N := 2) ?hd (cs := #[.int .i64 a0_0, .string a0_1, .string a0_2, .slice A0_3 l0_3.length c0_3]) (t := 24) ?hr ?_; (case hd => rfl); (case hg => rfl); (case hr => go_simp); intro gb127 hg w4 hbox hb; have n0_ := A7.mk (AT Go.Z.h0 hb); have n1_ := A7.mk (hbox); have n2_ := A7.mk ((by rw [hg]; exact (Aq Go.Z.h0) : w.heap.size <= gb127)); have n3_ := A7.mk ((by rw [hg]; exact (Aq Go.Z.h0) : w.heap.size <= gb127)); clear HB; have HB := n0_; have BK127 := n1_; have GW127 := n2_; have GE127 := n3_; clear n0_ n1_ n2_ n3_; clear hb hbox hg) | ((with_reducible refine AE (N := 3) rfl ?_); refine Aw ?hg (N := 3) ?hd (cs := #[.int .i64 a1_0, .string a1_1, .string a1_2, .slice A1_3 l1_3.length c1_3]) (t := 24) ?hr ?_; (case hd => rfl); (case hg => rfl); (case hr => go_simp); intro gb128 hg w5 hbox hb; have n0_ := A7.mk (Bf (g := gb127) (o := .cells #[.int .i64 a0_0, .string a0_1, .string a0_2, .slice A0_3 l0_3.length c0_3] 24 (0, 0)) (Go.Z.k BK127.out) hb); have n1_ := A7.mk (AT (Go.Z.h1 GE127.out) hb); have n2_ := A7.mk (hbox); have n3_ := A7.mk ((by rw [hg]; exact (Aq (Go.Z.h1 GE127.out)) : w.heap.size <= gb128)); have n4_ := A7.mk ((by rw [hg]; exact (Aq (Go.Z.h1 GE127.out)) : w.heap.size <= gb128)); have n5_ := A7.mk ((by rw [hg]; exact Nat.ne_of_lt (BG (g := gb127) (o := .cells #[.int .i64 a0_0, .string a0_1, .string a0_2, .slice A0_3 l0_3.length c0_3] 24 (0, 0)) (Go.Z.k BK127.out)) : gb127 ≠ gb128)); have n6_ := A7.mk ((by rw [hg]; exact Nat.ne_of_gt (BG (g := gb127) (o := .cells #[.int .i64 a0_0, .string a0_1, .string a0_2, .slice A0_3 l0_3.length c0_3] 24 (0, 0)) (Go.Z.k BK127.out)) : gb128 ≠ gb127)); clear BK127; clear HB; have BK127 := n0_; have HB := n1_; have BK128 := n2_; have GW128 := n3_; have GE128 := n4_; have NB127_128 := n5_; have NB128_127 := n6_; clear n0_ n1_ n2_ n3_ n4_ n5_ n6_; clear hb hbox hg))
 go_cut [33] (fun v33 wc => ∃ (kq : Nat) (x33_2 : Bool), v33 = .bool x33_2 /\ A7 (Af.j0 kq x33_2 a0_0 a0_1 a0_2 l0_3 a1_0 a1_1 a1_2 l1_3 = some r) /\ A7 (kq <= k) /\ A7 (wc.heap[gb127]? = some (.cells #[.int .i64 a0_0, .string a0_1, .string a0_2, (.slice A0_3 l0_3.length c0_3)] 24 (0, 0))) /\ A7 (wc.heap[gb128]? = some (.cells #[.int .i64 a1_0, .string a1_1, .string a1_2, (.slice A1_3 l1_3.length c1_3)] 24 (0, 0))) /\ A7 (Below w.heap.size w wc))
 case first =>
  have H := HC3.out;by_cases c6 : a0_0 = a1_0
  ·rw [if_pos c6] at H;by_cases c7 : a0_1.toList = a1_1.toList
   ·rw [if_pos c7] at H;by_cases c8 : a0_2.toList = a1_2.toList
    ·rw [if_pos c8] at H;have H' := A7.mk H;have hcz10_0 : w5.cell? ⟨gb127, 0, none⟩ = some (.int .i64 a0_0) := (Aa BK127.out 0).trans rfl;have hcz10_1 : w5.cell? ⟨gb127, 1, none⟩ = some (.string a0_1) := (Aa BK127.out 1).trans rfl;have hcz10_2 : w5.cell? ⟨gb127, 2, none⟩ = some (.string a0_2) := (Aa BK127.out 2).trans rfl;have hcz10_3 : w5.cell? ⟨gb127, 3, none⟩ = some (.slice A0_3 l0_3.length c0_3) := (Aa BK127.out 3).trans rfl;have hcz11_0 : w5.cell? ⟨gb128, 0, none⟩ = some (.int .i64 a1_0) := (Aa BK128.out 0).trans rfl;have hcz11_1 : w5.cell? ⟨gb128, 1, none⟩ = some (.string a1_1) := (Aa BK128.out 1).trans rfl;have hcz11_2 : w5.cell? ⟨gb128, 2, none⟩ = some (.string a1_2) := (Aa BK128.out 2).trans rfl;have hcz11_3 : w5.cell? ⟨gb128, 3, none⟩ = some (.slice A1_3 l1_3.length c1_3) := (Aa BK128.out 3).trans rfl;go_wp2;go_meet
     case rel => exact ⟨_, (((l0_3.length : Int) != (l1_3.length : Int))), rfl, H', ⟨by omega⟩, ⟨Go.Z.k BK127.out⟩, ⟨Go.Z.k BK128.out⟩, ⟨Go.Z.h2 GE127.out GE128.out⟩⟩
    ·rw [if_neg c8] at H;have c8b0 : (a0_2.toList == a1_2.toList) = BK := beq_eq_false_iff_ne.mpr c8;have c8b1 : (a0_2.toList != a1_2.toList) = true := bne_iff_ne.mpr c8;have H' := A7.mk H;have hcz13_0 : w5.cell? ⟨gb127, 0, none⟩ = some (.int .i64 a0_0) := (Aa BK127.out 0).trans rfl;have hcz13_1 : w5.cell? ⟨gb127, 1, none⟩ = some (.string a0_1) := (Aa BK127.out 1).trans rfl;have hcz13_2 : w5.cell? ⟨gb127, 2, none⟩ = some (.string a0_2) := (Aa BK127.out 2).trans rfl;have hcz13_3 : w5.cell? ⟨gb127, 3, none⟩ = some (.slice A0_3 l0_3.length c0_3) := (Aa BK127.out 3).trans rfl;have hcz14_0 : w5.cell? ⟨gb128, 0, none⟩ = some (.int .i64 a1_0) := (Aa BK128.out 0).trans rfl;have hcz14_1 : w5.cell? ⟨gb128, 1, none⟩ = some (.string a1_1) := (Aa BK128.out 1).trans rfl;have hcz14_2 : w5.cell? ⟨gb128, 2, none⟩ = some (.string a1_2) := (Aa BK128.out 2).trans rfl;have hcz14_3 : w5.cell? ⟨gb128, 3, none⟩ = some (.slice A1_3 l1_3.length c1_3) := (Aa BK128.out 3).trans rfl;go_wp2;go_meet
     case rel => exact ⟨_, (true), rfl, H', ⟨by omega⟩, ⟨Go.Z.k BK127.out⟩, ⟨Go.Z.k BK128.out⟩, ⟨Go.Z.h2 GE127.out GE128.out⟩⟩
   ·rw [if_neg c7] at H;have c7b0 : (a0_1.toList == a1_1.toList) = BK := beq_eq_false_iff_ne.mpr c7;have c7b1 : (a0_1.toList != a1_1.toList) = true := bne_iff_ne.mpr c7;have H' := A7.mk H;have hcz16_0 : w5.cell? ⟨gb127, 0, none⟩ = some (.int .i64 a0_0) := (Aa BK127.out 0).trans rfl;have hcz16_1 : w5.cell? ⟨gb127, 1, none⟩ = some (.string a0_1) := (Aa BK127.out 1).trans rfl;have hcz16_2 : w5.cell? ⟨gb127, 2, none⟩ = some (.string a0_2) := (Aa BK127.out 2).trans rfl;have hcz16_3 : w5.cell? ⟨gb127, 3, none⟩ = some (.slice A0_3 l0_3.length c0_3) := (Aa BK127.out 3).trans rfl;have hcz17_0 : w5.cell? ⟨gb128, 0, none⟩ = some (.int .i64 a1_0) := (Aa BK128.out 0).trans rfl;have hcz17_1 : w5.cell? ⟨gb128, 1, none⟩ = some (.string a1_1) := (Aa BK128.out 1).trans rfl;have hcz17_2 : w5.cell? ⟨gb128, 2, none⟩ = some (.string a1_2) := (Aa BK128.out 2).trans rfl;have hcz17_3 : w5.cell? ⟨gb128, 3, none⟩ = some (.slice A1_3 l1_3.length c1_3) := (Aa BK128.out 3).trans rfl;go_wp2;go_meet
    case rel => exact ⟨_, (true), rfl, H', ⟨by omega⟩, ⟨Go.Z.k BK127.out⟩, ⟨Go.Z.k BK128.out⟩, ⟨Go.Z.h2 GE127.out GE128.out⟩⟩
  ·rw [if_neg c6] at H;have H' := A7.mk H;have hcz19_0 : w5.cell? ⟨gb127, 0, none⟩ = some (.int .i64 a0_0) := (Aa BK127.out 0).trans rfl;have hcz19_1 : w5.cell? ⟨gb127, 1, none⟩ = some (.string a0_1) := (Aa BK127.out 1).trans rfl;have hcz19_2 : w5.cell? ⟨gb127, 2, none⟩ = some (.string a0_2) := (Aa BK127.out 2).trans rfl;have hcz19_3 : w5.cell? ⟨gb127, 3, none⟩ = some (.slice A0_3 l0_3.length c0_3) := (Aa BK127.out 3).trans rfl;have hcz20_0 : w5.cell? ⟨gb128, 0, none⟩ = some (.int .i64 a1_0) := (Aa BK128.out 0).trans rfl;have hcz20_1 : w5.cell? ⟨gb128, 1, none⟩ = some (.string a1_1) := (Aa BK128.out 1).trans rfl;have hcz20_2 : w5.cell? ⟨gb128, 2, none⟩ = some (.string a1_2) := (Aa BK128.out 2).trans rfl;have hcz20_3 : w5.cell? ⟨gb128, 3, none⟩ = some (.slice A1_3 l1_3.length c1_3) := (Aa BK128.out 3).trans rfl;go_wp2;go_meet
   case rel => exact ⟨_, (true), rfl, H', ⟨by omega⟩, ⟨Go.Z.k BK127.out⟩, ⟨Go.Z.k BK128.out⟩, ⟨Go.Z.h2 GE127.out GE128.out⟩⟩
 case rest =>
  obtain ⟨kq, x33_2, rfl, HA, HJ2, BK127, BK128, HB⟩ := hcut;cases kq with
  | zero => exact absurd HA.out (by simp [Af.j0])
  | succ kj2 =>
   have H := HA.out;simp only [Af.j0] at H;by_cases c21 : x33_2 = true
   ·subst c21;have H1 : (some BK) = some r := by rw [if_pos rfl] at H; exact H
    have H := H1;obtain rfl := Px H;go_wp2
    go_ret
    exact ⟨by first | rfl | (simp [AP, AQ] <;> rfl) | (simp [*, AP, AQ] <;> rfl), by repeat (first | (with_reducible first | exact HB.out | apply Ah | apply AH | apply AD | refine AZ ?_ GE127.out | refine AZ ?_ GE128.out) | exact HB.out)⟩
   ·replace c21 := SR.mpr c21;subst c21;have H1 : (Af.l0 kj2 0 a0_0 a0_1 a0_2 l0_3 a1_0 a1_1 a1_2 l1_3) = some r := by rw [if_neg (show ¬ (BK = true) by decide)] at H; exact H
    have H := H1;have H' := A7.mk H;go_wp2
    go_loopg [5] kj2 (fun kq v5 w' => ∃ (x5_2 : Int), v5 = .int .i64 x5_2 /\ A7 (Af.l0 kq x5_2 a0_0 a0_1 a0_2 l0_3 a1_0 a1_1 a1_2 l1_3 = some r) /\ A7 (kq <= kj2) /\ A7 (w'.heap[gb127]? = some (.cells #[.int .i64 a0_0, .string a0_1, .string a0_2, (.slice A0_3 l0_3.length c0_3)] 24 (0, 0))) /\ A7 (w'.heap[gb128]? = some (.cells #[.int .i64 a1_0, .string a1_1, .string a1_2, (.slice A1_3 l1_3.length c1_3)] 24 (0, 0))) /\ A7 (Below w.heap.size w w'))
    case atStart => exact ⟨(0), rfl, H', ⟨Ps _⟩, ⟨Go.Z.k BK127.out⟩, ⟨Go.Z.k BK128.out⟩, ⟨Go.Z.h2 GE127.out GE128.out⟩⟩
    case round =>
     try clear hfz16_0
     try clear hfz16_1
     try clear hfz16_2
     try clear hfz16_3
     try clear hfz17_0
     try clear hfz17_1
     try clear hfz17_2
     try clear hfz17_3
     try clear hfz19_0
     try clear hfz19_1
     try clear hfz19_2
     try clear hfz19_3
     try clear hfz20_0
     try clear hfz20_1
     try clear hfz20_2
     try clear hfz20_3
     try clear p2
     obtain ⟨x5_2, rfl, HA, HK2, BK127, BK128, HB⟩ := hrel;cases gk with
     | zero => exact absurd HA.out (by simp [Af.l0])
     | succ k2 =>
      have H := HA.out;simp only [Af.l0] at H;by_cases c22 : x5_2 < (l0_3.length : Int)
      ·rw [if_pos c22] at H;have c22b0 : decide (x5_2 < (l0_3.length : Int)) = true := decide_eq_true c22;by_cases c23 : 0 <= x5_2
       ·rw [if_pos c23] at H;have c23b0 : decide (0 <= x5_2) = true := decide_eq_true c23;by_cases c24 : x5_2 < (l1_3.length : Int)
        ·rw [if_pos c24] at H;have c24b0 : decide (x5_2 < (l1_3.length : Int)) = true := decide_eq_true c24;replace H := Option.bind_eq_some_iff.mp H;obtain ⟨t131, A250, H⟩ := H;have A25 := A7.mk A250;by_cases c26 : t131 = true
         ·subst c26;have H1 : (Af.l0 k2 (wrap64 (x5_2 + 1)) a0_0 a0_1 a0_2 l0_3 a1_0 a1_1 a1_2 l1_3) = some r := by rw [if_pos rfl] at H; exact H
          have H := H1;have H' := A7.mk H;have hcz28_0 : wr.cell? ⟨gb127, 0, none⟩ = some (.int .i64 a0_0) := (Aa BK127.out 0).trans rfl;have hcz28_1 : wr.cell? ⟨gb127, 1, none⟩ = some (.string a0_1) := (Aa BK127.out 1).trans rfl;have hcz28_2 : wr.cell? ⟨gb127, 2, none⟩ = some (.string a0_2) := (Aa BK127.out 2).trans rfl;have hcz28_3 : wr.cell? ⟨gb127, 3, none⟩ = some (.slice A0_3 l0_3.length c0_3) := (Aa BK127.out 3).trans rfl
          try go_wp2
          have n0_ := A7.mk (Ag BK127.out);have n1_ := A7.mk (Ag BK128.out);have n2_ := A7.mk (AD HB.out);have BK127 := n0_;have BK128 := n1_;have HB := n2_;have p129 : 0 <= (x5_2 : Int) := of_decide_eq_true (by first | (with_reducible assumption) | assumption);have q129 : x5_2 < (l0_3.length : Int) := of_decide_eq_true (by first | (with_reducible assumption) | assumption);obtain ⟨ad129, A129_3, c129_3, e129, hx129_0, hx129_1, hx129_2, hx129_3, hl129_3, hi129_3⟩ := Cw HR0_3.out x5_2 p129 q129;have hw129_3 := hx129_3;have hw129_2 := hx129_2;have hw129_1 := hx129_1;have hw129_0 := hx129_0;cases e129;have HR129_3 := A7.mk hi129_3;have HC129_3 := A7.mk hl129_3;have p130 : 0 <= (x5_2 : Int) := of_decide_eq_true (by first | (with_reducible assumption) | assumption);have q130 : x5_2 < (l1_3.length : Int) := of_decide_eq_true (by first | (with_reducible assumption) | assumption);obtain ⟨ad130, A130_3, c130_3, e130, hx130_0, hx130_1, hx130_2, hx130_3, hl130_3, hi130_3⟩ := Cw HR1_3.out x5_2 p130 q130;have hw130_3 := hx130_3;have hw130_2 := hx130_2;have hw130_1 := hx130_1;have hw130_0 := hx130_0;cases e130;have HR130_3 := A7.mk hi130_3;have HC130_3 := A7.mk hl130_3;refine Cu (n := 12) (S := fun w' => w'.cell? ⟨gb127, 0, none⟩ = some (.int .i64 a0_0) /\ w'.cell? ⟨gb127, 1, none⟩ = some (.string a0_1) /\ w'.cell? ⟨gb127, 2, none⟩ = some (.string a0_2) /\ w'.cell? ⟨gb127, 3, none⟩ = some (.slice (some ad129) l0_3.length c0_3) /\ w'.cell? ⟨gb128, 0, none⟩ = some (.int .i64 a1_0) /\ w'.cell? ⟨gb128, 1, none⟩ = some (.string a1_1) /\ w'.cell? ⟨gb128, 2, none⟩ = some (.string a1_2) /\ w'.cell? ⟨gb128, 3, none⟩ = some (.slice (some ad130) l1_3.length c1_3) /\ w'.cell? (ad129.add ((x5_2).toNat * 4)) = some (.int .i64 ((Aj l0_3 x5_2).f0)) /\ w'.cell? ⟨(ad129.add ((x5_2).toNat * 4)).block, (ad129.add ((x5_2).toNat * 4)).off + 1, none⟩ = some (.string ((Aj l0_3 x5_2).f1)) /\ w'.cell? ⟨(ad129.add ((x5_2).toNat * 4)).block, (ad129.add ((x5_2).toNat * 4)).off + 2, none⟩ = some (.string ((Aj l0_3 x5_2).f2)) /\ w'.cell? ⟨(ad129.add ((x5_2).toNat * 4)).block, (ad129.add ((x5_2).toNat * 4)).off + 3, none⟩ = some (.slice A129_3 ((Aj l0_3 x5_2).f3).length c129_3) /\ w'.cell? (ad130.add ((x5_2).toNat * 4)) = some (.int .i64 ((Aj l1_3 x5_2).f0)) /\ w'.cell? ⟨(ad130.add ((x5_2).toNat * 4)).block, (ad130.add ((x5_2).toNat * 4)).off + 1, none⟩ = some (.string ((Aj l1_3 x5_2).f1)) /\ w'.cell? ⟨(ad130.add ((x5_2).toNat * 4)).block, (ad130.add ((x5_2).toNat * 4)).off + 2, none⟩ = some (.string ((Aj l1_3 x5_2).f2)) /\ w'.cell? ⟨(ad130.add ((x5_2).toNat * 4)).block, (ad130.add ((x5_2).toNat * 4)).off + 3, none⟩ = some (.slice A130_3 ((Aj l1_3 x5_2).f3).length c130_3)) (ds := []) #[BK, BK, BK, BK, BK, BK, BK, BK, BK, BK, BK, BK] (by kernel_rfl) rfl rfl ⟨(Aa BK127.out 0).trans rfl, (Aa BK127.out 1).trans rfl, (Aa BK127.out 2).trans rfl, (Aa BK127.out 3).trans rfl, (Aa BK128.out 0).trans rfl, (Aa BK128.out 1).trans rfl, (Aa BK128.out 2).trans rfl, (Aa BK128.out 3).trans rfl, ((HB.out.cell (Pb w _ hw129_0)).trans hw129_0), ((HB.out.cell (Pb w _ hw129_1)).trans hw129_1), ((HB.out.cell (Pb w _ hw129_2)).trans hw129_2), ((HB.out.cell (Pb w _ hw129_3)).trans hw129_3), ((HB.out.cell (Pb w _ hw130_0)).trans hw130_0), ((HB.out.cell (Pb w _ hw130_1)).trans hw130_1), ((HB.out.cell (Pb w _ hw130_2)).trans hw130_2), ((HB.out.cell (Pb w _ hw130_3)).trans hw130_3)⟩ (fun hHeld => ?_); refine BQ Af.tab6 Af.bits6 (fun HT_ HW_ => ?_);generalize wr.drew = w29 at BK127 BK128 HB HR129_3 HR130_3 hx129_0 hx129_1 hx129_2 hx129_3 hx130_0 hx130_1 hx130_2 hx130_3 hHeld ⊢;refine AM (i := 0) (N := some 41) (v := ?_) (a' := ?_) #[true, BK, BK, BK, BK, BK, BK, BK, BK, BK, BK, BK] rfl rfl (AA HT_.out (by kernel_rfl)) (fun _ _ _ h => h) (PD ⟨by rfl, ?_⟩) ?_ ?_;rotate_left
          ·intro w';go_simp
           with_reducible rfl
          rotate_left
          ·simp only [Ph, GW, Pa, NB, Ar, AB];rfl
          refine AM (i := 2) (N := some 43) (v := ?_) (a' := ?_) #[true, BK, true, BK, BK, BK, BK, BK, BK, BK, BK, BK] rfl rfl (AA HT_.out (by kernel_rfl)) (fun _ _ _ h => h) (PD ⟨by rfl, ?_⟩) ?_ ?_;rotate_left
          ·intro w';go_simp
           with_reducible rfl
          rotate_left
          ·simp only [Ph, GW, Pa, NB, Ar, AB];rfl
          refine AM (i := 5) (N := some 46) (v := ?_) (a' := ?_) #[true, BK, true, BK, BK, true, BK, BK, BK, BK, BK, BK] rfl rfl (AA HT_.out (by kernel_rfl)) (fun _ _ _ h => h) (PD ⟨by rfl, ?_⟩) ?_ ?_;rotate_left
          ·intro w';go_simp
           with_reducible rfl
          rotate_left
          ·simp only [Ph, GW, Pa, NB, Ar, AB];rfl
          refine AM (i := 7) (N := some 48) (v := ?_) (a' := ?_) #[true, BK, true, BK, BK, true, BK, true, BK, BK, BK, BK] rfl rfl (AA HT_.out (by kernel_rfl)) (fun _ _ _ h => h) (PD ⟨by rfl, ?_⟩) ?_ ?_;rotate_left
          ·intro w';go_simp
           with_reducible rfl
          rotate_left
          ·simp only [Ph, GW, Pa, NB, Ar, AB];rfl
          refine take_ (i := 1) (N := some 42) (v := ?_) (a' := ?_) #[true, true, true, BK, BK, true, BK, true, BK, BK, BK, BK] rfl rfl (BC HT_.out HW_.out (by kernel_rfl)) (fun _ _ _ h => h) (PD ⟨by rfl, ?_⟩) hHeld ?_ ?_;rotate_left
          ·rintro w' ⟨s0, s1, s2, s3, s4, s5, s6, s7, s8, s9, s10, s11, s12, s13, s14, s15⟩;go_simp
           with_reducible rfl
          rotate_left
          ·simp only [Ph, GW, Pa, NB, Ar, AB];rfl
          refine AM (i := 3) (N := some 44) (v := ?_) (a' := ?_) #[true, true, true, true, BK, true, BK, true, BK, BK, BK, BK] rfl rfl (AA HT_.out (by kernel_rfl)) (fun _ _ _ h => h) (PD ⟨by rfl, ?_⟩) ?_ ?_;rotate_left
          ·intro w';go_simp
           with_reducible rfl
          rotate_left
          ·simp only [Ph, GW, Pa, NB, Ar, AB];rfl
          refine take_ (i := 4) (N := some 45) (v := ?_) (a' := ?_) #[true, true, true, true, true, true, BK, true, BK, BK, BK, BK] rfl rfl (BC HT_.out HW_.out (by kernel_rfl)) (fun _ _ _ h => h) (PD ⟨by rfl, ?_⟩) hHeld ?_ ?_;rotate_left
          ·rintro w' ⟨s0, s1, s2, s3, s4, s5, s6, s7, s8, s9, s10, s11, s12, s13, s14, s15⟩;go_simp
           with_reducible rfl
          rotate_left
          ·simp only [Ph, GW, Pa, NB, Ar, AB];rfl
          refine take_ (i := 6) (N := some 47) (v := ?_) (a' := ?_) #[true, true, true, true, true, true, true, true, BK, BK, BK, BK] rfl rfl (BC HT_.out HW_.out (by kernel_rfl)) (fun _ _ _ h => h) (PD ⟨by rfl, ?_⟩) hHeld ?_ ?_;rotate_left
          ·rintro w' ⟨s0, s1, s2, s3, s4, s5, s6, s7, s8, s9, s10, s11, s12, s13, s14, s15⟩;go_simp
           with_reducible rfl
          rotate_left
          ·simp only [Ph, GW, Pa, NB, Ar, AB];rfl
          refine AM (i := 8) (N := some 49) (v := ?_) (a' := ?_) #[true, true, true, true, true, true, true, true, true, BK, BK, BK] rfl rfl (AA HT_.out (by kernel_rfl)) (fun _ _ _ h => h) (PD ⟨by rfl, ?_⟩) ?_ ?_;rotate_left
          ·intro w';go_simp
           with_reducible rfl
          rotate_left
          ·simp only [Ph, GW, Pa, NB, Ar, AB];rfl
          refine take_ (i := 9) (N := some 50) (v := ?_) (a' := ?_) #[true, true, true, true, true, true, true, true, true, true, BK, BK] rfl rfl (BC HT_.out HW_.out (by kernel_rfl)) (fun _ _ _ h => h) (PD ⟨by rfl, ?_⟩) hHeld ?_ ?_;rotate_left
          ·rintro w' ⟨s0, s1, s2, s3, s4, s5, s6, s7, s8, s9, s10, s11, s12, s13, s14, s15⟩;go_simp
           with_reducible rfl
          rotate_left
          ·simp only [Ph, GW, Pa, NB, Ar, AB];rfl
          refine DC (i := 10) (N := some 51) #[true, true, true, true, true, true, true, true, true, true, true, BK] rfl rfl (C7 HT_.out (by kernel_rfl)) (by decide) (fun K hK => ?_);refine Du Try.func14 (by kernel_rfl) rfl #[.agg #[.int .i64 ((Aj l0_3 x5_2).f0), .string ((Aj l0_3 x5_2).f1), .string ((Aj l0_3 x5_2).f2), .slice A129_3 ((Aj l0_3 x5_2).f3).length c129_3], .agg #[.int .i64 ((Aj l1_3 x5_2).f0), .string ((Aj l1_3 x5_2).f1), .string ((Aj l1_3 x5_2).f2), .slice A130_3 ((Aj l1_3 x5_2).f3).length c130_3]] (by rfl) rfl rfl (by (try simp only [PN, Py, PZ]); first | done | rfl | (simp only [PG, Pp]; rfl)) ?_
          with_reducible refine (ih k2 (by have := HJ2.out; have := HK2.out; omega) ((Aj l0_3 x5_2).f0) ((Aj l0_3 x5_2).f1) ((Aj l0_3 x5_2).f2) _ _ ((Aj l0_3 x5_2).f3) ((Aj l1_3 x5_2).f0) ((Aj l1_3 x5_2).f1) ((Aj l1_3 x5_2).f2) _ _ ((Aj l1_3 x5_2).f3) true _ ?side1 ?side2 ?side3 ?side4 A25.out).mono ?_
          (case side1 => repeat (first | exact (Kd.C_below HR129_3.out HB.out) | (with_reducible refine Kd.C_alloc ?_ _) | (with_reducible refine Kd.C_drewN ?_ _) | (with_reducible refine Kd.C_drew ?_)))
          (case side2 => exact HC129_3.out)
          (case side3 => repeat (first | exact (Kd.C_below HR130_3.out HB.out) | (with_reducible refine Kd.C_alloc ?_ _) | (with_reducible refine Kd.C_drewN ?_ _) | (with_reducible refine Kd.C_drew ?_)))
          (case side4 => exact HC130_3.out)
          rintro e w30 ⟨rfl, hb⟩;refine ⟨_, rfl, ?_⟩;have n0_ := A7.mk (Bf (g := gb127) (o := .cells #[.int .i64 a0_0, .string a0_1, .string a0_2, .slice (some ad129) l0_3.length c0_3] 24 (0, 0)) (Go.Z.k BK127.out) hb);have n1_ := A7.mk (Bf (g := gb128) (o := .cells #[.int .i64 a1_0, .string a1_1, .string a1_2, .slice (some ad130) l1_3.length c1_3] 24 (0, 0)) (Go.Z.k BK128.out) hb);have n2_ := A7.mk (AT (Go.Z.h2 GE127.out GE128.out) hb);have BK127 := n0_;have BK128 := n1_;have HB := n2_;refine hK.out _ _ ⟨(Aa BK127.out 0).trans rfl, (Aa BK127.out 1).trans rfl, (Aa BK127.out 2).trans rfl, (Aa BK127.out 3).trans rfl, (Aa BK128.out 0).trans rfl, (Aa BK128.out 1).trans rfl, (Aa BK128.out 2).trans rfl, (Aa BK128.out 3).trans rfl, ((HB.out.cell (Pb w _ hw129_0)).trans hw129_0), ((HB.out.cell (Pb w _ hw129_1)).trans hw129_1), ((HB.out.cell (Pb w _ hw129_2)).trans hw129_2), ((HB.out.cell (Pb w _ hw129_3)).trans hw129_3), ((HB.out.cell (Pb w _ hw130_0)).trans hw130_0), ((HB.out.cell (Pb w _ hw130_1)).trans hw130_1), ((HB.out.cell (Pb w _ hw130_2)).trans hw130_2), ((HB.out.cell (Pb w _ hw130_3)).trans hw130_3)⟩ (fun hHeld => ?_);refine CF (a' := ?_) ?_ ?_;rotate_left
          ·show Ph _ (some 51) _ = _
           rfl
          refine AM (i := 11) (N := some 52) (v := ?_) (a' := ?_) #[true, true, true, true, true, true, true, true, true, true, true, true] rfl rfl (AA HT_.out (by kernel_rfl)) (fun _ _ _ h => h) (PD ⟨by rfl, ?_⟩) ?_ ?_;rotate_left
          ·intro w';go_simp
           with_reducible rfl
          rotate_left
          ·simp only [Ph, GW, Pa, NB, Ar, AB];rfl
          refine Fi (Dl HT_.out (by kernel_rfl)) ?_
          try go_wp2
          go_roundg k2
          case measure => have := HJ2.out; have := HK2.out; omega
          case rel => exact ⟨(wrap64 (x5_2 + 1)), rfl, H', ⟨by have := HJ2.out; have := HK2.out; omega⟩, ⟨Go.Z.k BK127.out⟩, ⟨Go.Z.k BK128.out⟩, ⟨Go.Z.h2 GE127.out GE128.out⟩⟩
         ·replace c26 := SR.mpr c26;subst c26;have H1 : (some BK) = some r := by rw [if_neg (show ¬ (BK = true) by decide)] at H; exact H
          have H := H1;obtain rfl := Px H;have hcz32_0 : wr.cell? ⟨gb127, 0, none⟩ = some (.int .i64 a0_0) := (Aa BK127.out 0).trans rfl;have hcz32_1 : wr.cell? ⟨gb127, 1, none⟩ = some (.string a0_1) := (Aa BK127.out 1).trans rfl;have hcz32_2 : wr.cell? ⟨gb127, 2, none⟩ = some (.string a0_2) := (Aa BK127.out 2).trans rfl;have hcz32_3 : wr.cell? ⟨gb127, 3, none⟩ = some (.slice A0_3 l0_3.length c0_3) := (Aa BK127.out 3).trans rfl
          try go_wp2
          have n0_ := A7.mk (Ag BK127.out);have n1_ := A7.mk (Ag BK128.out);have n2_ := A7.mk (AD HB.out);have BK127 := n0_;have BK128 := n1_;have HB := n2_;have p129 : 0 <= (x5_2 : Int) := of_decide_eq_true (by first | (with_reducible assumption) | assumption);have q129 : x5_2 < (l0_3.length : Int) := of_decide_eq_true (by first | (with_reducible assumption) | assumption);obtain ⟨ad129, A129_3, c129_3, e129, hx129_0, hx129_1, hx129_2, hx129_3, hl129_3, hi129_3⟩ := Cw HR0_3.out x5_2 p129 q129;have hw129_3 := hx129_3;have hw129_2 := hx129_2;have hw129_1 := hx129_1;have hw129_0 := hx129_0;cases e129;have HR129_3 := A7.mk hi129_3;have HC129_3 := A7.mk hl129_3;have p130 : 0 <= (x5_2 : Int) := of_decide_eq_true (by first | (with_reducible assumption) | assumption);have q130 : x5_2 < (l1_3.length : Int) := of_decide_eq_true (by first | (with_reducible assumption) | assumption);obtain ⟨ad130, A130_3, c130_3, e130, hx130_0, hx130_1, hx130_2, hx130_3, hl130_3, hi130_3⟩ := Cw HR1_3.out x5_2 p130 q130;have hw130_3 := hx130_3;have hw130_2 := hx130_2;have hw130_1 := hx130_1;have hw130_0 := hx130_0;cases e130;have HR130_3 := A7.mk hi130_3;have HC130_3 := A7.mk hl130_3;refine Cu (n := 12) (S := fun w' => w'.cell? ⟨gb127, 0, none⟩ = some (.int .i64 a0_0) /\ w'.cell? ⟨gb127, 1, none⟩ = some (.string a0_1) /\ w'.cell? ⟨gb127, 2, none⟩ = some (.string a0_2) /\ w'.cell? ⟨gb127, 3, none⟩ = some (.slice (some ad129) l0_3.length c0_3) /\ w'.cell? ⟨gb128, 0, none⟩ = some (.int .i64 a1_0) /\ w'.cell? ⟨gb128, 1, none⟩ = some (.string a1_1) /\ w'.cell? ⟨gb128, 2, none⟩ = some (.string a1_2) /\ w'.cell? ⟨gb128, 3, none⟩ = some (.slice (some ad130) l1_3.length c1_3) /\ w'.cell? (ad129.add ((x5_2).toNat * 4)) = some (.int .i64 ((Aj l0_3 x5_2).f0)) /\ w'.cell? ⟨(ad129.add ((x5_2).toNat * 4)).block, (ad129.add ((x5_2).toNat * 4)).off + 1, none⟩ = some (.string ((Aj l0_3 x5_2).f1)) /\ w'.cell? ⟨(ad129.add ((x5_2).toNat * 4)).block, (ad129.add ((x5_2).toNat * 4)).off + 2, none⟩ = some (.string ((Aj l0_3 x5_2).f2)) /\ w'.cell? ⟨(ad129.add ((x5_2).toNat * 4)).block, (ad129.add ((x5_2).toNat * 4)).off + 3, none⟩ = some (.slice A129_3 ((Aj l0_3 x5_2).f3).length c129_3) /\ w'.cell? (ad130.add ((x5_2).toNat * 4)) = some (.int .i64 ((Aj l1_3 x5_2).f0)) /\ w'.cell? ⟨(ad130.add ((x5_2).toNat * 4)).block, (ad130.add ((x5_2).toNat * 4)).off + 1, none⟩ = some (.string ((Aj l1_3 x5_2).f1)) /\ w'.cell? ⟨(ad130.add ((x5_2).toNat * 4)).block, (ad130.add ((x5_2).toNat * 4)).off + 2, none⟩ = some (.string ((Aj l1_3 x5_2).f2)) /\ w'.cell? ⟨(ad130.add ((x5_2).toNat * 4)).block, (ad130.add ((x5_2).toNat * 4)).off + 3, none⟩ = some (.slice A130_3 ((Aj l1_3 x5_2).f3).length c130_3)) (ds := []) #[BK, BK, BK, BK, BK, BK, BK, BK, BK, BK, BK, BK] (by kernel_rfl) rfl rfl ⟨(Aa BK127.out 0).trans rfl, (Aa BK127.out 1).trans rfl, (Aa BK127.out 2).trans rfl, (Aa BK127.out 3).trans rfl, (Aa BK128.out 0).trans rfl, (Aa BK128.out 1).trans rfl, (Aa BK128.out 2).trans rfl, (Aa BK128.out 3).trans rfl, ((HB.out.cell (Pb w _ hw129_0)).trans hw129_0), ((HB.out.cell (Pb w _ hw129_1)).trans hw129_1), ((HB.out.cell (Pb w _ hw129_2)).trans hw129_2), ((HB.out.cell (Pb w _ hw129_3)).trans hw129_3), ((HB.out.cell (Pb w _ hw130_0)).trans hw130_0), ((HB.out.cell (Pb w _ hw130_1)).trans hw130_1), ((HB.out.cell (Pb w _ hw130_2)).trans hw130_2), ((HB.out.cell (Pb w _ hw130_3)).trans hw130_3)⟩ (fun hHeld => ?_); refine BQ Af.tab6 Af.bits6 (fun HT_ HW_ => ?_);generalize wr.drew = w33 at BK127 BK128 HB HR129_3 HR130_3 hx129_0 hx129_1 hx129_2 hx129_3 hx130_0 hx130_1 hx130_2 hx130_3 hHeld ⊢;refine AM (i := 0) (N := some 41) (v := ?_) (a' := ?_) #[true, BK, BK, BK, BK, BK, BK, BK, BK, BK, BK, BK] rfl rfl (AA HT_.out (by kernel_rfl)) (fun _ _ _ h => h) (PD ⟨by rfl, ?_⟩) ?_ ?_;rotate_left
          ·intro w';go_simp
           with_reducible rfl
          rotate_left
          ·simp only [Ph, GW, Pa, NB, Ar, AB];rfl
          refine AM (i := 2) (N := some 43) (v := ?_) (a' := ?_) #[true, BK, true, BK, BK, BK, BK, BK, BK, BK, BK, BK] rfl rfl (AA HT_.out (by kernel_rfl)) (fun _ _ _ h => h) (PD ⟨by rfl, ?_⟩) ?_ ?_;rotate_left
          ·intro w';go_simp
           with_reducible rfl
          rotate_left
          ·simp only [Ph, GW, Pa, NB, Ar, AB];rfl
          refine AM (i := 5) (N := some 46) (v := ?_) (a' := ?_) #[true, BK, true, BK, BK, true, BK, BK, BK, BK, BK, BK] rfl rfl (AA HT_.out (by kernel_rfl)) (fun _ _ _ h => h) (PD ⟨by rfl, ?_⟩) ?_ ?_;rotate_left
          ·intro w';go_simp
           with_reducible rfl
          rotate_left
          ·simp only [Ph, GW, Pa, NB, Ar, AB];rfl
          refine AM (i := 7) (N := some 48) (v := ?_) (a' := ?_) #[true, BK, true, BK, BK, true, BK, true, BK, BK, BK, BK] rfl rfl (AA HT_.out (by kernel_rfl)) (fun _ _ _ h => h) (PD ⟨by rfl, ?_⟩) ?_ ?_;rotate_left
          ·intro w';go_simp
           with_reducible rfl
          rotate_left
          ·simp only [Ph, GW, Pa, NB, Ar, AB];rfl
          refine take_ (i := 1) (N := some 42) (v := ?_) (a' := ?_) #[true, true, true, BK, BK, true, BK, true, BK, BK, BK, BK] rfl rfl (BC HT_.out HW_.out (by kernel_rfl)) (fun _ _ _ h => h) (PD ⟨by rfl, ?_⟩) hHeld ?_ ?_;rotate_left
          ·rintro w' ⟨s0, s1, s2, s3, s4, s5, s6, s7, s8, s9, s10, s11, s12, s13, s14, s15⟩;go_simp
           with_reducible rfl
          rotate_left
          ·simp only [Ph, GW, Pa, NB, Ar, AB];rfl
          refine AM (i := 3) (N := some 44) (v := ?_) (a' := ?_) #[true, true, true, true, BK, true, BK, true, BK, BK, BK, BK] rfl rfl (AA HT_.out (by kernel_rfl)) (fun _ _ _ h => h) (PD ⟨by rfl, ?_⟩) ?_ ?_;rotate_left
          ·intro w';go_simp
           with_reducible rfl
          rotate_left
          ·simp only [Ph, GW, Pa, NB, Ar, AB];rfl
          refine take_ (i := 4) (N := some 45) (v := ?_) (a' := ?_) #[true, true, true, true, true, true, BK, true, BK, BK, BK, BK] rfl rfl (BC HT_.out HW_.out (by kernel_rfl)) (fun _ _ _ h => h) (PD ⟨by rfl, ?_⟩) hHeld ?_ ?_;rotate_left
          ·rintro w' ⟨s0, s1, s2, s3, s4, s5, s6, s7, s8, s9, s10, s11, s12, s13, s14, s15⟩;go_simp
           with_reducible rfl
          rotate_left
          ·simp only [Ph, GW, Pa, NB, Ar, AB];rfl
          refine take_ (i := 6) (N := some 47) (v := ?_) (a' := ?_) #[true, true, true, true, true, true, true, true, BK, BK, BK, BK] rfl rfl (BC HT_.out HW_.out (by kernel_rfl)) (fun _ _ _ h => h) (PD ⟨by rfl, ?_⟩) hHeld ?_ ?_;rotate_left
          ·rintro w' ⟨s0, s1, s2, s3, s4, s5, s6, s7, s8, s9, s10, s11, s12, s13, s14, s15⟩;go_simp
           with_reducible rfl
          rotate_left
          ·simp only [Ph, GW, Pa, NB, Ar, AB];rfl
          refine AM (i := 8) (N := some 49) (v := ?_) (a' := ?_) #[true, true, true, true, true, true, true, true, true, BK, BK, BK] rfl rfl (AA HT_.out (by kernel_rfl)) (fun _ _ _ h => h) (PD ⟨by rfl, ?_⟩) ?_ ?_;rotate_left
          ·intro w';go_simp
           with_reducible rfl
          rotate_left
          ·simp only [Ph, GW, Pa, NB, Ar, AB];rfl
          refine take_ (i := 9) (N := some 50) (v := ?_) (a' := ?_) #[true, true, true, true, true, true, true, true, true, true, BK, BK] rfl rfl (BC HT_.out HW_.out (by kernel_rfl)) (fun _ _ _ h => h) (PD ⟨by rfl, ?_⟩) hHeld ?_ ?_;rotate_left
          ·rintro w' ⟨s0, s1, s2, s3, s4, s5, s6, s7, s8, s9, s10, s11, s12, s13, s14, s15⟩;go_simp
           with_reducible rfl
          rotate_left
          ·simp only [Ph, GW, Pa, NB, Ar, AB];rfl
          refine DC (i := 10) (N := some 51) #[true, true, true, true, true, true, true, true, true, true, true, BK] rfl rfl (C7 HT_.out (by kernel_rfl)) (by decide) (fun K hK => ?_);refine Du Try.func14 (by kernel_rfl) rfl #[.agg #[.int .i64 ((Aj l0_3 x5_2).f0), .string ((Aj l0_3 x5_2).f1), .string ((Aj l0_3 x5_2).f2), .slice A129_3 ((Aj l0_3 x5_2).f3).length c129_3], .agg #[.int .i64 ((Aj l1_3 x5_2).f0), .string ((Aj l1_3 x5_2).f1), .string ((Aj l1_3 x5_2).f2), .slice A130_3 ((Aj l1_3 x5_2).f3).length c130_3]] (by rfl) rfl rfl (by (try simp only [PN, Py, PZ]); first | done | rfl | (simp only [PG, Pp]; rfl)) ?_
          with_reducible refine (ih k2 (by have := HJ2.out; have := HK2.out; omega) ((Aj l0_3 x5_2).f0) ((Aj l0_3 x5_2).f1) ((Aj l0_3 x5_2).f2) _ _ ((Aj l0_3 x5_2).f3) ((Aj l1_3 x5_2).f0) ((Aj l1_3 x5_2).f1) ((Aj l1_3 x5_2).f2) _ _ ((Aj l1_3 x5_2).f3) BK _ ?side1 ?side2 ?side3 ?side4 A25.out).mono ?_
          (case side1 => repeat (first | exact (Kd.C_below HR129_3.out HB.out) | (with_reducible refine Kd.C_alloc ?_ _) | (with_reducible refine Kd.C_drewN ?_ _) | (with_reducible refine Kd.C_drew ?_)))
          (case side2 => exact HC129_3.out)
          (case side3 => repeat (first | exact (Kd.C_below HR130_3.out HB.out) | (with_reducible refine Kd.C_alloc ?_ _) | (with_reducible refine Kd.C_drewN ?_ _) | (with_reducible refine Kd.C_drew ?_)))
          (case side4 => exact HC130_3.out)
          rintro e w34 ⟨rfl, hb⟩;refine ⟨_, rfl, ?_⟩;have n0_ := A7.mk (Bf (g := gb127) (o := .cells #[.int .i64 a0_0, .string a0_1, .string a0_2, .slice (some ad129) l0_3.length c0_3] 24 (0, 0)) (Go.Z.k BK127.out) hb);have n1_ := A7.mk (Bf (g := gb128) (o := .cells #[.int .i64 a1_0, .string a1_1, .string a1_2, .slice (some ad130) l1_3.length c1_3] 24 (0, 0)) (Go.Z.k BK128.out) hb);have n2_ := A7.mk (AT (Go.Z.h2 GE127.out GE128.out) hb);have BK127 := n0_;have BK128 := n1_;have HB := n2_;refine hK.out _ _ ⟨(Aa BK127.out 0).trans rfl, (Aa BK127.out 1).trans rfl, (Aa BK127.out 2).trans rfl, (Aa BK127.out 3).trans rfl, (Aa BK128.out 0).trans rfl, (Aa BK128.out 1).trans rfl, (Aa BK128.out 2).trans rfl, (Aa BK128.out 3).trans rfl, ((HB.out.cell (Pb w _ hw129_0)).trans hw129_0), ((HB.out.cell (Pb w _ hw129_1)).trans hw129_1), ((HB.out.cell (Pb w _ hw129_2)).trans hw129_2), ((HB.out.cell (Pb w _ hw129_3)).trans hw129_3), ((HB.out.cell (Pb w _ hw130_0)).trans hw130_0), ((HB.out.cell (Pb w _ hw130_1)).trans hw130_1), ((HB.out.cell (Pb w _ hw130_2)).trans hw130_2), ((HB.out.cell (Pb w _ hw130_3)).trans hw130_3)⟩ (fun hHeld => ?_);refine CF (a' := ?_) ?_ ?_;rotate_left
          ·show Ph _ (some 51) _ = _
           rfl
          refine AM (i := 11) (N := some 52) (v := ?_) (a' := ?_) #[true, true, true, true, true, true, true, true, true, true, true, true] rfl rfl (AA HT_.out (by kernel_rfl)) (fun _ _ _ h => h) (PD ⟨by rfl, ?_⟩) ?_ ?_;rotate_left
          ·intro w';go_simp
           with_reducible rfl
          rotate_left
          ·simp only [Ph, GW, Pa, NB, Ar, AB];rfl
          refine Fi (Dl HT_.out (by kernel_rfl)) ?_
          try go_wp2
          go_ret
          exact ⟨by first | rfl | (simp [AP, AQ] <;> rfl) | (simp [*, AP, AQ] <;> rfl), by repeat (first | (with_reducible first | exact HB.out | apply Ah | apply AH | apply AD | refine AZ ?_ GE127.out | refine AZ ?_ GE128.out) | exact HB.out)⟩
        ·rw [if_neg c24] at H;exact absurd H (by simp)
       ·rw [if_neg c23] at H;exact absurd H (by simp)
      ·rw [if_neg c22] at H;have c22b0 : decide (x5_2 < (l0_3.length : Int)) = BK := decide_eq_false c22;obtain rfl := Px H;have hcz36_0 : wr.cell? ⟨gb127, 0, none⟩ = some (.int .i64 a0_0) := (Aa BK127.out 0).trans rfl;have hcz36_1 : wr.cell? ⟨gb127, 1, none⟩ = some (.string a0_1) := (Aa BK127.out 1).trans rfl;have hcz36_2 : wr.cell? ⟨gb127, 2, none⟩ = some (.string a0_2) := (Aa BK127.out 2).trans rfl;have hcz36_3 : wr.cell? ⟨gb127, 3, none⟩ = some (.slice A0_3 l0_3.length c0_3) := (Aa BK127.out 3).trans rfl;go_wp2
       go_ret
       exact ⟨by first | rfl | (simp [AP, AQ] <;> rfl) | (simp [*, AP, AQ] <;> rfl), by repeat (first | (with_reducible first | exact HB.out | apply Ah | apply AH | apply AD | refine AZ ?_ GE127.out | refine AZ ?_ GE128.out) | exact HB.out)⟩
-- NOT PRINTED: function 26 (match_Right)
-- NOT PRINTED: function 30 (script_rising)
-- NOT PRINTED: function 15 (script_Of)
def Di.f (a0 : ByteArray) : Option (Int × ByteArray × ByteArray × (List (B8))) := some (9, a0, (⟨#[]⟩ : ByteArray), ([] : List (B8)))
theorem Di.calls (a0 : ByteArray) (r1 : Int) (r2 : ByteArray) (r3 : ByteArray) (r4 : List (B8)) (w : Pe) (h : Di.f a0 = some (r1, r2, r3, r4)) :
  PJ Try.prog 19 #[.string a0] w fun e w' => ∃ v3_ : Pd, e = .returned (.agg #[.int .i64 r1, .string r2, .string r3, v3_]) /\ Kd.R AY 24 w' w.heap.size (fun _ => True) v3_ r4 /\ Below w.heap.size w w' := by
 have hu24 := Try.underlying24;have HB := A7.mk (Pn w.heap.size w);have H : (some (9, a0, (⟨#[]⟩ : ByteArray), ([] : List (B8)))) = some (r1, r2, r3, r4) := h;clear h;simp only [QA, Prod.mk.injEq] at H;obtain ⟨rfl, rfl, rfl, rfl⟩ := H;go_enter Try.func19, Try.ntmps19
 go_wp2_with (first | ((with_reducible refine AE (N := 2) rfl ?_); refine Aw ?hg (N := 2) ?hd (cs := #[.int .i64 0, .string (⟨#[]⟩ : ByteArray), .string (⟨#[]⟩ : ByteArray), .slice none 0 0]) (t := 24) ?hr ?_; (case hd => rfl); (case hg => rfl); (case hr => first | (go_simp; done) | (go_simp; rfl)); intro gb132 hg w2 hbox hb; have n0_ := A7.mk (AT Go.Z.h0 hb); have n1_ := A7.mk (hbox); have n2_ := A7.mk ((by rw [hg]; exact (Aq Go.Z.h0) : w.heap.size <= gb132)); have n3_ := A7.mk ((by rw [hg]; exact (Aq Go.Z.h0) : w.heap.size <= gb132)); clear HB; have HB := n0_; have BK132 := n1_; have GW132 := n2_; have GE132 := n3_; clear n0_ n1_ n2_ n3_; clear hb hbox hg; have hcz3_0 : w2.cell? ⟨gb132, 0, none⟩ = some (.int .i64 0) := (Aa BK132.out 0).trans rfl; have hcz3_1 : w2.cell? ⟨gb132, 1, none⟩ = some (.string (⟨#[]⟩ : ByteArray)) := (Aa BK132.out 1).trans rfl; have hcz3_2 : w2.cell? ⟨gb132, 2, none⟩ = some (.string (⟨#[]⟩ : ByteArray)) := (Aa BK132.out 2).trans rfl; have hcz3_3 : w2.cell? ⟨gb132, 3, none⟩ = some (.slice none 0 0) := (Aa BK132.out 3).trans rfl; have hfz3_0 := Ad BK132.out 0; have hfz3_1 := Ad BK132.out 1; have hfz3_2 := Ad BK132.out 2; have hfz3_3 := Ad BK132.out 3))
 refine bodyPost_ret (results_cell_row rfl _ _ gb132 24 #[.int .i64 9, .string a0, .string (⟨#[]⟩ : ByteArray), .slice none 0 0] (0, 0) _ rfl (by (with_reducible repeat (first | refine Ae ?_ _ | refine Ag ?_ | refine Ac ?_ _)); refine AS (cs := #[.int .i64 9, .string a0, .string (⟨#[]⟩ : ByteArray), .slice none 0 0]) ?_ 3 _ rfl; (with_reducible repeat (first | refine Ae ?_ _ | refine Ag ?_ | refine Ac ?_ _)); refine AS (cs := #[.int .i64 9, .string a0, .string (⟨#[]⟩ : ByteArray), .slice none 0 0]) ?_ 2 _ rfl; (with_reducible repeat (first | refine Ae ?_ _ | refine Ag ?_ | refine Ac ?_ _)); refine AS (cs := #[.int .i64 9, .string (⟨#[]⟩ : ByteArray), .string (⟨#[]⟩ : ByteArray), .slice none 0 0]) ?_ 1 _ rfl; (with_reducible repeat (first | refine Ae ?_ _ | refine Ag ?_ | refine Ac ?_ _)); refine AS (cs := #[.int .i64 0, .string (⟨#[]⟩ : ByteArray), .string (⟨#[]⟩ : ByteArray), .slice none 0 0]) ?_ 0 _ rfl; (with_reducible repeat (first | refine Ae ?_ _ | refine Ag ?_ | refine Ac ?_ _)); exact BK132.out) Try.underlying24 rfl (by kernel_rfl)) rfl ?_;exact ⟨_, by first | rfl | (simp [AP, AQ] <;> rfl) | (simp [*, AP, AQ] <;> rfl), by first | exact Kd.R_nil _ _ _ _ _ | exact Kd.N_nil _ _ _ _ _ | exact Kd.V_nil _ _ _ _ _ | exact Kd.Q_nil _ _ _ _ _ | exact Kd.S_nil _ _ _ _ _, by repeat (first | (with_reducible first | exact HB.out | apply Ah | apply AH | apply AD | refine AZ ?_ GE132.out) | exact HB.out)⟩
-- NOT PRINTED: function 7 (scarflaw15_known)
end Go.Proofs.Q
namespace Go.Proofs.Q
open Go.RowKit Go.Proofs.V.Words Go.Proofs.V.Last Go.Proofs.V.More
theorem ED (a : ByteArray) : ∀ (n i : Nat) (r : List UInt8), a.size - i = n -> QF a i r = r.reverse ++ a.data.toList.drop i
 | 0, i, r, h => by
  unfold QF;rw [if_neg (by omega), List.drop_eq_nil_of_le (by rw [RE]; show a.size <= i; omega)];simp
 | n + 1, i, r, h => by
  unfold QF;rw [if_pos (by omega), ED a n (i + 1) _ (by omega)];have hl : i < a.data.toList.length := by rw [RE]; show i < a.size; omega
  rw [List.drop_eq_getElem_cons hl];have : a.get! i = a.data.toList[i] := by
   show a.data[i]! = _
   simp at hl;simp [getElem!_pos, hl]
  rw [this];simp
theorem EE (a : ByteArray) : a.toList = a.data.toList := by
 unfold ByteArray.toList;rw [ED a _ 0 [] rfl];simp
theorem Jj {a b : ByteArray} (h : a.data.toList = b.data.toList) : a = b := by
 obtain ⟨⟨a⟩⟩ := a; obtain ⟨⟨b⟩⟩ := b;simp only at h;rw [h]
theorem DN {a b : ByteArray} : a.toList = b.toList ↔ a = b := ⟨fun h => Jj (by rw [EE, EE] at h; exact h), fun h => by rw [h]⟩
mutual
theorem IA : ∀ (x y : B8), BT x <= 1000000 -> ∃ b, Ev (fun k => Af.f k x.f0 x.f1 x.f2 x.f3 y.f0 y.f1 y.f2 y.f3) b /\ (b = true ↔ x = y)
 | ⟨a, b, c, l⟩, y, hn => by
  obtain ⟨a', b', c', m⟩ := y;simp only [BT] at hn;have hj : ∀ q : Bool, q = true -> Ev (fun k => Af.j0 k q a b c l a' b' c' m) BK := fun q hq => by
   subst hq;exact Ev.step (Ev.of fun k => by rw [Af.j0, if_pos rfl])
  by_cases h0 : a = a'
  ·by_cases h1 : b = b'
   ·by_cases h2 : c = c'
    ·subst h0 h1 h2;by_cases h3 : l.length = m.length
     ·obtain ⟨q, hq, hm⟩ := Jk l m [] [] a b c a b c h3 rfl (by simp; omega);simp only [Pu, Qu] at hq;refine ⟨q, Ev.step (Ev.congr (Ev.step (g := fun k => Af.j0 k BK a b c l a b c m) (Ev.congr hq fun k => ?_)) fun k => ?_), by rw [hm]; simp⟩
      ·show Af.j0 (k + 1) BK a b c l a b c m = _
       rw [Af.j0, if_neg (by simp)]; rfl
      ·show Af.f (k + 1) _ _ _ _ _ _ _ _ = _
       rw [Af.f, if_pos rfl, if_pos rfl, if_pos rfl, h3];simp
     ·refine ⟨BK, Ev.step (Ev.congr (hj true rfl) fun k => ?_), by simp; intro h; exact h3 (by rw [h])⟩
      show Af.f (k + 1) _ _ _ _ _ _ _ _ = _
      rw [Af.f, if_pos rfl, if_pos rfl, if_pos rfl]
      congr 1
      simp; omega
    ·refine ⟨BK, Ev.step (Ev.congr (hj true rfl) fun k => ?_), by simp [h2]⟩
     show Af.f (k + 1) _ _ _ _ _ _ _ _ = _
     rw [Af.f, if_pos h0, if_pos (DN.2 h1), if_neg (fun h => h2 (DN.1 h))]
   ·refine ⟨BK, Ev.step (Ev.congr (hj true rfl) fun k => ?_), by simp [h1]⟩
    show Af.f (k + 1) _ _ _ _ _ _ _ _ = _
    rw [Af.f, if_pos h0, if_neg (fun h => h1 (DN.1 h))]
  ·refine ⟨BK, Ev.step (Ev.congr (hj true rfl) fun k => ?_), by simp [h0]⟩
   show Af.f (k + 1) _ _ _ _ _ _ _ _ = _
   rw [Af.f, if_neg h0]
theorem Jk : ∀ (r s dx dy : List B8) (a : Int) (b c : ByteArray) (a' : Int) (b' c' : ByteArray), r.length = s.length -> dx.length = dy.length -> dx.length + BE r <= 1000000 ->
  ∃ q, Ev (fun k => Af.l0 k (dx.length : Int) a b c (dx ++ r) a' b' c' (dy ++ s)) q /\ (q = true ↔ r = s)
 | [], s, dx, dy, a, b, c, a', b', c', hl, hd, hn => by
  obtain rfl : s = [] := List.length_eq_zero_iff.1 hl.symm;exact ⟨true, Ev.step (Ev.of fun k => by rw [Af.l0, if_neg (by simp)]), by simp⟩
 | x :: r, s, dx, dy, a, b, c, a', b', c', hl, hd, hn => by
  obtain _ | ⟨y, s⟩ := s
  ·simp at hl
  ·simp only [BE] at hn;have hp : 0 < BT x := by have := Il x; rwa [Cm] at this
   obtain ⟨q, hq, hm⟩ := IA x y (by omega);have hgo : ∀ k, Af.l0 (k + 1) (dx.length : Int) a b c (dx ++ x :: r) a' b' c' (dy ++ y :: s) = (Af.f k x.f0 x.f1 x.f2 x.f3 y.f0 y.f1 y.f2 y.f3).bind fun t131 => (if t131 = true then (Af.l0 k ((dx.length : Int) + 1) a b c (dx ++ x :: r) a' b' c' (dy ++ y :: s)) else (some BK)) := fun k => by
    rw [Af.l0, if_pos (by simp; omega), if_pos (by omega), if_pos (by simp; omega), F5, hd, F5, Ik (by omega) (by omega)]
   cases q with
   | false =>
    refine ⟨BK, Ev.step (Ev.congr (Ev.bind hq (f := fun k t131 => (if t131 = true then (Af.l0 k ((dx.length : Int) + 1) a b c (dx ++ x :: r) a' b' c' (dy ++ y :: s)) else (some BK))) (Ev.of fun k => by rw [if_neg (by simp)])) hgo), by simp; intro h; simp [h] at hm⟩
   | true =>
    obtain rfl := hm.1 rfl;obtain ⟨q2, hq2, hm2⟩ := Jk r s (dx ++ [x]) (dy ++ [x]) a b c a' b' c' (by simpa using hl) (by simp [hd]) (by simp; omega);refine ⟨q2, Ev.step (Ev.congr (Ev.bind hq (f := fun k t131 => (if t131 = true then (Af.l0 k ((dx.length : Int) + 1) a b c (dx ++ x :: r) a' b' c' (dy ++ x :: s)) else (some BK))) (Ev.congr hq2 fun k => ?_)) hgo), by rw [hm2]; simp⟩;rw [if_pos rfl];simp
end
end Go.Proofs.Q
namespace Go.Proofs.Q
open Go Go.RowKit Go.Lib Go.Sort Go.Proofs.V.Words Go.Proofs.V.Last Go.Proofs.V.More Go.Proofs.V.SL
theorem EF (g m : Nat) : (⟨g, 0, none⟩ : Addr).add m = ⟨g, m, none⟩ := by
 unfold Addr.add
 split
 ·rename_i h; subst h; rfl
 ·simp
theorem MU {α : Type} {d : Kd α} {W : Pe} {g t : Nat} {cs : List Pd} {x : α} (h : W.heap[g]? = some (.cells cs.toArray t (0, 0))) (hK : d.K W x cs) : Kd.C d W (some ⟨g, 0, none⟩) [x].length [x] := by
 refine ⟨rfl, by simp, fun _ => ⟨_, rfl, fun j p hj => ?_⟩⟩;cases j with
 | zero =>
  simp only [QR, QA] at hj;subst hj;refine ⟨_, d.K_len hK, hK, fun i u hi => ?_⟩;rw [EF, Aa h];simpa using hi
 | succ j => simp at hj
theorem MV {α : Type} {d : Kd α} {W : Pe} {g t : Nat} {cs1 cs2 : List Pd} {x y : α} (h : W.heap[g]? = some (.cells (cs1 ++ cs2).toArray t (0, 0))) (hK : d.K W x cs1) (hK2 : d.K W y cs2) : Kd.C d W (some ⟨g, 0, none⟩) [x, y].length [x, y] := by
 have hl := d.K_len hK;have hl2 := d.K_len hK2;refine ⟨rfl, by simp, fun _ => ⟨_, rfl, fun j p hj => ?_⟩⟩;cases j with
 | zero =>
  simp only [QR, QA] at hj;subst hj;refine ⟨_, hl, hK, fun i u hi => ?_⟩;rw [EF, Aa h];have hi2 := (Pf.1 hi).1;simp only [List.getElem?_toArray];rw [Nat.zero_mul, Nat.zero_add, PQ hi2]; exact hi
 | succ j =>
  cases j with
  | zero =>
   simp only [List.getElem?_cons_succ, QR, QA] at hj;subst hj;refine ⟨_, hl2, hK2, fun i u hi => ?_⟩;rw [EF, Aa h];simp only [List.getElem?_toArray];rw [List.getElem?_append_right (by omega)];rw [show (0 + 1) * d.sz + i - cs1.length = i by omega]; exact hi
  | succ j => simp at hj
abbrev eS : ByteArray := ⟨#[]⟩
abbrev xS : ByteArray := ⟨#[120]⟩
abbrev yS : ByteArray := ⟨#[121]⟩
abbrev nX : B8 := ⟨9, xS, eS, []⟩
abbrev nY : B8 := ⟨9, yS, eS, []⟩
theorem MW {W : Pe} {g t c : Nat} {A : Option Addr} (h : W.heap[g]? = some (.cells #[.int .i64 9, .string xS, .string eS, .slice A 0 c] t (0, 0))) (hA : Kd.C AY W A 0 []) : Kd.C AY W (some ⟨g, 0, none⟩) 1 [nX] :=
 MU (cs := [.int .i64 9, .string xS, .string eS, .slice A 0 c]) h (FE W nX (Qa _) hA)
theorem MX {W : Pe} {g t c1 c2 : Nat} {A1 A2 : Option Addr} (h : W.heap[g]? = some (.cells #[.int .i64 9, .string yS, .string eS, .slice A1 0 c1, .int .i64 9, .string xS, .string eS, .slice A2 0 c2] t (0, 0))) (h1 : Kd.C AY W A1 0 []) (h2 : Kd.C AY W A2 0 []) : Kd.C AY W (some ⟨g, 0, none⟩) 2 [nY, nX] :=
 MV (cs1 := [.int .i64 9, .string yS, .string eS, .slice A1 0 c1]) (cs2 := [.int .i64 9, .string xS, .string eS, .slice A2 0 c2]) h (FE W nY (Qa _) h1) (FE W nX (Qa _) h2)
theorem NC {W : Pe} {g t : Nat} (h : W.heap[g]? = some (.cells #[.int .i64 0, .int .i64 0, .int .i64 1, .int .i64 2] t (0, 0))) : Kd.C kP W (some ⟨g, 0, none⟩) 2 [(0, 0), (1, 2)] :=
 MV (d := kP) (cs1 := [.int .i64 0, .int .i64 0]) (cs2 := [.int .i64 1, .int .i64 2]) h ⟨[.int .i64 0], [.int .i64 0], rfl, rfl, rfl⟩ ⟨[.int .i64 1], [.int .i64 2], rfl, rfl, rfl⟩
theorem MY {W : Pe} {g t : Nat} (h : W.heap[g]? = some (.cells #[.int .i64 2, .int .i64 0, .int .i64 0, .int .i64 0, .int .i64 0, .string eS, .string eS] t (0, 0))) : Kd.C EY W (some ⟨g, 0, none⟩) 1 [⟨2, 0, 0, 0, 0, eS, eS⟩] :=
 MU (cs := [.int .i64 2, .int .i64 0, .int .i64 0, .int .i64 0, .int .i64 0, .string eS, .string eS]) h (O6 W ⟨2, 0, 0, 0, 0, eS, eS⟩)
theorem OL (W : Pe) (A B P : Option Addr) (hA : Kd.C AY W A 1 [nX]) (hB : Kd.C AY W B 2 [nY, nX]) (hP : Kd.C kP W P 2 [(0, 0), (1, 2)]) :
  PJ Try.prog 15 #[.agg #[.int .i64 20, .string eS, .string eS, .slice A 1 1], .agg #[.int .i64 20, .string eS, .string eS, .slice B 2 2], .slice P 2 2] W fun e w' => ∃ A1 c1, e = .returned (.tuple #[.slice A1 1 c1, .int .i64 0]) /\ Below W.heap.size W w' /\ (AF EY A1 c1 [kE 9 eS yS]).P w' (fun k => W.heap.size <= k /\ k < w'.heap.size) := by
 have h := LM (kA 20 9 eS xS) (kB 20 9 eS xS yS) [(0, 0), (1, 2)] W (A := A) (c := 1) (B := B) (d := 2) (P := P) (e := 2) hA (Ps _) hB (Ps _) hP (Ps _) (GG (by rw [Iz]; omega)) (by rw [JZ]; omega) (by simp) (NW (by rw [JZ]; omega)) _ (fun _ => MT 20 9 eS xS yS);rw [Ji] at h;refine h.mono ?_;rintro e w' ⟨hb, v, rfl, hR⟩;obtain ⟨A1, c1, rfl, hP⟩ := Gc hR;exact ⟨A1, c1, rfl, hb, hP⟩
theorem OM (W : Pe) (A B : Option Addr) (c : Nat) (hA : Kd.C AY W A 1 [nX]) (hB : Kd.C EY W B 1 [kE 9 eS yS]) (hc : 1 <= c) :
  PJ Try.prog 10 #[.agg #[.int .i64 20, .string eS, .string eS, .slice A 1 1], .slice B 1 c] W fun e w' => ∃ A2 c2, e = .returned (.tuple #[.agg #[.int .i64 20, .string eS, .string eS, .slice A2 2 c2], .int .i64 1, .int .i64 0]) /\ Below W.heap.size W w' /\ (AF AY A2 c2 [nY, nX]).P w' (fun k => W.heap.size <= k /\ k < w'.heap.size) := by
 have h := Ez (kA 20 9 eS xS) [kE 9 eS yS] W (A := A) (c := 1) (B := B) (d := c) hA (Ps _) hB hc (GG (by rw [Iz]; omega)) (by simp) (by intro e he; rw [PC] at he; subst he; unfold kE in64; simp);rw [LN] at h;refine h.mono ?_;rintro e w' ⟨hb, v, rfl, hR⟩;rw [GM] at hR;rw [GM];obtain ⟨A1, c1, rfl, hP⟩ := Gc hR;exact ⟨A1, c1, rfl, hb, hP⟩
theorem ND (W : Pe) (A B : Option Addr) (hA : Kd.C AY W A 1 [nX]) (hB : Kd.C EY W B 1 [⟨2, 0, 0, 0, 0, eS, eS⟩]) :
  PJ Try.prog 10 #[.agg #[.int .i64 20, .string eS, .string eS, .slice A 1 1], .slice B 1 1] W fun e w' => e = .returned (.tuple #[.agg #[.int .i64 0, .string eS, .string eS, .slice none 0 0], .int .i64 0, .int .i64 10]) /\ Below W.heap.size W w' := by
 have h := Ez (kA 20 9 eS xS) [⟨2, 0, 0, 0, 0, eS, eS⟩] W (A := A) (c := 1) (B := B) (d := 1) hA (Ps _) hB (Ps _) (GG (by rw [Iz]; omega)) (by simp) (by intro e he; rw [PC] at he; subst he; unfold in64; simp);rw [K0] at h;refine h.mono ?_;rintro e w' ⟨hb, rfl⟩;exact ⟨rfl, hb⟩
theorem NE (W : Pe) (A B : Option Addr) (c d : Nat) (hA : Kd.C AY W A 2 [nY, nX]) (hc : 2 <= c) (hB : Kd.C AY W B 2 [nY, nX]) (hd : 2 <= d) :
  PJ Try.prog 14 #[.agg #[.int .i64 20, .string eS, .string eS, .slice A 2 c], .agg #[.int .i64 20, .string eS, .string eS, .slice B 2 d]] W fun e w' => e = .returned (.bool true) /\ Below W.heap.size W w' := by
 obtain ⟨b, hb, hbt⟩ := IA (kB 20 9 eS xS yS) (kB 20 9 eS xS yS) (by rw [JZ]; omega);obtain rfl := hbt.2 rfl;obtain ⟨k, hk⟩ := hb.has;refine (Af.calls k 20 eS eS A c [nY, nX] 20 eS eS B d [nY, nX] true W hA hc hB hd hk).mono ?_;rintro e w' h;exact h
theorem IB (a0 : ByteArray) (W : Pe) : PJ Try.prog 19 #[.string a0] W fun e w' => ∃ A c, e = .returned (.agg #[.int .i64 9, .string a0, .string eS, .slice A 0 c]) /\ Below W.heap.size W w' /\ (AF AY A c []).P w' (fun k => W.heap.size <= k /\ k < w'.heap.size) := by
 refine (Di.calls a0 _ _ _ _ W rfl).mono ?_;rintro e w' ⟨v, rfl, hR, hb⟩;obtain ⟨A1, c1, rfl, hP⟩ := Gc hR;exact ⟨A1, c1, rfl, hb, hP⟩
end Go.Proofs.Q
namespace Go.Proofs.Q
open Go Go.RowKit Go.Proofs.V.Words Go.Proofs.V.SL
section
variable {w0 w w' : Pe} {Z : Nat -> Prop} {L : List Bj} {F : List FA} {B i j n cap : Nat} {ad : Addr} {xs : List DD} {x : DD}
theorem Jl {ok : Nat -> Prop} (hR : CL.R 66 w B ok (.slice (some ad) n cap) xs) (hj : xs[j]? = some x) :
  ∃ (g : Nat) (c : List Pd) (v4 v5 : Pd), ad = ⟨g, 0, none⟩ /\ n = xs.length /\ c = [.int .i64 x.f0, .int .i64 x.f1.f0, .string x.f1.f1, .string x.f1.f2, v4, v5] /\ AY.R 24 w B (fun k => ok k /\ k ≠ g) v4 x.f1.f3 /\ (Kd.int .i64).R 3 w B (fun k => ok k /\ k ≠ g) v5 x.f2 /\
   (∀ t q, c[t]? = some q -> w.cell? ⟨g, j * 6 + t, none⟩ = some q) /\ ∀ t, w.frozen? ⟨g, t, none⟩ = BK := by
 have hl := (Pf.1 hj).1;have hn := (Kd.R_reads' hR).1;obtain ⟨h0, inner, hown, hr⟩ := hR;have hM := hr.2 j x hj;rcases hown.2 with ⟨_, hz⟩ | ⟨g, cap', cur, hv, hb, hh, hnc, hcm, hcs, htk⟩
 ·omega
 injection hv with hv1 hv2 hv3
 injection hv1 with hv1
 subst hv1;obtain ⟨v4, v5, hc, r4, r5⟩ := KW hM;refine ⟨g, _, v4, v5, rfl, hn, rfl, Kd.R_mono r4 (fun k hk => ⟨hk.1, fun e => hk.2 (by rw [e]; rfl)⟩), Kd.R_mono r5 (fun k hk => ⟨hk.1, fun e => hk.2 (by rw [e]; rfl)⟩), fun t q hq => ?_, fun t => Ad hh t⟩;rw [<- hc] at hq;have ht : t < 6 := by
  have := (Pf.1 hq).1;rw [Pp] at this;have e6 : CL.sz = 6 := rfl;rw [e6] at this;omega
 rw [PW, if_pos (show t < CL.sz from ht), Qk, <- htk, PW] at hq
 split at hq
 ·rw [Aa hh];rw [<- Array.getElem?_toList];exact hq
 ·cases hq
theorem GN {ok : Nat -> Prop} (hR : CL.R 66 w B ok (.slice (some ad) n cap) xs) (hj : xs[j]? = some x) (t : Nat) (ht : t < 6) (u : Pd) (x' : DD)
  (hM : ∀ (g : Nat) (v4 v5 : Pd), ad = ⟨g, 0, none⟩ -> AY.R 24 w B (fun k => ok k /\ k ≠ g) v4 x.f1.f3 -> (Kd.int .i64).R 3 w B (fun k => ok k /\ k ≠ g) v5 x.f2 -> CL.M w B (fun k => ok k /\ k ≠ g) x' ([.int .i64 x.f0, .int .i64 x.f1.f0, .string x.f1.f1, .string x.f1.f2, v4, v5].set t u)) :
  CL.R 66 (w.setCell ⟨(ad.add (j * 6)).block, (ad.add (j * 6)).off + t, none⟩ u) B ok (.slice (some ad) n cap) (xs.set j x') /\ w.grownBy (w.setCell ⟨(ad.add (j * 6)).block, (ad.add (j * 6)).off + t, none⟩ u) (some ad.block) := by
 obtain ⟨g, c, v4, v5, rfl, hn, rfl, r4, r5, hc, _⟩ := Jl hR hj;have hl := (Pf.1 hj).1;have e : (⟨g, 0, none⟩ : Addr).add (j * 6) = ⟨g, j * 6, none⟩ := EF g (j * 6);rw [e];have hseg : ([.int .i64 x.f0, .int .i64 x.f1.f0, .string x.f1.f1, .string x.f1.f2, v4, v5] : List Pd).take t ++ [u] ++ ([.int .i64 x.f0, .int .i64 x.f1.f0, .string x.f1.f1, .string x.f1.f2, v4, v5] : List Pd).drop (t + [u].length) = ([.int .i64 x.f0, .int .i64 x.f1.f0, .string x.f1.f1, .string x.f1.f2, v4, v5] : List Pd).set t u := by
  rcases (show t = 0 \/ t = 1 \/ t = 2 \/ t = 3 \/ t = 4 \/ t = 5 by omega) with rfl | rfl | rfl | rfl | rfl | rfl <;> rfl
 have h := Kd.R_seg (d := CL) (okp := fun k => ok k /\ k ≠ g) hR (j : Int) (by omega) (by omega) (c := [.int .i64 x.f0, .int .i64 x.f1.f0, .string x.f1.f1, .string x.f1.f2, v4, v5]) (seg := [u]) (j := t) rfl (fun t q hq => by rw [PO]; exact hc t q hq) (show t + 1 <= 6 by omega) (x' := x') (by rw [hseg]; exact hM g v4 v5 rfl r4 r5) (fun k hk => hk);rw [PO] at h;exact h
theorem ES {u : Pd} {ys : List Int} (S : Au w0 Z (Bo (Kd.int .i64) 3 B u ys :: Bo CL 66 B (.slice (some ad) n cap) xs :: L) F w) (hj : xs[j]? = some x) :
  Au w0 Z (Bo CL 66 B (.slice (some ad) n cap) (xs.set j ⟨x.f0, x.f1, ys⟩) :: L) F (w.setCell ⟨(ad.add (j * 6)).block, (ad.add (j * 6)).off + 5, none⟩ u) := by
 obtain ⟨ok, okp, o1, o2, o3, o4, o5⟩ := S.rowOf_app;obtain ⟨h1, h2⟩ := GN o3 hj 5 (by decide) u ⟨x.f0, x.f1, ys⟩ (fun g v4 v5 e r4 r5 => by
  subst e;exact Fj w B _ ⟨x.f0, x.f1, ys⟩ r4 (Kd.R_mono o4 (fun k hk => ⟨(o1 k hk).1, fun e => (o1 k hk).2 (by rw [e]; rfl)⟩)))
 exact o5 _ _ _ h1 h2
theorem LO (S : Au w0 Z (Bo CL 66 B (.slice (some ad) n cap) xs :: L) F w) (hj : xs[j]? = some x) (t : ByteArray) :
  Au w0 Z (Bo CL 66 B (.slice (some ad) n cap) (xs.set j ⟨x.f0, ⟨x.f1.f0, t, x.f1.f2, x.f1.f3⟩, x.f2⟩) :: L) F (w.setCell ⟨(ad.add (j * 6)).block, (ad.add (j * 6)).off + 2, none⟩ (.string t)) := by
 obtain ⟨ok, o2, o3, o5⟩ := DA S;obtain ⟨h1, h2⟩ := GN o3 hj 2 (by decide) (.string t) ⟨x.f0, ⟨x.f1.f0, t, x.f1.f2, x.f1.f3⟩, x.f2⟩ (fun g v4 v5 e r4 r5 => Fj w B _ ⟨x.f0, ⟨x.f1.f0, t, x.f1.f2, x.f1.f3⟩, x.f2⟩ r4 r5);exact o5 _ _ _ h1 h2
theorem K1 (S : Au w0 Z (Bo CL 66 B (.slice (some ad) n cap) xs :: L) F w) (hj : xs[j]? = some x) (t : ByteArray) :
  Au w0 Z (Bo CL 66 B (.slice (some ad) n cap) (xs.set j ⟨x.f0, ⟨x.f1.f0, x.f1.f1, t, x.f1.f3⟩, x.f2⟩) :: L) F (w.setCell ⟨(ad.add (j * 6)).block, (ad.add (j * 6)).off + 3, none⟩ (.string t)) := by
 obtain ⟨ok, o2, o3, o5⟩ := DA S;obtain ⟨h1, h2⟩ := GN o3 hj 3 (by decide) (.string t) ⟨x.f0, ⟨x.f1.f0, x.f1.f1, t, x.f1.f3⟩, x.f2⟩ (fun g v4 v5 e r4 r5 => Fj w B _ ⟨x.f0, ⟨x.f1.f0, x.f1.f1, t, x.f1.f3⟩, x.f2⟩ r4 r5);exact o5 _ _ _ h1 h2
theorem C6 (S : Au w0 Z L F w) (hi : L[i]? = some (Bo CL 66 B (.slice (some ad) n cap) xs)) (hj : xs[j]? = some x) :
  (w.cell? (ad.add (j * 6)) = some (.int .i64 x.f0) /\ w.cell? ⟨(ad.add (j * 6)).block, (ad.add (j * 6)).off + 2, none⟩ = some (.string x.f1.f1) /\ w.cell? ⟨(ad.add (j * 6)).block, (ad.add (j * 6)).off + 3, none⟩ = some (.string x.f1.f2)) /\
  (∃ A5 c5, w.cell? ⟨(ad.add (j * 6)).block, (ad.add (j * 6)).off + 5, none⟩ = some (.slice A5 x.f2.length c5) /\ x.f2.length <= c5 /\ (Kd.int .i64).C w A5 x.f2.length x.f2) /\
  w.frozen? ⟨(ad.add (j * 6)).block, (ad.add (j * 6)).off + 2, none⟩ = BK /\ w.frozen? ⟨(ad.add (j * 6)).block, (ad.add (j * 6)).off + 3, none⟩ = BK /\ w.frozen? ⟨(ad.add (j * 6)).block, (ad.add (j * 6)).off + 5, none⟩ = BK /\ n = xs.length /\ n <= cap /\ j < n := by
 obtain ⟨f, hf, hR⟩ := S.rowOf_at hi;have hl := (Pf.1 hj).1;obtain ⟨hn, hnc, hC⟩ := Kd.R_reads' hR;obtain ⟨g, c, v4, v5, e, _, hce, _, r5, hc, hfz⟩ := Jl hR hj;subst e;rw [EF];obtain ⟨A5, c5, e5⟩ := Kd.R_slice r5;subst e5;have h5 := Kd.R_reads' r5;subst hce;exact ⟨⟨hc 0 _ rfl, hc 2 _ rfl, hc 3 _ rfl⟩, ⟨A5, c5, hc 5 _ rfl, h5.2.1, h5.2.2⟩, hfz _, hfz _, hfz _, hn, hnc, by omega⟩
end
section
variable {w0 w w' : Pe} {Z : Nat -> Prop} {L : List Bj} {F : List FA} {B n c m : Nat} {ad : Addr} {xs : List DD}
theorem KM {ok : Nat -> Prop} (h : CL.R 66 w B ok (.slice (some ad) n c) xs) : n = xs.length /\ By (CL.M w B ok) 6 w (some ad) xs.length xs := by
 obtain ⟨A, c', he, hl, hr⟩ := CR.reads h.2;injection he with h1 h2 h3
 subst h1;exact ⟨h2, hr.imp_ (Pn _ _) (fun _ _ hp => CL.M_mono (fun k hk => hk.1) hp)⟩
theorem GO {ok : Nat -> Prop} (h : CL.R 66 w B ok (.slice (some ad) n c) xs) (hm : m <= n) : By (CL.M w B ok) 6 w (some ad) m (xs.take m) := by
 obtain ⟨hn, hr⟩ := KM h;refine ⟨by rw [Pp]; omega, by have := hr.2.1; omega, fun hp => ?_⟩;obtain ⟨ad', e, hc⟩ := hr.2.2 (by omega);refine ⟨ad', e, fun j p hj => hc j p ?_⟩;rw [PW] at hj
 split at hj
 ·exact hj
 ·cases hj
theorem K3 {ok : Nat -> Prop} (h : CL.R 66 w B ok (.slice (some ad) n c) xs) (hm : m <= n) : By (CL.M w B ok) 6 w (some (ad.add (m * 6))) (n - m) (xs.drop m) := by
 obtain ⟨hn, hr⟩ := KM h;refine ⟨by rw [PG]; omega, by have := hr.2.1; omega, fun hp => ?_⟩;obtain ⟨ad', e, hc⟩ := hr.2.2 (by omega);obtain rfl := Px e;refine ⟨_, rfl, fun j p hj => ?_⟩;rw [Qk] at hj;obtain ⟨cs, h1, h2, h3⟩ := hc (m + j) p hj;refine ⟨cs, h1, h2, fun i u hi => ?_⟩;rw [<- h3 i u hi, Ic]
 congr 2
 rw [Nat.add_mul]; omega
theorem K4 {R : DD -> List Pd -> Prop} {A : Option Addr} : By R 6 w A 0 [] := ⟨rfl, by omega, fun h => by omega⟩
theorem LP (S : Au w0 Z L F w) (hB : B <= w.heap.size) : Au w0 Z (Bo CL 66 B (.slice (some ⟨w.heap.size, 0, none⟩) 0 0) [] :: L) F (w.alloc (.cells #[] 66)) :=
 S.more (a := Bo CL 66 B (.slice (some ⟨w.heap.size, 0, none⟩) 0 0) []) (f := fun k => k = w.heap.size) (Ah (Pn _ _) _)
  ⟨fun k hk => by rw [hk]; simp, fun k hk => by simp [PT] at hk; exact hk.symm, [], ⟨rfl, .inr ⟨w.heap.size, 0, #[], rfl, hB, Pv w _, Ps _, by decide, rfl, rfl⟩⟩, Cj.none _ _⟩ (fun k hk => by omega)
theorem MZ {v0 : Pd} {ys0 : List DD} (S : Au w0 Z (Bo CL 66 w0.heap.size (.slice (some ad) n c) xs :: Bo CL 66 w0.heap.size v0 ys0 :: L) F w) :
  ∃ ok okp : Nat -> Prop, (∀ k, okp k -> ok k /\ some k ≠ v0.ownBlock) /\ (∀ k, w.heap.size <= k -> ok k) /\ CL.R 66 w w0.heap.size ok v0 ys0 /\ CL.R 66 w w0.heap.size okp (.slice (some ad) n c) xs /\
   ∀ (v1 : Pd) (w1 : Pe) (ys1 : List DD), CL.R 66 w1 w0.heap.size ok v1 ys1 -> w.grownBy w1 v0.ownBlock -> (v1.ownBlock = v0.ownBlock \/ ∃ b, v1.ownBlock = some b /\ w.heap.size <= b) ->
    Below w0.heap.size w0 w1 /\ CL.R 66 w1 w0.heap.size okp (.slice (some ad) n c) xs /\ (∀ k, okp k -> ok k /\ some k ≠ v1.ownBlock) /\ (∀ k, w1.heap.size <= k -> ok k) /\
    ∀ (v2 : Pd) (w2 : Pe) (ys2 : List DD), CL.R 66 w2 w0.heap.size ok v2 ys2 -> w1.grownBy w2 v1.ownBlock -> Au w0 Z (Bo CL 66 w0.heap.size v2 ys2 :: L) F w2 := by
 obtain ⟨ok, okp0, p1, p2, p3, p4, p5⟩ := S.rowOf_app;have p4' := Kd.R_mono (Kd.R_bound p4) (ok' := fun k => okp0 k /\ k < w.heap.size) (fun k hk => ⟨hk.1, hk.2.2.1⟩);refine ⟨ok, fun k => okp0 k /\ k < w.heap.size, fun k hk => p1 k hk.1, p2, p3, p4', fun v1 w1 ys1 h1 hg hat => ?_⟩;have hkeep : ∀ k, k < w.heap.size -> v0.ownBlock ≠ some k -> w1.heap[k]? = w.heap[k]? := fun k hk hn => hg.block k hk (fun e => hn e.symm)
 have hle := S.below.size;have hvb : ∀ k, v0.ownBlock = some k -> w0.heap.size <= k := fun k hk => Kd.R_base p3 k hk
 refine ⟨S.below.trans ⟨hg.os, hg.tape, hg.output, hg.size, fun k hk => hkeep k (by omega) (fun e => by have := hvb k e; omega)⟩, Kd.R_move p4' (fun k hk => hkeep k hk.2 (fun e => (p1 k hk.1).2 e.symm)), fun k hk => ⟨(p1 k hk.1).1, fun e => ?_⟩, fun k hk => p2 k (Qo hg.size hk), fun v2 w2 ys2 h2 hg2 => ?_⟩
 ·rcases hat with hat | ⟨b, hb, hbl⟩
  ·exact (p1 k hk.1).2 (e.trans hat)
  ·rw [hb] at e;injection e with e
   have := hk.2; omega
 ·refine p5 v2 w2 ys2 h2 ⟨hg2.os.trans hg.os, hg2.tape.trans hg.tape, hg2.output.trans hg.output, Qo hg.size hg2.size, fun k hk hn => ?_⟩;rw [hg2.block k (Nat.lt_of_lt_of_le hk hg.size) (fun e => ?_)]
  ·exact hg.block k hk hn
  ·rcases hat with hat | ⟨b, hb, hbl⟩
   ·exact hn (e.trans hat)
   ·rw [hb] at e;injection e with e
    omega
end
section
variable {w0 W : Pe} {Z : Nat -> Prop} {L : List Bj} {F : List FA} {B i n c : Nat} {A : Option Addr} {ks : List Kn}
theorem DU (S : Au w0 Z L F W) (hi : L[i]? = some (Bo CL 66 B (.slice A n c) (ks.map As))) : n = ks.length /\ n <= c /\ Kd.C CL W A (ks.map As).length (ks.map As) := by
 obtain ⟨f, _, hR⟩ := S.rowOf_at hi;obtain ⟨h1, h2, h3⟩ := Kd.R_reads' hR;exact ⟨by simpa using h1, h2, h3⟩
theorem N0 (S : Au w0 Z L F W) (hi : L[i]? = some (Bo CL 66 B (.slice A n c) (ks.map As))) (hl : ks.length <= 1000000) (id : Int) :
  PJ Try.prog 34 #[.slice A n c, .int .i64 id] W fun e w' => e = .returned (.int .i64 (AO (ks.map (·.id)) id)) /\ Below W.heap.size W w' := by
 obtain ⟨hn, hc, hC⟩ := DU S hi;obtain ⟨k, hk⟩ := (Jf id (ks.map As) (by simpa using hl)).has;rw [Jh] at hk;have h := Bc.calls k A c (ks.map As) id _ W hC (by simp; omega) hk;rw [PM, <- hn] at h;refine h.mono ?_;rintro e w' ⟨rfl, hd⟩;exact ⟨rfl, hd.below⟩
theorem Jm (S : Au w0 Z L F W) (hi : L[i]? = some (Bo CL 66 B (.slice A n c) (ks.map As))) (I : CQ ks) (hl : ks.length <= 1000000) (id q : Int) (hq : CG ks id = some q) :
  PJ Try.prog 37 #[.slice A n c, .int .i64 id] W fun e w' => e = .returned (.int .i64 (AO (ks.map (·.id)) q)) /\ Below W.heap.size W w' := by
 obtain ⟨hn, hc, hC⟩ := DU S hi;have hp := Fa I hl (fun k hk => Qo (I.kidsLen hk) hl) id;rw [hq] at hp;replace hp : Ev (fun k => AI.f k (ks.map As) id) (AO (ks.map (·.id)) q) := hp;obtain ⟨k, hk⟩ := hp.has;have h := AI.calls k A c (ks.map As) id _ W hC (by simp; omega) hk;rw [PM, <- hn] at h;refine h.mono ?_;rintro e w' ⟨rfl, hd⟩;exact ⟨rfl, hd.below⟩
open Classical in
theorem KN (S : Au w0 Z L F W) (hi : L[i]? = some (Bo CL 66 B (.slice A n c) (ks.map As))) (I : CQ ks) (hl : ks.length <= 1000000) {cur : Int} (hc2 : cur ∈ ks.map (·.id)) (top : Int) :
  PJ Try.prog 39 #[.slice A n c, .int .i64 cur, .int .i64 top] W fun e w' => e = .returned (.bool (decide (E6 ks cur top))) /\ Below W.heap.size W w' := by
 obtain ⟨hn, hc, hC⟩ := DU S hi;obtain ⟨b, hb, hbt⟩ := LJ I hl hc2 top;have e : b = decide (E6 ks cur top) := by
  cases b with
  | true => exact (decide_eq_true (hbt.1 rfl)).symm
  | false => exact (decide_eq_false (fun h => by have := hbt.2 h; cases this)).symm
 obtain ⟨k, hk⟩ := hb.has;have h := AN.calls k A c (ks.map As) cur top _ W hC (by simp; omega) hk;rw [PM, <- hn, e] at h;refine h.mono ?_;rintro e w' ⟨rfl, hd⟩;exact ⟨rfl, hd.below⟩
theorem P3 {l : List Int} (hC : Kd.C (Kd.int .i64) W A l.length l) (hc : l.length <= c) (hl : l.length <= 1000000) (id : Int) :
  PJ Try.prog 35 #[.slice A l.length c, .int .i64 id] W fun e w' => e = .returned (.int .i64 (AO l id)) /\ Below W.heap.size W w' := by
 obtain ⟨k, hk⟩ := (JW id l hl).has;refine (B0.calls k A c l id _ W hC hc hk).mono ?_;rintro e w' ⟨rfl, hd⟩;exact ⟨rfl, hd.below⟩
theorem NX {l : List Int} (hC : Kd.C (Kd.int .i64) W A l.length l) (hc : l.length <= c) (hl : l.length <= 1000000) (id af : Int) :
  PJ Try.prog 36 #[.slice A l.length c, .int .i64 id, .int .i64 af] W fun e w' => ∃ A' c', e = .returned (.slice A' (Bx l (Nb l af) id).length c') /\ (Kd.int .i64).R 3 w' W.heap.size (fun _ => True) (.slice A' (Bx l (Nb l af) id).length c') (Bx l (Nb l af) id) /\ Below W.heap.size W w' := by
 obtain ⟨k, hk⟩ := (Oi l id af hl).has;refine (AW.calls k A c l id af _ W hC hc hk).mono ?_;rintro e w' ⟨v, rfl, hR, hb⟩;obtain ⟨A', c', e2⟩ := Kd.R_slice hR;subst e2;exact ⟨A', c', rfl, hR, hb⟩
theorem I6 {l : List Int} (hC : Kd.C (Kd.int .i64) W A l.length l) (hc : l.length <= c) (hl : l.length <= 1000000) (id : Int) :
  PJ Try.prog 38 #[.slice A l.length c, .int .i64 id] W fun e w' => ∃ A' c', e = .returned (.slice A' (l.filter fun y => decide (y ≠ id)).length c') /\ (Kd.int .i64).R 3 w' W.heap.size (fun _ => True) (.slice A' (l.filter fun y => decide (y ≠ id)).length c') (l.filter fun y => decide (y ≠ id)) /\ Below W.heap.size W w' := by
 have h0 := F9 id l [] [] (by simpa using hl) (Ps _);rw [Pu, Pu] at h0;have h1 : Ev (fun k => AX.f k l id) (l.filter fun y => decide (y ≠ id)) := h0;obtain ⟨k, hk⟩ := h1.has;refine (AX.calls k A c l id _ W hC hc hk).mono ?_;rintro e w' ⟨v, rfl, hR, hb⟩;obtain ⟨A', c', e2⟩ := Kd.R_slice hR;subst e2;exact ⟨A', c', rfl, hR, hb⟩
end
end Go.Proofs.Q
namespace Go.Proofs.Q
open Go Go.RowKit Go.Proofs.V.Words
theorem FR : (Try.prog.info? 66).map (fun i => (i.zero, i.size, i.bytes)) = some (some (.agg #[(.int .i64 0), (.int .i64 0), (.string ⟨#[]⟩), (.string ⟨#[]⟩), (.slice none 0 0), (.slice none 0 0)]), 6, 96) := by kernel_rfl
section
variable {ks : List Kn}
theorem Ci {j : Nat} {k : Kn} (h : ks[j]? = some k) : (ks.map As)[j]? = some (As k) := by rw [PU, h]; rfl
theorem Fb {j : Nat} {k : Kn} (ys : List Int) : (ks.map As).set j ⟨(As k).f0, (As k).f1, ys⟩ = (ks.set j (k.wKids ys)).map As := by rw [List.map_set]; rfl
theorem KO {l : List Int} {af : Int} (h : af = -1 \/ 0 <= af) : Nb l af = (CM l af).toNat := by
 unfold Nb CM;rcases h with h | h
 ·rw [if_pos h, if_neg (by omega)]; rfl
 ·rw [if_neg (by omega), if_pos h]
theorem NY (I : CQ ks) {p : Kn} (hp : p ∈ ks) {af : Int} (h : af = -1 \/ af ∈ p.kids) : af = -1 \/ 0 <= af := by
 rcases h with h | h
 ·exact .inl h
 ·obtain ⟨y, hy, e, _⟩ := I.kids p hp af h;right; rw [<- e]; exact (I.in64 y hy).1
theorem K5 (I : CQ ks) {x : Ed} {jp : Nat} {p : Kn} (hj : ks[jp]? = some p) (hpi : p.id = x.pa) (haf : x.af = -1 \/ x.af ∈ p.kids) :
  (ks.map As ++ [(⟨x.id, ⟨x.ki, x.tx, x.tr, []⟩, []⟩ : DD)]).set jp ⟨(As p).f0, (As p).f1, Bx p.kids (Nb p.kids x.af) x.id⟩ = (EU ks x).map As := by
 have hl := (Pf.1 hj).1;rw [List.set_append_left _ _ (by simpa using hl), Fb];unfold EU;rw [<- hpi, EB I.nodup hj, Qs, KO (NY I (Pm hj) haf)];rfl
theorem GP (I : CQ ks) {i : Int} {jq : Nat} {q : Kn} (hj : ks[jq]? = some q) :
  (ks.map As).set jq ⟨(As q).f0, (As q).f1, q.kids.filter fun y => decide (y ≠ i)⟩ = (BN ks q.id (Kn.cut i)).map As := by
 rw [Fb, EB I.nodup hj];rfl
theorem G9 (I : CQ ks) {x : Ed} {q : Int} {j : Nat} {k : Kn} (hj : ks[j]? = some k) (hki : k.id = x.id) :
  ((BN ks q (Kn.cut x.id)).map As).take j ++ ((BN ks q (Kn.cut x.id)).map As).drop (j + 1) = (CW ks q x).map As := by
 have hn : ((BN ks q (Kn.cut x.id)).map (·.id)).Nodup := by rw [C2 (E7 x.id)]; exact I.nodup
 have hj2 : (BN ks q (Kn.cut x.id))[j]? = some (if k.id = q then Kn.cut x.id k else k) := by unfold BN; rw [PU, hj]; rfl
 have h := GJ hn hj2;have e : (if k.id = q then Kn.cut x.id k else k).id = x.id := by split <;> exact hki
 rw [e] at h;unfold CW;rw [h, Qs, List.map_take, List.map_drop]
theorem Jn (I : CQ ks) {x : Ed} {j : Nat} {k : Kn} (hj : ks[j]? = some k) (hki : k.id = x.id) :
  ((ks.map As).set j ⟨(As k).f0, ⟨(As k).f1.f0, x.tx, (As k).f1.f2, (As k).f1.f3⟩, (As k).f2⟩).set j ⟨(As k).f0, ⟨(As k).f1.f0, x.tx, x.tr, (As k).f1.f3⟩, (As k).f2⟩ = (DJ ks x).map As := by
 unfold DJ;rw [List.set_set, <- hki, EB I.nodup hj, List.map_set];rfl
theorem Jo (g : List Kn) (i : Int) (q : Option Int) : (BN g i (fun k => k.wPar q)).map As = g.map As := by
 unfold BN;rw [List.map_map];apply List.map_congr_left;intro k _
 show As (if k.id = i then k.wPar q else k) = As k
 split <;> rfl
theorem IC (I : CQ ks) {x : Ed} {q : Int} {jp : Nat} {p : Kn} (hj : ks[jp]? = some p) (hpi : p.id = x.pa) (haf : x.af = -1 \/ 0 <= x.af) :
  ∃ p2 : Kn, (BN ks q (Kn.cut x.id))[jp]? = some p2 /\ p2.id = x.pa /\ p2.kids.length <= p.kids.length /\ ((BN ks q (Kn.cut x.id)).map As).set jp ⟨(As p2).f0, (As p2).f1, Bx p2.kids (Nb p2.kids x.af) x.id⟩ = (Ch ks q x).map As := by
 have hn : ((BN ks q (Kn.cut x.id)).map (·.id)).Nodup := by rw [C2 (E7 x.id)]; exact I.nodup
 have hj2 : (BN ks q (Kn.cut x.id))[jp]? = some (if p.id = q then Kn.cut x.id p else p) := by unfold BN; rw [PU, hj]; rfl
 have e : (if p.id = q then Kn.cut x.id p else p).id = x.pa := by split <;> exact hpi
 refine ⟨_, hj2, e, ?_, ?_⟩
 ·split
  ·exact List.length_filter_le _ _
  ·exact Ps _
 ·rw [Fb];unfold Ch;rw [Jo];have h3 := EB hn (f := Kn.ins x) hj2;rw [e] at h3;rw [h3, KO haf];rfl
end
section
variable {ks : List Kn} {x : Ed}
theorem LQ (h : x.so = 1) (hi : x.id ∈ ks.map (·.id)) : Ce ks x = none := by
 unfold Ce;rw [if_pos h, if_neg (fun h2 => CJ.1 h2.1 hi)]
theorem NF (h : x.so = 1) (hi : x.id < 0) : Ce ks x = none := by
 unfold Ce;rw [if_pos h, if_neg (fun h2 => by have := h2.2.1; omega)]
theorem N1 (h : x.so = 1) (hi : ¬ Dk ks x) : Ce ks x = none := by
 unfold Ce;rw [if_pos h, if_neg (fun h2 => hi h2.2.2)]
theorem Om (h : x.so = 1) (h1 : x.id ∉ ks.map (·.id)) (h2 : ¬ x.id < 0) (h3 : Dk ks x) : Ce ks x = some (EU ks x) := by
 unfold Ce;rw [if_pos h, if_pos ⟨CJ.2 h1, by omega, h3⟩]
theorem On (h : x.so = 2) (hi : x.id ∉ ks.map (·.id)) : Ce ks x = none := by
 unfold Ce;rw [if_neg (by omega), if_pos h, CJ.2 hi]
theorem N2 (h : x.so = 2) {k : Kn} (hk : CY ks x.id = some k) (hp : k.par = none) : Ce ks x = none := by
 unfold Ce;rw [if_neg (by omega), if_pos h, hk];dsimp only;rw [hp]
theorem N3 (h : x.so = 2) {k : Kn} (hk : CY ks x.id = some k) (hc : k.kids ≠ []) : Ce ks x = none := by
 unfold Ce;rw [if_neg (by omega), if_pos h, hk];dsimp only;cases k.par with
 | none => rfl
 | some q => dsimp only; rw [if_neg hc]
theorem Oo (h : x.so = 2) {k : Kn} (hk : CY ks x.id = some k) {q : Int} (hp : k.par = some q) (hc : k.kids = []) : Ce ks x = some (CW ks q x) := by
 unfold Ce;rw [if_neg (by omega), if_pos h, hk];dsimp only;rw [hp];dsimp only;rw [if_pos hc]
theorem Oq (h : x.so = 3) (hi : x.id ∉ ks.map (·.id)) : Ce ks x = none := by
 unfold Ce;rw [if_neg (by omega), if_neg (by omega), if_pos h, CJ.2 hi]
theorem Ot (h : x.so = 3) {k : Kn} (hk : CY ks x.id = some k) : Ce ks x = some (DJ ks x) := by
 unfold Ce;rw [if_neg (by omega), if_neg (by omega), if_pos h, hk]
theorem Ou (h : x.so = 4) (hi : x.id ∉ ks.map (·.id)) : Ce ks x = none := by
 unfold Ce;rw [if_neg (by omega), if_neg (by omega), if_neg (by omega), if_pos h, CJ.2 hi]
theorem N4 (h : x.so = 4) {k : Kn} (hk : CY ks x.id = some k) (hp : k.par = none) : Ce ks x = none := by
 unfold Ce;rw [if_neg (by omega), if_neg (by omega), if_neg (by omega), if_pos h, hk];dsimp only;rw [hp]
theorem ID (h : x.so = 4) {k : Kn} (hk : CY ks x.id = some k) (hc : ¬ (Dk ks x /\ x.af ≠ x.id /\ ¬ E6 ks x.pa x.id)) : Ce ks x = none := by
 unfold Ce;rw [if_neg (by omega), if_neg (by omega), if_neg (by omega), if_pos h, hk];dsimp only;cases k.par with
 | none => rfl
 | some q => dsimp only; rw [if_neg hc]
theorem Ov (h : x.so = 4) {k : Kn} (hk : CY ks x.id = some k) {q : Int} (hp : k.par = some q) (hc : Dk ks x /\ x.af ≠ x.id /\ ¬ E6 ks x.pa x.id) : Ce ks x = some (Ch ks q x) := by
 unfold Ce;rw [if_neg (by omega), if_neg (by omega), if_neg (by omega), if_pos h, hk];dsimp only;rw [hp];dsimp only;rw [if_pos hc]
theorem N5 (h1 : x.so ≠ 1) (h2 : x.so ≠ 2) (h3 : x.so ≠ 3) (h4 : x.so ≠ 4) : Ce ks x = none := by
 unfold Ce;rw [if_neg h1, if_neg h2, if_neg h3, if_neg h4]
theorem Eb (I : CQ ks) (hz : ks[0]?.map (·.id) = some 0) {j : Nat} {k : Kn} (hj : ks[j]? = some k) : j = 0 ↔ k.par = none := by
 rw [I.root k (Pm hj)];constructor
 ·rintro rfl;rw [hj] at hz;exact Px hz
 ·intro e;have hl := (Pf.1 hj).1;have h2 := Ea (ks.map (·.id)) 0 k.id j I.nodup (by rw [PU, hj]; rfl);have h3 := Ea (ks.map (·.id)) 0 0 0 I.nodup (by rw [PU]; exact hz);rw [e] at h2;rw [h2] at h3;omega
end
end Go.Proofs.Q
namespace Go.Proofs.Q
open Go.RowKit Go.Proofs.V.Words Go.Proofs.V.Last Go.Proofs.V.More
mutual
theorem Jp : ∀ (x : B8), BT x <= 1000000 -> Ev (fun k => AJ.f k x.f0 x.f1 x.f2 x.f3) (x.f0, x.f1, x.f2, x.f3)
 | ⟨a, b, c, l⟩, hn => by
  simp only [BT] at hn;have h := I7 l [] a b c a b c (by simp; omega);exact Ev.step h
theorem I7 : ∀ (r done : List B8) (a : Int) (b c : ByteArray) (a' : Int) (b' c' : ByteArray), done.length + BE r <= 1000000 ->
    Ev (fun k => AJ.l0 k (done.length : Int) a b c (done ++ r) a' b' c' done) (a', b', c', done ++ r)
  | [], done, a, b, c, a', b', c', hn => by
    refine Ev.step (Ev.of fun k => ?_);rw [AJ.l0, if_neg (by simp)];simp
  | y :: r, done, a, b, c, a', b', c', hn => by
    simp only [BE] at hn;have hp : 0 < BT y := by have := Il y; rwa [Cm] at this
    have h := I7 r (done ++ [y]) a b c a' b' c' (by simp; omega);have ey : (⟨y.f0, y.f1, y.f2, y.f3⟩ : B8) = y := by cases y; rfl
    refine Ev.step (Ev.congr (Ev.bind (Jp y (by omega)) (f := fun k bt389 => (if done.length < 2199023255552 then (AJ.l0 k ((done.length : Int) + 1) a b c (done ++ y :: r) a' b' c' (done ++ [(⟨bt389.1, bt389.2.1, bt389.2.2.1, bt389.2.2.2⟩ : B8)])) else (none))) (u := (a', b', c', done ++ y :: r)) ?_) fun k => ?_)
    · have h2 : Ev (fun k => AJ.l0 k ((done.length : Int) + 1) a b c (done ++ y :: r) a' b' c' (done ++ [y])) (a', b', c', done ++ y :: r) := by
        have e1 : done ++ [y] ++ r = done ++ y :: r := by simp
        rw [e1] at h;exact Ev.congr h fun k => by simp
      refine Ev.congr h2 fun k => ?_
      simp only [ey];rw [if_pos (by omega)]
    · show AJ.l0 (k + 1) _ _ _ _ _ _ _ _ _ = _
      rw [AJ.l0, if_pos (by simp; omega), if_pos (by omega), F5, Ik (by omega) (by omega)]
end
end Go.Proofs.Q
namespace Go.Proofs.Q
open Go Go.RowKit Go.Lib Go.Sort Go.Proofs.V.Words Go.Proofs.V.Last Go.Proofs.V.More Go.Proofs.V.SL
section
variable (x : B8)
theorem LR (m : Int) (h0 : 1 <= m) (h1 : m <= 2000) : ∃ b : Bool, (b = true -> (BT x : Int) <= m /\ ∀ y ∈ pre x, y.f1.size <= 50000 /\ y.f2.size <= 50000) /\ ∀ (W : Pe) (A : Option Addr) (c : Nat), Kd.C AY W A x.f3.length x.f3 -> x.f3.length <= c ->
  PJ Try.prog 6 #[.agg #[.int .i64 x.f0, .string x.f1, .string x.f2, .slice A x.f3.length c], .int .i64 m] W fun e w' => e = .returned (.bool b) /\ Below W.heap.size W w' := by
 obtain ⟨b, hb, hm⟩ := O8 x m h0 h1;obtain ⟨k, hk⟩ := hb.has;exact ⟨b, hm, fun W A c hC hc => CS.calls k x.f0 x.f1 x.f2 A c x.f3 m b W hC hc hk⟩
theorem K6 (hn : BT x <= 1000000) (W : Pe) (A : Option Addr) (c : Nat) (hC : Kd.C AY W A x.f3.length x.f3) (hc : x.f3.length <= c) :
  PJ Try.prog 8 #[.agg #[.int .i64 x.f0, .string x.f1, .string x.f2, .slice A x.f3.length c]] W fun e w' => ∃ B d, e = .returned (.agg #[.int .i64 x.f0, .string x.f1, .string x.f2, .slice B x.f3.length d]) /\ Below W.heap.size W w' /\ (AF AY B d x.f3).P w' (fun k => W.heap.size <= k /\ k < w'.heap.size) := by
 obtain ⟨k, hk⟩ := (Jp x hn).has;refine (AJ.calls k x.f0 x.f1 x.f2 A c x.f3 x.f0 x.f1 x.f2 x.f3 W hC hc hk).mono ?_;rintro e w' ⟨v, rfl, hR, hb⟩;obtain ⟨A1, c1, rfl, hP⟩ := Gc hR;exact ⟨A1, c1, rfl, hb, hP⟩
theorem K7 (hn : BT x <= 1000000) (y : B8) : ∃ b : Bool, (b = true ↔ x = y) /\ ∀ (W : Pe) (A B : Option Addr) (c d : Nat), Kd.C AY W A x.f3.length x.f3 -> x.f3.length <= c -> Kd.C AY W B y.f3.length y.f3 -> y.f3.length <= d ->
  PJ Try.prog 14 #[.agg #[.int .i64 x.f0, .string x.f1, .string x.f2, .slice A x.f3.length c], .agg #[.int .i64 y.f0, .string y.f1, .string y.f2, .slice B y.f3.length d]] W fun e w' => e = .returned (.bool b) /\ Below W.heap.size W w' := by
 obtain ⟨b, hb, hbt⟩ := IA x y hn;obtain ⟨k, hk⟩ := hb.has;exact ⟨b, hbt, fun W A B c d hA hc hB hd => Af.calls k x.f0 x.f1 x.f2 A c x.f3 y.f0 y.f1 y.f2 B d y.f3 b W hA hc hB hd hk⟩
theorem LS (hn : BT x <= 1000000) (W : Pe) (A B : Option Addr) (c d : Nat) (hA : Kd.C AY W A x.f3.length x.f3) (hc : x.f3.length <= c) (hB : Kd.C AY W B x.f3.length x.f3) (hd : x.f3.length <= d) :
  PJ Try.prog 14 #[.agg #[.int .i64 x.f0, .string x.f1, .string x.f2, .slice A x.f3.length c], .agg #[.int .i64 x.f0, .string x.f1, .string x.f2, .slice B x.f3.length d]] W fun e w' => e = .returned (.bool true) /\ Below W.heap.size W w' := by
 obtain ⟨b, hb, h⟩ := K7 x hn x;obtain rfl := hb.2 rfl;exact h W A B c d hA hc hB hd
end
end Go.Proofs.Q
namespace Go.Proofs.Q
open Go Go.RowKit Go.Proofs.V.Words Go.Proofs.V.SL
def Jq (x : Dm) : Ee := ⟨x.f0, x.f1, x.f2, x.f3, x.f4, x.f5, x.f6⟩
theorem GQ {x : B8} (h : CX x) {i : Nat} (hi : i < (Bk x).N.length) : (Bd x)[i]? = some (GB (Bk x).N (Bk x).P (Bk x).N.length i) := by
 have hg := HU (N := (Bk x).N) h.up (Bk x).N.length (Ps _) i hi;obtain ⟨hm, hid⟩ := Cn hg;obtain ⟨j, hj⟩ := List.getElem?_of_mem hm;have h1 : ((Bd x).map (·.id))[j]? = some (i : Int) := by rw [PU]; show (Bn _ _ _)[j]?.map _ = _; rw [hj]; exact congrArg some hid
 unfold Bd at h1;rw [CN, PU] at h1;have hj2 : j < (Bk x).N.length := by
  have := (Pf.1 hj).1;have h2 := D4 x;unfold Bd at h2;omega
 rw [List.getElem?_range hj2] at h1;simp at h1;have : j = i := by omega
 subst this;exact hj
theorem Jr {x : B8} (h : CX x) {i : Nat} (hi : i < (Bk x).N.length) : ((Bd x).map As)[i]? = some ⟨(i : Int), ⟨((Bk x).N.getD i D0).f0, ((Bk x).N.getD i D0).f1, ((Bk x).N.getD i D0).f2, []⟩, (Bk x).K.getD i []⟩ := by
 rw [PU, GQ h hi];have hP0 : (Bk x).P.getD 0 0 = -1 := (FM x (-1) ⟨[], [], [], []⟩ ⟨rfl, fun j _ hj => by simp at hj⟩ ⟨rfl, rfl, rfl⟩ (by simp) (fun h => by simp at h)).1;have hs := CD (P := (Bk x).P) (a := 0) (m := 1) (b := (Bk x).N.length) (i := i) (by omega) (by omega);rw [Cq (a := 0) (b := 1) (fun q g1 g2 => by rw [show q = 0 by omega, hP0]; omega), Pu] at hs;rw [JR x hi, hs];rfl
theorem IE {x : B8} (h : CX x) : (Bd x)[0]?.map (·.id) = some 0 := by
 rw [GQ h (by rw [h.len]; exact h.pos)];rfl
theorem K8 {ks ks' : List Kn} {x : Ed} (I : CQ ks) (hz : ks[0]?.map (·.id) = some 0) (h : Ce ks x = some ks') : ks'[0]?.map (·.id) = some 0 := by
 obtain ⟨r, hr, hri⟩ := Option.map_eq_some_iff.1 hz;have hu : ∀ (g : List Kn) (i : Int) (f : Kn -> Kn), (∀ k, (f k).id = k.id) -> g[0]?.map (·.id) = some 0 -> (BN g i f)[0]?.map (·.id) = some 0 := fun g i f hf hg => by
  have := congrArg (fun l => l[0]?) (C2 (g := g) (i := i) hf);simp only [PU] at this;rw [this]; exact hg
 unfold Ce at h
 split at h
 ·split at h
  ·injection h with h
   subst h;unfold EU;have := hu ks x.pa (Kn.ins x) (FL x) hz;cases hq : (BN ks x.pa (Kn.ins x))[0]? with
   | none => rw [hq] at this; cases this
   | some k =>
    rw [PQ (Pf.1 hq).1, hq];rw [hq] at this; exact this
  ·cases h
 split at h
 ·split at h
  ·cases h
  ·rename_i k hk
   split at h
   ·cases h
   ·rename_i q hq
    split at h
    ·injection h with h
     subst h;unfold CW;have h1 := hu ks q (Kn.cut x.id) (E7 x.id) hz;obtain ⟨hkm, hki⟩ := Cn hk;have hne : x.id ≠ 0 := fun e => by
      have := (I.root k hkm).2 (by rw [hki, e]);rw [this] at hq; cases hq
     cases hl : BN ks q (Kn.cut x.id) with
     | nil => rw [hl] at h1; cases h1
     | cons a t =>
      rw [hl] at h1;have ha : a.id = 0 := by simpa using h1
      rw [List.filter_cons_of_pos (by simp; omega)];simp [ha]
    ·cases h
 split at h
 ·split at h
  ·cases h
  ·injection h with h
   subst h;exact hu ks x.id _ (fun _ => rfl) hz
 split at h
 ·split at h
  ·cases h
  ·split at h
   ·cases h
   ·split at h
    ·injection h with h
     subst h;exact hu _ _ _ (fun _ => rfl) (hu _ _ _ (FL x) (hu _ _ _ (E7 x.id) hz))
    ·cases h
 ·cases h
section
variable {w0 W : Pe} {Z : Nat -> Prop} {L : List Bj} {F : List FA} {B i n c : Nat} {A : Option Addr} {ks : List Kn}
theorem NG (S : Au w0 Z L F W) (hi : L[i]? = some (Bo CL 66 B (.slice A n c) (ks.map As))) (I : CQ ks) (hl : ks.length <= 1000000) (h0 : (0 : Int) ∈ ks.map (·.id)) :
  PJ Try.prog 24 #[.slice A n c, .int .i64 0] W fun e w' => ∃ A' c', e = .returned (.agg #[.int .i64 (BH ks 0).f0, .string (BH ks 0).f1, .string (BH ks 0).f2, .slice A' (BH ks 0).f3.length c']) /\ Below W.heap.size W w' /\ (AF AY A' c' (BH ks 0).f3).P w' (fun k => W.heap.size <= k /\ k < w'.heap.size) := by
 obtain ⟨hn, hc, hC⟩ := DU S hi;obtain ⟨k, hk, e0⟩ := List.mem_map.1 h0;have hg := MN I hl k hk;rw [e0] at hg;obtain ⟨m, hm⟩ := hg.has;have h := Ay.calls m A c (ks.map As) 0 _ _ _ _ W hC (by simp; omega) hm;rw [PM, <- hn] at h;refine h.mono ?_;rintro e w' ⟨v, rfl, hR, hb⟩;obtain ⟨A', c', rfl, hP⟩ := Gc hR;exact ⟨A', c', rfl, hb, hP⟩
theorem K9 (S : Au w0 Z L F W) (hB : B <= W.heap.size) : Au w0 Z (Bo (Kd.int .i64) 3 B (.slice (some ⟨W.heap.size, 0, none⟩) 0 0) [] :: L) F (W.alloc (.cells #[] 3)) :=
 S.more (a := Bo (Kd.int .i64) 3 B (.slice (some ⟨W.heap.size, 0, none⟩) 0 0) []) (f := fun k => k = W.heap.size) (Ah (Pn _ _) _)
  ⟨fun k hk => by rw [hk]; simp, fun k hk => by simp [PT] at hk; exact hk.symm, [], ⟨rfl, .inr ⟨W.heap.size, 0, #[], rfl, hB, Pv W _, Ps _, by decide, rfl, rfl⟩⟩, Cj.none _ _⟩ (fun k hk => by omega)
end
end Go.Proofs.Q
