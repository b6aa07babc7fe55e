/- The texts of this claim that lie below its row, in their order: Qx3 GUp Gh GKg GDa GRi GB GF GD GP GOa GQ GSf GTb GSo. -/
import Derived.Deep.RegionLaw
import Derived.Deep.DeepCutAuto
import Derived.Deep.QuietTactic
import Derived.BigQuiet
import Derived.Test.YtfmlpkeaiohknaaZA8
set_option linter.unusedVariables false
set_option linter.unusedSimpArgs false
set_option maxHeartbeats 16000000
set_option maxRecDepth 100000
open Bool renaming false -> BK, or_eq_true -> Rg, and_eq_true -> PI
open Go renaming World -> Pe, Calls -> PJ, Value -> Pd, bodyPost_ret -> Qf, maxLen -> R7, heap_alloc_new -> Pv, wpList -> QD
open Go.Act renaming put -> Ph
open Go.Result renaming andThen -> Sw
open Go.RowKit renaming wrap64 -> Pq
open Go.RowKit.Below renaming refl -> Pn
open Go.Value renaming int -> PE
open Go.World renaming block_lt_of_cell? -> Pb, cell?_alloc_lt -> QH
open Int renaming toNat_natCast -> PO
open List renaming setIfInBounds_toArray -> GW, set_cons_zero -> Pa, set_cons_succ -> NB, map_nil -> PZ, length_append -> PK, getD_eq_getElem?_getD -> Pt, getElem?_append_left -> PQ, getElem?_append_right -> PY, map_append -> Qs, filter_append -> Sc, filter_cons_of_pos -> Qv, nil_append -> Pu, append_nil -> Qd, length_set -> Q6, append_assoc -> PP, getElem?_set_ne -> Q4, getElem?_eq_some_iff -> Pf, mem_singleton -> PC, mem_map -> PF, mem_append_left -> Sg, perm_append_comm -> Q8, replicate -> Pz, mem_filter -> Qp, mem_cons -> Qg, getElem?_eq_getElem -> Pg, drop_eq_getElem_cons -> R6, set_append_right -> QN
open List.Perm renaming swap -> Qq
open Nat renaming ne_of_lt -> Re, ne_of_gt -> Rb, le_refl -> Ps, zero_le -> Qa, add_sub_cancel_left -> Q2, mul_one -> RG
open Ne renaming symm -> Ry
open Option renaming bind_some -> Pj
open Option.some renaming injEq -> QA, inj -> Px
open Or renaming inl -> PD
open Prod.mk renaming injEq -> QQ
namespace Go.Proofs.Q
open Go.RowKit Go.Proofs.V.Words Go.Proofs.V.Last Go.Proofs.V.More
attribute [local go_sem] BI BJ BY BZ Bu Bv BL BM   -- for this text's walks alone
mutual
def AJ.l0 : Nat -> Int -> Int -> ByteArray -> ByteArray -> List (B8) -> Int -> ByteArray -> ByteArray -> List (B8) -> Option (Int × ByteArray × ByteArray × (List (B8)))
 | 0, _, _, _, _, _, _, _, _, _ => none
 | k + 1, x4, x160000, x160001, x160002, x160003, x162000, x162001, x162002, x162003 => if x4 < (x160003.length : Int) then (if 0 <= x4 then ((AJ.f k ((Aj x160003 x4).f0) ((Aj x160003 x4).f1) ((Aj x160003 x4).f2) ((Aj x160003 x4).f3)).bind fun bt163 => (if x162003.length < 2199023255552 then (AJ.l0 k (Pq (x4 + 1)) x160000 x160001 x160002 x160003 x162000 x162001 x162002 (x162003 ++ [(⟨bt163.1, bt163.2.1, bt163.2.2.1, bt163.2.2.2⟩ : B8)])) else (none))) else (none)) else (some (x162000, x162001, x162002, x162003))
def AJ.f : Nat -> Int -> ByteArray -> ByteArray -> List (B8) -> Option (Int × ByteArray × ByteArray × (List (B8)))
 | 0, _, _, _, _ => none
 | k + 1, a0_0, a0_1, a0_2, l0_3 => AJ.l0 k 0 a0_0 a0_1 a0_2 l0_3 a0_0 a0_1 a0_2 ([] : List (B8))
end
def AJ.T5 : Bool × List (List Nat × List Nat) := (true, [([], []), ([0], [0]), ([], []), ([2], [2]), ([], []), ([3, 4], [3, 4]), ([5], [5]), ([6], [6]), ([7], [7]), ([1, 8, 7], [1, 8]), ([0, 1, 2, 3, 4, 5, 6, 7, 8, 9], []), ([10, 9, 9, 0, 1, 2, 3, 4, 5, 6, 7, 8, 9], [9, 10])])
def AJ.B5 : List Nat := [0, 1, 0, 4, 0, 28, 60, 124, 252, 511, 1023, 2047]
theorem AJ.tab5 : Cd .any (DP Try.f8 5) = AJ.T5 := by kernel_rfl
theorem AJ.bits5 : C0 AJ.T5.2 AJ.B5 = true := by kernel_rfl
theorem AJ.calls (k : Nat) : ∀ (a0_0 : Int) (a0_1 : ByteArray) (a0_2 : ByteArray) (A0_3 : Option Addr) (c0_3 : Nat) (l0_3 : List (B8)) (r1 : Int) (r2 : ByteArray) (r3 : ByteArray) (r4 : List (B8)) (w : Pe) (hr0_3 : Kd.C AY w A0_3 l0_3.length l0_3) (hc0_3 : l0_3.length <= c0_3) (h : AJ.f k a0_0 a0_1 a0_2 l0_3 = some (r1, r2, r3, r4)),
  PJ Try.prog 8 #[.agg #[.int .i64 a0_0, .string a0_1, .string a0_2, .slice A0_3 l0_3.length c0_3]] w fun e w' => ∃ v3_ : Pd, e = .returned (.agg #[.int .i64 r1, .string r2, .string r3, v3_]) /\ Kd.R AY 24 w' w.heap.size (fun _ => True) v3_ r4 /\ Below w.heap.size w w' := by
 induction k using Nat.strongRecOn with
 | _ k ih =>
 intro a0_0 a0_1 a0_2 A0_3 c0_3 l0_3 r1 r2 r3 r4 w hr0_3 hc0_3 h;cases k with
 | zero => exact absurd h (by simp [AJ.f])
 | succ k =>
 simp only [AJ.f] at h;have HR0_3 := A7.mk hr0_3;have HC0_3 := A7.mk hc0_3;clear hr0_3 hc0_3;have HB := A7.mk (Pn w.heap.size w);have H : (AJ.l0 k 0 a0_0 a0_1 a0_2 l0_3 a0_0 a0_1 a0_2 ([] : List (B8))) = some (r1, r2, r3, r4) := h;clear h;have H' := A7.mk H;clear H;go_enter Try.func8, Try.ntmps8
 go_wp2_with (first | ((with_reducible refine AE (N := 1) rfl ?_); refine Aw ?hg (N := 1) ?hd (cs := #[.int .i64 a0_0, .string a0_1, .string a0_2, .slice A0_3 l0_3.length c0_3]) (t := 24) ?hr ?_; (case hd => rfl); (case hg => rfl); (case hr => go_simp); intro gb159 hg w2 hbox hb; have n0_ := A7.mk (AT Go.Z.h0 hb); have n1_ := A7.mk (hbox); have n2_ := A7.mk ((by rw [hg]; exact (Aq Go.Z.h0) : w.heap.size <= gb159)); have n3_ := A7.mk ((by rw [hg]; exact (Aq Go.Z.h0) : w.heap.size <= gb159)); clear HB; have HB := n0_; have BK159 := n1_; have GW159 := n2_; have GE159 := n3_; clear n0_ n1_ n2_ n3_; clear hb hbox hg) | ((with_reducible refine AE (N := 2) rfl ?_); refine Aw ?hg (N := 2) ?hd (cs := #[.int .i64 0, .string (⟨#[]⟩ : ByteArray), .string (⟨#[]⟩ : ByteArray), .slice none 0 0]) (t := 24) ?hr ?_; (case hd => rfl); (case hg => rfl); (case hr => go_simp); intro gb160 hg w3 hbox hb; have n0_ := A7.mk (Bf (g := gb159) (o := .cells #[.int .i64 a0_0, .string a0_1, .string a0_2, .slice A0_3 l0_3.length c0_3] 24 (0, 0)) (Go.Z.k BK159.out) hb); have n1_ := A7.mk (AT (Go.Z.h1 GE159.out) hb); have n2_ := A7.mk (hbox); have n3_ := A7.mk ((by rw [hg]; exact (Aq (Go.Z.h1 GE159.out)) : w.heap.size <= gb160)); have n4_ := A7.mk ((by rw [hg]; exact (Aq (Go.Z.h1 GE159.out)) : w.heap.size <= gb160)); have n5_ := A7.mk ((by rw [hg]; exact Re (BG (g := gb159) (o := .cells #[.int .i64 a0_0, .string a0_1, .string a0_2, .slice A0_3 l0_3.length c0_3] 24 (0, 0)) (Go.Z.k BK159.out)) : gb159 ≠ gb160)); have n6_ := A7.mk ((by rw [hg]; exact Rb (BG (g := gb159) (o := .cells #[.int .i64 a0_0, .string a0_1, .string a0_2, .slice A0_3 l0_3.length c0_3] 24 (0, 0)) (Go.Z.k BK159.out)) : gb160 ≠ gb159)); clear BK159; clear HB; have BK159 := n0_; have HB := n1_; have BK160 := n2_; have GW160 := n3_; have GE160 := n4_; have NB159_160 := n5_; have NB160_159 := n6_; clear n0_ n1_ n2_ n3_ n4_ n5_ n6_; clear hb hbox hg; have hnb4 := NB159_160.out; have hnc4 := NB160_159.out; have hcz5_0 : w3.cell? ⟨gb159, 0, none⟩ = some (.int .i64 a0_0) := (Aa BK159.out 0).trans rfl; have hcz5_1 : w3.cell? ⟨gb159, 1, none⟩ = some (.string a0_1) := (Aa BK159.out 1).trans rfl; have hcz5_2 : w3.cell? ⟨gb159, 2, none⟩ = some (.string a0_2) := (Aa BK159.out 2).trans rfl; have hcz5_3 : w3.cell? ⟨gb159, 3, none⟩ = some (.slice A0_3 l0_3.length c0_3) := (Aa BK159.out 3).trans rfl; have hfz5_0 := Ad BK159.out 0; have hfz5_1 := Ad BK159.out 1; have hfz5_2 := Ad BK159.out 2; have hfz5_3 := Ad BK159.out 3) | ((with_reducible refine AE (N := 3) rfl ?_); refine Aw ?hg (N := 3) ?hd (cs := #[.int .i64 0, .string (⟨#[]⟩ : ByteArray), .string (⟨#[]⟩ : ByteArray), .slice none 0 0]) (t := 24) ?hr ?_; (case hd => rfl); (case hg => rfl); (case hr => go_simp); intro gb161 hg w6 hbox hb; have n0_ := A7.mk (Bf (g := gb159) (o := .cells #[.int .i64 a0_0, .string a0_1, .string a0_2, .slice A0_3 l0_3.length c0_3] 24 (0, 0)) (Go.Z.k BK159.out) hb); have n1_ := A7.mk (Bf (g := gb160) (o := .cells #[.int .i64 0, .string (⟨#[]⟩ : ByteArray), .string (⟨#[]⟩ : ByteArray), .slice none 0 0] 24 (0, 0)) (Go.Z.k BK160.out) hb); have n2_ := A7.mk (AT (Go.Z.h2 GE159.out GE160.out) hb); have n3_ := A7.mk (hbox); have n4_ := A7.mk ((by rw [hg]; exact (Aq (Go.Z.h2 GE159.out GE160.out)) : w.heap.size <= gb161)); have n5_ := A7.mk ((by rw [hg]; exact (Aq (Go.Z.h2 GE159.out GE160.out)) : w.heap.size <= gb161)); have n6_ := A7.mk ((by rw [hg]; exact Re (BG (g := gb159) (o := .cells #[.int .i64 a0_0, .string a0_1, .string a0_2, .slice A0_3 l0_3.length c0_3] 24 (0, 0)) (Go.Z.k BK159.out)) : gb159 ≠ gb161)); have n7_ := A7.mk ((by rw [hg]; exact Rb (BG (g := gb159) (o := .cells #[.int .i64 a0_0, .string a0_1, .string a0_2, .slice A0_3 l0_3.length c0_3] 24 (0, 0)) (Go.Z.k BK159.out)) : gb161 ≠ gb159)); have n8_ := A7.mk ((by rw [hg]; exact Re (BG (g := gb160) (o := .cells #[.int .i64 0, .string (⟨#[]⟩ : ByteArray), .string (⟨#[]⟩ : ByteArray), .slice none 0 0] 24 (0, 0)) (Go.Z.k BK160.out)) : gb160 ≠ gb161)); have n9_ := A7.mk ((by rw [hg]; exact Rb (BG (g := gb160) (o := .cells #[.int .i64 0, .string (⟨#[]⟩ : ByteArray), .string (⟨#[]⟩ : ByteArray), .slice none 0 0] 24 (0, 0)) (Go.Z.k BK160.out)) : gb161 ≠ gb160)); clear BK159; clear BK160; clear HB; have BK159 := n0_; have BK160 := n1_; have HB := n2_; have BK161 := n3_; have GW161 := n4_; have GE161 := n5_; have NB159_161 := n6_; have NB161_159 := n7_; have NB160_161 := n8_; have NB161_160 := n9_; clear n0_ n1_ n2_ n3_ n4_ n5_ n6_ n7_ n8_ n9_; clear hb hbox hg; have hnb7 := NB161_159.out; have hnc7 := NB159_161.out; have hnb8 := NB161_160.out; have hnc8 := NB160_161.out; have hcz9_0 : w6.cell? ⟨gb161, 0, none⟩ = some (.int .i64 0) := (Aa BK161.out 0).trans rfl; have hcz9_1 : w6.cell? ⟨gb161, 1, none⟩ = some (.string (⟨#[]⟩ : ByteArray)) := (Aa BK161.out 1).trans rfl; have hcz9_2 : w6.cell? ⟨gb161, 2, none⟩ = some (.string (⟨#[]⟩ : ByteArray)) := (Aa BK161.out 2).trans rfl; have hcz9_3 : w6.cell? ⟨gb161, 3, none⟩ = some (.slice none 0 0) := (Aa BK161.out 3).trans rfl; have hfz9_0 := Ad BK161.out 0; have hfz9_1 := Ad BK161.out 1; have hfz9_2 := Ad BK161.out 2; have hfz9_3 := Ad BK161.out 3))
 go_loopg [4] k (fun kq v4 w' => ∃ (x4_1 : Int) (x162003_1 : List (B8)) (u162003 : Pd), v4 = .int .i64 x4_1 /\ A7 (AJ.l0 kq x4_1 a0_0 a0_1 a0_2 l0_3 a0_0 a0_1 a0_2 x162003_1 = some (r1, r2, r3, r4)) /\ A7 (kq <= k) /\ A7 (Kd.R AY 24 w' w.heap.size (fun k_ => k_ ≠ gb159 /\ k_ ≠ gb160 /\ k_ ≠ gb161) u162003 x162003_1) /\ A7 (w'.heap[gb159]? = some (.cells #[.int .i64 a0_0, .string a0_1, .string a0_2, (.slice A0_3 l0_3.length c0_3)] 24 (0, 0))) /\ A7 (w'.heap[gb160]? = some (.cells #[.int .i64 0, .string (⟨#[]⟩ : ByteArray), .string (⟨#[]⟩ : ByteArray), (.slice none 0 0)] 24 (0, 0))) /\ A7 (w'.heap[gb161]? = some (.cells #[.int .i64 a0_0, .string a0_1, .string a0_2, u162003] 24 (0, 0))) /\ A7 (Below w.heap.size w w'))
 case atStart => exact ⟨(0), (([] : List (B8))), (.slice none 0 0), rfl, H', ⟨Ps _⟩, ⟨by first | exact Kd.R_nil _ _ _ _ _ | exact Kd.N_nil _ _ _ _ _ | exact Kd.V_nil _ _ _ _ _ | exact Kd.Q_nil _ _ _ _ _ | exact Kd.S_nil _ _ _ _ _⟩, ⟨by (with_reducible repeat (first | refine Ae ?_ _ | refine Ag ?_ | refine Ac ?_ _)); refine Ba ?_ NB159_161.out _; (with_reducible repeat (first | refine Ae ?_ _ | refine Ag ?_ | refine Ac ?_ _)); refine Ba ?_ NB159_161.out _; (with_reducible repeat (first | refine Ae ?_ _ | refine Ag ?_ | refine Ac ?_ _)); refine Ba ?_ NB159_161.out _; (with_reducible repeat (first | refine Ae ?_ _ | refine Ag ?_ | refine Ac ?_ _)); refine Ba ?_ NB159_161.out _; (with_reducible repeat (first | refine Ae ?_ _ | refine Ag ?_ | refine Ac ?_ _)); exact BK159.out⟩, ⟨by (with_reducible repeat (first | refine Ae ?_ _ | refine Ag ?_ | refine Ac ?_ _)); refine Ba ?_ NB160_161.out _; (with_reducible repeat (first | refine Ae ?_ _ | refine Ag ?_ | refine Ac ?_ _)); refine Ba ?_ NB160_161.out _; (with_reducible repeat (first | refine Ae ?_ _ | refine Ag ?_ | refine Ac ?_ _)); refine Ba ?_ NB160_161.out _; (with_reducible repeat (first | refine Ae ?_ _ | refine Ag ?_ | refine Ac ?_ _)); refine Ba ?_ NB160_161.out _; (with_reducible repeat (first | refine Ae ?_ _ | refine Ag ?_ | refine Ac ?_ _)); exact BK160.out⟩, ⟨by (with_reducible repeat (first | refine Ae ?_ _ | refine Ag ?_ | refine Ac ?_ _)); refine AS (cs := #[.int .i64 a0_0, .string a0_1, .string a0_2, .slice none 0 0]) ?_ 3 _ rfl; (with_reducible repeat (first | refine Ae ?_ _ | refine Ag ?_ | refine Ac ?_ _)); refine AS (cs := #[.int .i64 a0_0, .string a0_1, .string (⟨#[]⟩ : ByteArray), .slice none 0 0]) ?_ 2 _ rfl; (with_reducible repeat (first | refine Ae ?_ _ | refine Ag ?_ | refine Ac ?_ _)); refine AS (cs := #[.int .i64 a0_0, .string (⟨#[]⟩ : ByteArray), .string (⟨#[]⟩ : ByteArray), .slice none 0 0]) ?_ 1 _ rfl; (with_reducible repeat (first | refine Ae ?_ _ | refine Ag ?_ | refine Ac ?_ _)); refine AS (cs := #[.int .i64 0, .string (⟨#[]⟩ : ByteArray), .string (⟨#[]⟩ : ByteArray), .slice none 0 0]) ?_ 0 _ rfl; (with_reducible repeat (first | refine Ae ?_ _ | refine Ag ?_ | refine Ac ?_ _)); exact BK161.out⟩, ⟨Go.Z.h3 GE159.out GE160.out GE161.out⟩⟩
 case round =>
  clear H'
  try clear p2
  try clear c4
  try clear c7
  try clear c8
  try clear hcz5_0
  try clear hcz5_1
  try clear hcz5_2
  try clear hcz5_3
  try clear hcz9_0
  try clear hcz9_1
  try clear hcz9_2
  try clear hcz9_3
  try clear hfz5_0
  try clear hfz5_1
  try clear hfz5_2
  try clear hfz5_3
  try clear hfz9_0
  try clear hfz9_1
  try clear hfz9_2
  try clear hfz9_3
  obtain ⟨x4_1, x162003_1, u162003, rfl, HA, HK1, HO_162003, BK159, BK160, BK161, HB⟩ := hrel;cases gk with
  | zero => exact absurd HA.out (by simp [AJ.l0])
  | succ k1 =>
   have H := HA.out;clear HA;simp only [AJ.l0] at H;by_cases c10 : x4_1 < (l0_3.length : Int)
   ·rw [if_pos c10] at H;have c10b0 : decide (x4_1 < (l0_3.length : Int)) = true := decide_eq_true c10;clear c10;by_cases c11 : 0 <= x4_1
    ·rw [if_pos c11] at H;have c11b0 : decide (0 <= x4_1) = true := decide_eq_true c11;clear c11;replace H := Option.bind_eq_some_iff.mp H;obtain ⟨⟨t163, t164, t165, t166⟩, A120, H⟩ := H;have A12 := A7.mk A120;clear A120;by_cases c13 : x162003_1.length < 2199023255552
     ·rw [if_pos c13] at H;have LMc13 := A7.mk c13;clear c13;obtain ⟨y169, hy169⟩ : ∃ y_ : List (B8), y_ = (x162003_1 ++ [(⟨t163, t164, t165, t166⟩ : B8)]) := ⟨_, rfl⟩;replace H : (AJ.l0 k1 (Pq (x4_1 + 1)) a0_0 a0_1 a0_2 l0_3 a0_0 a0_1 a0_2 y169) = some (r1, r2, r3, r4) := by first | (rw [hy169]; with_reducible exact H) | (have H2_ := (Pj _ _).symm.trans H; rw [hy169]; with_reducible exact H2_) | (have H2_ := (Pj _ _).symm.trans H; with_reducible exact H2_) | with_reducible exact H | (rw [hy169]; exact H) | exact H
      have Ny169 := A7.mk hy169;clear hy169;have H' := A7.mk H;clear H;obtain ⟨⟨hcz16_0, hcz16_1, hcz16_2, hcz16_3⟩, hfz16_0, hfz16_1, hfz16_2, hfz16_3⟩ := Go.Z.b4 BK159.out
      try go_wp2
      have n0_ := A7.mk (Kd.R_drew HO_162003.out);have n1_ := A7.mk (Ag BK159.out);have n2_ := A7.mk (Ag BK160.out);have n3_ := A7.mk (Ag BK161.out);have n4_ := A7.mk (AD HB.out);clear HO_162003;clear BK159;clear BK160;clear BK161;clear HB;have HO_162003 := n0_;have BK159 := n1_;have BK160 := n2_;have BK161 := n3_;have HB := n4_;clear n0_ n1_ n2_ n3_ n4_;have p162 : 0 <= (x4_1 : Int) := of_decide_eq_true (by first | (with_reducible assumption) | assumption);have q162 : x4_1 < (l0_3.length : Int) := of_decide_eq_true (by first | (with_reducible assumption) | assumption);obtain ⟨ad162, A162_3, c162_3, e162, hx162_0, hx162_1, hx162_2, hx162_3, hl162_3, hi162_3⟩ := Cw HR0_3.out x4_1 p162 q162;have hw162_3 := hx162_3;have hw162_2 := hx162_2;have hw162_1 := hx162_1;have hw162_0 := hx162_0;cases e162;have HR162_3 := A7.mk hi162_3;have HC162_3 := A7.mk hl162_3;clear hi162_3 hl162_3;refine Cu (n := 12) (S := fun w' => w'.cell? ⟨gb161, 0, none⟩ = some (.int .i64 a0_0) /\ w'.cell? ⟨gb161, 1, none⟩ = some (.string a0_1) /\ w'.cell? ⟨gb161, 2, none⟩ = some (.string a0_2) /\ w'.cell? ⟨gb161, 3, none⟩ = some (u162003) /\ w'.cell? ⟨gb159, 0, none⟩ = some (.int .i64 a0_0) /\ w'.cell? ⟨gb159, 1, none⟩ = some (.string a0_1) /\ w'.cell? ⟨gb159, 2, none⟩ = some (.string a0_2) /\ w'.cell? ⟨gb159, 3, none⟩ = some (.slice (some ad162) l0_3.length c0_3) /\ w'.cell? (ad162.add ((x4_1).toNat * 4)) = some (.int .i64 ((Aj l0_3 x4_1).f0)) /\ w'.cell? ⟨(ad162.add ((x4_1).toNat * 4)).block, (ad162.add ((x4_1).toNat * 4)).off + 1, none⟩ = some (.string ((Aj l0_3 x4_1).f1)) /\ w'.cell? ⟨(ad162.add ((x4_1).toNat * 4)).block, (ad162.add ((x4_1).toNat * 4)).off + 2, none⟩ = some (.string ((Aj l0_3 x4_1).f2)) /\ w'.cell? ⟨(ad162.add ((x4_1).toNat * 4)).block, (ad162.add ((x4_1).toNat * 4)).off + 3, none⟩ = some (.slice A162_3 ((Aj l0_3 x4_1).f3).length c162_3)) (ds := [11]) #[BK, BK, BK, BK, BK, BK, BK, BK, BK, BK, BK, BK] (by kernel_rfl) rfl rfl ⟨(Aa BK161.out 0).trans rfl, (Aa BK161.out 1).trans rfl, (Aa BK161.out 2).trans rfl, (Aa BK161.out 3).trans rfl, (Aa BK159.out 0).trans rfl, (Aa BK159.out 1).trans rfl, (Aa BK159.out 2).trans rfl, (Aa BK159.out 3).trans rfl, ((HB.out.cell (Pb w _ hw162_0)).trans hw162_0), ((HB.out.cell (Pb w _ hw162_1)).trans hw162_1), ((HB.out.cell (Pb w _ hw162_2)).trans hw162_2), ((HB.out.cell (Pb w _ hw162_3)).trans hw162_3)⟩ (fun hHeld => ?_); refine BQ AJ.tab5 AJ.bits5 (fun HT_ HW_ => ?_);generalize wr.drew = w17 at HO_162003 BK159 BK160 BK161 HB HR162_3 hx162_0 hx162_1 hx162_2 hx162_3 hHeld ⊢;refine AM (i := 0) (N := some 19) (v := ?_) (a' := ?_) #[true, BK, BK, BK, BK, BK, BK, BK, BK, BK, BK, BK] rfl rfl (AA HT_.out (by kernel_rfl)) (fun _ _ _ h => h) (PD ⟨by rfl, ?_⟩) ?_ ?_;rotate_left
      ·intro w';go_simp
       with_reducible rfl
      rotate_left
      ·simp only [Ph, GW, Pa, NB, Ar, AB];rfl
      refine AM (i := 2) (N := some 21) (v := ?_) (a' := ?_) #[true, BK, true, BK, BK, BK, BK, BK, BK, BK, BK, BK] rfl rfl (AA HT_.out (by kernel_rfl)) (fun _ _ _ h => h) (PD ⟨by rfl, ?_⟩) ?_ ?_;rotate_left
      ·intro w';go_simp
       with_reducible rfl
      rotate_left
      ·simp only [Ph, GW, Pa, NB, Ar, AB];rfl
      refine AM (i := 4) (N := some 23) (v := ?_) (a' := ?_) #[true, BK, true, BK, true, BK, BK, BK, BK, BK, BK, BK] rfl rfl (AA HT_.out (by kernel_rfl)) (fun _ _ _ h => h) (PD ⟨by rfl, ?_⟩) ?_ ?_;rotate_left
      ·intro w';go_simp
       with_reducible rfl
      rotate_left
      ·simp only [Ph, GW, Pa, NB, Ar, AB];rfl
      refine take_ (i := 1) (N := some 20) (v := ?_) (a' := ?_) #[true, true, true, BK, true, BK, BK, BK, BK, BK, BK, BK] rfl rfl (BC HT_.out HW_.out (by kernel_rfl)) (fun _ _ _ h => h) (PD ⟨by rfl, ?_⟩) hHeld ?_ ?_;rotate_left
      ·rintro w' ⟨s0, s1, s2, s3, s4, s5, s6, s7, s8, s9, s10, s11⟩;go_simp
       with_reducible rfl
      rotate_left
      ·simp only [Ph, GW, Pa, NB, Ar, AB];rfl
      refine take_ (i := 3) (N := some 22) (v := ?_) (a' := ?_) #[true, true, true, true, true, BK, BK, BK, BK, BK, BK, BK] rfl rfl (BC HT_.out HW_.out (by kernel_rfl)) (fun _ _ _ h => h) (PD ⟨by rfl, ?_⟩) hHeld ?_ ?_;rotate_left
      ·rintro w' ⟨s0, s1, s2, s3, s4, s5, s6, s7, s8, s9, s10, s11⟩;go_simp
       with_reducible rfl
      rotate_left
      ·simp only [Ph, GW, Pa, NB, Ar, AB];rfl
      refine AM (i := 5) (N := some 24) (v := ?_) (a' := ?_) #[true, true, true, true, true, true, BK, BK, BK, BK, BK, BK] rfl rfl (AA HT_.out (by kernel_rfl)) (fun _ _ _ h => h) (PD ⟨by rfl, ?_⟩) ?_ ?_;rotate_left
      ·intro w';go_simp
       with_reducible rfl
      rotate_left
      ·simp only [Ph, GW, Pa, NB, Ar, AB];rfl
      refine take_ (i := 6) (N := some 25) (v := ?_) (a' := ?_) #[true, true, true, true, true, true, true, BK, BK, BK, BK, BK] rfl rfl (BC HT_.out HW_.out (by kernel_rfl)) (fun _ _ _ h => h) (PD ⟨by rfl, ?_⟩) hHeld ?_ ?_;rotate_left
      ·rintro w' ⟨s0, s1, s2, s3, s4, s5, s6, s7, s8, s9, s10, s11⟩;go_simp
       with_reducible rfl
      rotate_left
      ·simp only [Ph, GW, Pa, NB, Ar, AB];rfl
      refine DC (i := 7) (N := some 26) #[true, true, true, true, true, true, true, true, BK, BK, BK, BK] rfl rfl (C7 HT_.out (by kernel_rfl)) (by decide) (fun K hK => ?_);refine Du Try.func8 (by kernel_rfl) rfl #[.agg #[.int .i64 ((Aj l0_3 x4_1).f0), .string ((Aj l0_3 x4_1).f1), .string ((Aj l0_3 x4_1).f2), .slice A162_3 ((Aj l0_3 x4_1).f3).length c162_3]] (by rfl) rfl rfl (by (try simp only [List.map_toArray, List.map_cons, PZ]); first | done | rfl | (simp only [List.length_drop, List.length_take]; rfl)) ?_
      with_reducible refine (ih k1 (by have := HK1.out; omega) ((Aj l0_3 x4_1).f0) ((Aj l0_3 x4_1).f1) ((Aj l0_3 x4_1).f2) _ _ ((Aj l0_3 x4_1).f3) t163 t164 t165 t166 _ ?side1 ?side2 A12.out).mono ?_
      (case side1 => repeat (first | exact (Kd.C_below HR162_3.out HB.out) | (with_reducible refine Kd.C_alloc ?_ _) | (with_reducible refine Kd.C_drewN ?_ _) | (with_reducible refine Kd.C_drew ?_)))
      (case side2 => exact HC162_3.out)
      rintro e w18 ⟨v167, rfl, ho0, hb⟩;refine ⟨_, rfl, ?_⟩;have n0_ := A7.mk (Kd.R_elder' (by (with_reducible repeat (first | apply Kd.R_alloc | apply Kd.R_drewN | apply Kd.R_drew)); exact HO_162003.out) (Kd.R_base ho0) hb);have n1_ := A7.mk (Kd.R_lower (Kd.R_newB (Kd.R_newB (Kd.R_newB (Kd.R_new' ho0 (Kd.R_lt (by (with_reducible repeat (first | apply Kd.R_alloc | apply Kd.R_drewN | apply Kd.R_drew)); exact HO_162003.out))) (g := gb159) (o := .cells #[.int .i64 a0_0, .string a0_1, .string a0_2, .slice (some ad162) l0_3.length c0_3] 24 (0, 0)) (Go.Z.k BK159.out)) (g := gb160) (o := .cells #[.int .i64 0, .string (⟨#[]⟩ : ByteArray), .string (⟨#[]⟩ : ByteArray), .slice none 0 0] 24 (0, 0)) (Go.Z.k BK160.out)) (g := gb161) (o := .cells #[.int .i64 a0_0, .string a0_1, .string a0_2, u162003] 24 (0, 0)) (Go.Z.k BK161.out)) (Aq (Go.Z.h3 GE159.out GE160.out GE161.out)));have n2_ := A7.mk (Bf (g := gb159) (o := .cells #[.int .i64 a0_0, .string a0_1, .string a0_2, .slice (some ad162) l0_3.length c0_3] 24 (0, 0)) (Go.Z.k BK159.out) hb);have n3_ := A7.mk (Bf (g := gb160) (o := .cells #[.int .i64 0, .string (⟨#[]⟩ : ByteArray), .string (⟨#[]⟩ : ByteArray), .slice none 0 0] 24 (0, 0)) (Go.Z.k BK160.out) hb);have n4_ := A7.mk (Bf (g := gb161) (o := .cells #[.int .i64 a0_0, .string a0_1, .string a0_2, u162003] 24 (0, 0)) (Go.Z.k BK161.out) hb);have n5_ := A7.mk (AT (Go.Z.h3 GE159.out GE160.out GE161.out) hb);clear HO_162003;clear BK159;clear BK160;clear BK161;clear HB;have HO_162003 := n0_;have HO168 := n1_;have BK159 := n2_;have BK160 := n3_;have BK161 := n4_;have HB := n5_;clear n0_ n1_ n2_ n3_ n4_ n5_;obtain ⟨Ao20, co20, eo20⟩ := Kd.R_slice HO168.out
      (first | subst eo20 | (injection eo20 with f1_ f2_ f3_; have f4_ := f1_.symm; have f5_ := f3_.symm; clear f1_ f2_ f3_; subst f4_; subst f5_))
      refine hK.out _ _ ⟨(Aa BK161.out 0).trans rfl, (Aa BK161.out 1).trans rfl, (Aa BK161.out 2).trans rfl, (Aa BK161.out 3).trans rfl, (Aa BK159.out 0).trans rfl, (Aa BK159.out 1).trans rfl, (Aa BK159.out 2).trans rfl, (Aa BK159.out 3).trans rfl, ((HB.out.cell (Pb w _ hw162_0)).trans hw162_0), ((HB.out.cell (Pb w _ hw162_1)).trans hw162_1), ((HB.out.cell (Pb w _ hw162_2)).trans hw162_2), ((HB.out.cell (Pb w _ hw162_3)).trans hw162_3)⟩ (fun hHeld => ?_);clear hK K;refine CF (a' := ?_) ?_ ?_;rotate_left
      ·show Ph _ (some 26) _ = _
       rfl
      refine DC (i := 8) (N := some 27) #[true, true, true, true, true, true, true, true, true, BK, BK, BK] rfl rfl (C7 HT_.out (by kernel_rfl)) (by decide) (fun K hK => ?_);refine Be (w1 := ?_) (v := ?_) (by rfl) rfl ?_ ?_;rotate_left 2
      ·go_simp;constructor
       ·rfl
       ·rfl
      refine hK.out _ _ ⟨(Aa (Ac BK161.out _) 0).trans rfl, (Aa (Ac BK161.out _) 1).trans rfl, (Aa (Ac BK161.out _) 2).trans rfl, (Aa (Ac BK161.out _) 3).trans rfl, (Aa (Ac BK159.out _) 0).trans rfl, (Aa (Ac BK159.out _) 1).trans rfl, (Aa (Ac BK159.out _) 2).trans rfl, (Aa (Ac BK159.out _) 3).trans rfl, (QH _ _ _ (Pb _ _ (((HB.out.cell (Pb w _ hw162_0)).trans hw162_0)))).trans (((HB.out.cell (Pb w _ hw162_0)).trans hw162_0)), (QH _ _ _ (Pb _ _ (((HB.out.cell (Pb w _ hw162_1)).trans hw162_1)))).trans (((HB.out.cell (Pb w _ hw162_1)).trans hw162_1)), (QH _ _ _ (Pb _ _ (((HB.out.cell (Pb w _ hw162_2)).trans hw162_2)))).trans (((HB.out.cell (Pb w _ hw162_2)).trans hw162_2)), (QH _ _ _ (Pb _ _ (((HB.out.cell (Pb w _ hw162_3)).trans hw162_3)))).trans (((HB.out.cell (Pb w _ hw162_3)).trans hw162_3))⟩ (fun hHeld => ?_);clear hK K;refine CF (a' := ?_) ?_ ?_;rotate_left
      ·show Ph _ (some 27) _ = _
       rfl
      refine DC (i := 9) (N := some 28) #[true, true, true, true, true, true, true, true, true, true, BK, BK] rfl rfl (C7 HT_.out (by kernel_rfl)) (by decide) (fun K hK => ?_);refine Kd.R_append_step AY (w0 := w) w.heap.size (by rfl) (.tmp 20) (.tmp 27) 22 24 (.agg #[(.int .i64 0), (.string ⟨#[]⟩), (.string ⟨#[]⟩), (.slice none 0 0)]) 64 rfl Try.underlying22 El rfl (by decide) (by omega) u162003 x162003_1 (⟨t163, t164, t165, t166⟩ : B8) [.int .i64 t163, .string t164, .string t165, .slice Ao20 t166.length co20] (fun k_ => k_ ≠ gb159 /\ k_ ≠ gb160 /\ k_ ≠ gb161) (fun k_ => ((fun k_ => k_ ≠ gb159 /\ k_ ≠ gb160 /\ k_ ≠ gb161)) k_ /\ some k_ ≠ (u162003 : Pd).ownBlock) rfl rfl ?aP (fun _ hk => hk) ?aF ?aO ?aB ?aS ?aL ?_
      (case aP => exact E0 _ _ _ (⟨t163, t164, t165, t166⟩ : B8) (Kd.R_mono (HO168.out) (fun k_ hk => ⟨⟨hk.1.1.2, ⟨hk.1.2, hk.2⟩⟩, hk.1.1.1.2⟩)))
      (case aB => exact (Go.Z.h3 GE159.out GE160.out GE161.out))
      (case aF => exact (fun k_ hk => ⟨Kd.freshB (g := gb159) (o := .cells #[.int .i64 a0_0, .string a0_1, .string a0_2, .slice (some ad162) l0_3.length c0_3] 24 (0, 0)) (Go.Z.k BK159.out) k_ hk, Kd.freshB (g := gb160) (o := .cells #[.int .i64 0, .string (⟨#[]⟩ : ByteArray), .string (⟨#[]⟩ : ByteArray), .slice none 0 0] 24 (0, 0)) (Go.Z.k BK160.out) k_ hk, Kd.freshB (g := gb161) (o := .cells #[.int .i64 a0_0, .string a0_1, .string a0_2, u162003] 24 (0, 0)) (Go.Z.k BK161.out) k_ hk⟩))
      (case aO => exact (by (with_reducible repeat (first | apply Kd.R_alloc | apply Kd.R_drewN | apply Kd.R_drew)); exact Kd.R_mono HO_162003.out (fun _ hk => ⟨hk.1.1, ⟨hk.1.2.1, hk.1.2.2⟩⟩)))
      (case aS => exact (Aq (Go.Z.h3 GE159.out GE160.out GE161.out)))
      (case aL => have := LMc13.out; omega)
      intro v170 w19 ho hb hg hat;rw [<- Ny169.out] at ho;have n0_ := A7.mk (Ck (g := gb159) (o := .cells #[.int .i64 a0_0, .string a0_1, .string a0_2, .slice (some ad162) l0_3.length c0_3] 24 (0, 0)) (Go.Z.k BK159.out) hg (Kd.R_away HO_162003.out (fun _ hk => hk.1.1)));have n1_ := A7.mk (Ck (g := gb160) (o := .cells #[.int .i64 0, .string (⟨#[]⟩ : ByteArray), .string (⟨#[]⟩ : ByteArray), .slice none 0 0] 24 (0, 0)) (Go.Z.k BK160.out) hg (Kd.R_away HO_162003.out (fun _ hk => hk.1.2.1)));have n2_ := A7.mk (Ck (g := gb161) (o := .cells #[.int .i64 a0_0, .string a0_1, .string a0_2, u162003] 24 (0, 0)) (Go.Z.k BK161.out) hg (Kd.R_away HO_162003.out (fun _ hk => hk.1.2.2)));have n3_ := A7.mk (hb);have n4_ := A7.mk (ho);clear BK159;clear BK160;clear BK161;clear HB;clear HO_162003;clear HO168;have BK159 := n0_;have BK160 := n1_;have BK161 := n2_;have HB := n3_;have HO171 := n4_;clear n0_ n1_ n2_ n3_ n4_;clear ho hb hg hat;obtain ⟨Ao21, co21, eo21⟩ := Kd.R_slice HO171.out
      (first | subst eo21 | (injection eo21 with f1_ f2_ f3_; have f4_ := f1_.symm; have f5_ := f3_.symm; clear f1_ f2_ f3_; subst f4_; subst f5_))
      refine hK.out _ _ ⟨(Aa BK161.out 0).trans rfl, (Aa BK161.out 1).trans rfl, (Aa BK161.out 2).trans rfl, (Aa BK161.out 3).trans rfl, (Aa BK159.out 0).trans rfl, (Aa BK159.out 1).trans rfl, (Aa BK159.out 2).trans rfl, (Aa BK159.out 3).trans rfl, ((HB.out.cell (Pb w _ hw162_0)).trans hw162_0), ((HB.out.cell (Pb w _ hw162_1)).trans hw162_1), ((HB.out.cell (Pb w _ hw162_2)).trans hw162_2), ((HB.out.cell (Pb w _ hw162_3)).trans hw162_3)⟩ (fun hHeld => ?_);clear hK K;refine CF (a' := ?_) ?_ ?_;rotate_left
      ·show Ph _ (some 28) _ = _
       rfl
      refine AM (i := 10) (N := some 29) (v := ?_) (a' := ?_) #[true, true, true, true, true, true, true, true, true, true, true, BK] rfl rfl (AA HT_.out (by kernel_rfl)) (fun _ _ _ h => h) (PD ⟨by rfl, ?_⟩) ?_ ?_;rotate_left
      ·intro w';go_simp
       with_reducible rfl
      rotate_left
      ·simp only [Ph, GW, Pa, NB, Ar, AB];rfl
      refine NL (i := 11) (N := none) #[true, true, true, true, true, true, true, true, true, true, true, true] rfl rfl (C7 HT_.out (by kernel_rfl)) (by decide) (fun K hK => ?_);have hfs22 := Ad BK161.out 3;refine DG (w1 := ?_) (by rfl) rfl ?_ ?_;rotate_left
      ·go_simp;rfl
      refine hK.out _ _ ?_;clear hK K;refine Fi (Dl HT_.out (by kernel_rfl)) ?_
      try go_wp2
      go_roundg k1
      case measure => have := HK1.out; omega
      case rel => exact ⟨(Pq (x4_1 + 1)), (y169), (.slice Ao21 y169.length co21), rfl, H', ⟨by have := HK1.out; omega⟩, ⟨by (with_reducible repeat (first | apply Kd.R_alloc | apply Kd.R_drewN | apply Kd.R_drew)); exact Kd.R_mono (Kd.R_far (p := ⟨gb161, 3, none⟩) (Kd.R_mono HO171.out (fun k_ hk => (⟨hk, hk.2.2⟩ : _ /\ k_ ≠ gb161))) (fun _ hk => hk.2) (.slice Ao21 y169.length co21)) (fun _ hk => ⟨hk.1.1, ⟨hk.1.2.1, hk.1.2.2⟩⟩)⟩, ⟨by (with_reducible repeat (first | refine Ae ?_ _ | refine Ag ?_ | refine Ac ?_ _)); refine Ba ?_ NB159_161.out _; (with_reducible repeat (first | refine Ae ?_ _ | refine Ag ?_ | refine Ac ?_ _)); exact BK159.out⟩, ⟨by (with_reducible repeat (first | refine Ae ?_ _ | refine Ag ?_ | refine Ac ?_ _)); refine Ba ?_ NB160_161.out _; (with_reducible repeat (first | refine Ae ?_ _ | refine Ag ?_ | refine Ac ?_ _)); exact BK160.out⟩, ⟨by (with_reducible repeat (first | refine Ae ?_ _ | refine Ag ?_ | refine Ac ?_ _)); refine AS (cs := #[.int .i64 a0_0, .string a0_1, .string a0_2, u162003]) ?_ 3 _ rfl; (with_reducible repeat (first | refine Ae ?_ _ | refine Ag ?_ | refine Ac ?_ _)); exact BK161.out⟩, ⟨Go.Z.h3 GE159.out GE160.out GE161.out⟩⟩
     ·rw [if_neg c13] at H;exact absurd H (by simp)
    ·rw [if_neg c11] at H;exact absurd H (by simp)
   ·rw [if_neg c10] at H;have c10b0 : decide (x4_1 < (l0_3.length : Int)) = BK := decide_eq_false c10;clear c10;simp only [QA, QQ] at H;obtain ⟨rfl, rfl, rfl, rfl⟩ := H;obtain ⟨⟨hcz25_0, hcz25_1, hcz25_2, hcz25_3⟩, hfz25_0, hfz25_1, hfz25_2, hfz25_3⟩ := Go.Z.b4 BK159.out;obtain ⟨⟨hcz27_0, hcz27_1, hcz27_2, hcz27_3⟩, hfz27_0, hfz27_1, hfz27_2, hfz27_3⟩ := Go.Z.b4 BK161.out;obtain ⟨⟨hcz28_0, hcz28_1, hcz28_2, hcz28_3⟩, hfz28_0, hfz28_1, hfz28_2, hfz28_3⟩ := Go.Z.b4 BK160.out;obtain ⟨Ao29, co29, eo29⟩ := Kd.R_slice HO_162003.out;subst eo29;go_wp2;refine Qf (results_cell_row rfl _ _ gb160 24 #[.int .i64 a0_0, .string a0_1, .string a0_2, .slice Ao29 x162003_1.length co29] (0, 0) _ rfl (by (with_reducible repeat (first | refine Ae ?_ _ | refine Ag ?_ | refine Ac ?_ _)); refine AS (cs := #[.int .i64 a0_0, .string a0_1, .string a0_2, .slice none 0 0]) ?_ 3 _ rfl; (with_reducible repeat (first | refine Ae ?_ _ | refine Ag ?_ | refine Ac ?_ _)); refine AS (cs := #[.int .i64 a0_0, .string a0_1, .string (⟨#[]⟩ : ByteArray), .slice none 0 0]) ?_ 2 _ rfl; (with_reducible repeat (first | refine Ae ?_ _ | refine Ag ?_ | refine Ac ?_ _)); refine AS (cs := #[.int .i64 a0_0, .string (⟨#[]⟩ : ByteArray), .string (⟨#[]⟩ : ByteArray), .slice none 0 0]) ?_ 1 _ rfl; (with_reducible repeat (first | refine Ae ?_ _ | refine Ag ?_ | refine Ac ?_ _)); refine AS (cs := #[.int .i64 0, .string (⟨#[]⟩ : ByteArray), .string (⟨#[]⟩ : ByteArray), .slice none 0 0]) ?_ 0 _ rfl; (with_reducible repeat (first | refine Ae ?_ _ | refine Ag ?_ | refine Ac ?_ _)); exact BK160.out) Try.underlying24 rfl (by kernel_rfl)) rfl ?_;exact ⟨_, by first | rfl | (simp [AP, AQ] <;> rfl) | (simp [*, AP, AQ] <;> rfl), by (with_reducible repeat (first | apply Kd.R_alloc | apply Kd.R_drewN | apply Kd.R_drew)); exact Kd.R_mono (Kd.R_far (p := ⟨gb160, 3, none⟩) (Kd.R_far (p := ⟨gb160, 2, none⟩) (Kd.R_far (p := ⟨gb160, 1, none⟩) (Kd.R_far (p := ⟨gb160, 0, none⟩) (Kd.R_mono HO_162003.out (fun k_ hk => (⟨hk, hk.2.1⟩ : _ /\ k_ ≠ gb160))) (fun _ hk => hk.2) (.int .i64 a0_0)) (fun _ hk => hk.2) (.string a0_1)) (fun _ hk => hk.2) (.string a0_2)) (fun _ hk => hk.2) (.slice Ao29 x162003_1.length co29)) (fun _ hk => trivial), by repeat (first | (with_reducible first | exact HB.out | apply Ah | apply AH | apply AD | refine AZ ?_ GE159.out | refine AZ ?_ GE160.out | refine AZ ?_ GE161.out) | exact HB.out)⟩
def AK.l0 : Nat -> List (Ee) -> List (Dm) -> Int -> Option ((List (Dm)))
 | 0, _, _, _ => none
 | k + 1, x0, x3, x4 => if x4 < (x0.length : Int) then (if x4 < 60 then (if 0 <= x4 then (if 0 <= (mn (((Ao x0 x4).f5).size : Int) 100) then (if (mn (((Ao x0 x4).f5).size : Int) 100) <= (((Ao x0 x4).f5).size : Int) then (if 0 <= (mn (((Ao x0 x4).f6).size : Int) 100) then (if (mn (((Ao x0 x4).f6).size : Int) 100) <= (((Ao x0 x4).f6).size : Int) then (if x3.length < 1954687338268 then (AK.l0 k x0 (x3 ++ [(⟨(Ao x0 x4).f0, (Ao x0 x4).f1, (Ao x0 x4).f2, (Ao x0 x4).f3, (Ao x0 x4).f4, ((Ao x0 x4).f5).extract 0 ((mn (((Ao x0 x4).f5).size : Int) 100) : Int).toNat, ((Ao x0 x4).f6).extract 0 ((mn (((Ao x0 x4).f6).size : Int) 100) : Int).toNat⟩ : Dm)]) (Pq (x4 + 1))) else (none)) else (none)) else (none)) else (none)) else (none)) else (none)) else (some x3)) else (some x3)
def AK.f (k : Nat) (l0 : List (Ee)) : Option ((List (Dm))) := AK.l0 k l0 ([] : List (Dm)) 0
def AK.T6 : Bool × List (List Nat × List Nat) := (true, [([], []), ([], []), ([1], [1]), ([], []), ([3], [3]), ([], []), ([5], [5]), ([], []), ([7], [7]), ([], []), ([9], [9]), ([], []), ([11], [11]), ([], []), ([13], [13]), ([14], [14]), ([15], [15]), ([12, 16], [12, 16]), ([], []), ([18], [18]), ([], []), ([20], [20]), ([21], [21]), ([22], [22]), ([19, 23], [19, 23]), ([2, 4, 6, 8, 10, 17, 24], [2, 4, 6, 8, 10, 17, 24]), ([25], [25]), ([0, 26], [0, 26]), ([27, 27, 0, 1, 2, 3, 4, 5, 6, 7, 8, 9, 10, 11, 12, 13, 14, 15, 16, 17, 18, 19, 20, 21, 22, 23, 24, 25, 26, 27], [0, 27])])
def AK.B6 : List Nat := [0, 0, 2, 0, 8, 0, 32, 0, 128, 0, 512, 0, 2048, 0, 8192, 24576, 57344, 129024, 0, 262144, 0, 1048576, 3145728, 7340032, 16515072, 33554430, 67108862, 134217727, 268435455]
theorem AK.tab6 : Cd .any (DP Try.f9 6) = AK.T6 := by kernel_rfl
theorem AK.bits6 : C0 AK.T6.2 AK.B6 = true := by kernel_rfl
theorem AK.calls (k : Nat) (A0 : Option Addr) (c0 : Nat) (l0 : List (Ee)) (r : List (Dm)) (w : Pe) (hr0 : Kd.C FW w A0 l0.length l0) (hc0 : l0.length <= c0) (h : AK.f k l0 = some r) :
  PJ Try.prog 9 #[.slice A0 l0.length c0] w fun e w' => ∃ v0_ : Pd, e = .returned (v0_) /\ Kd.R EY 54 w' w.heap.size (fun _ => True) v0_ r /\ Below w.heap.size w w' := by
 have hu55 := Try.underlying55;have hu54 := Try.underlying54;have HR0 := A7.mk hr0;have HC0 := A7.mk hc0;clear hr0 hc0;have HB := A7.mk (Pn w.heap.size w);have H : (AK.l0 k l0 ([] : List (Dm)) 0) = some r := h;clear h;have H' := A7.mk H;clear H;go_enter Try.func9, Try.ntmps9;go_wp2
 go_loopg [3, 4] k (fun kq v3 v4 w' => ∃ (x3_1 : List (Dm)) (x4_1 : Int), v4 = .int .i64 x4_1 /\ A7 (AK.l0 kq l0 x3_1 x4_1 = some r) /\ A7 (kq <= k) /\ A7 (Kd.R EY 54 w' w.heap.size (fun _ => True) v3 x3_1) /\ A7 (Below w.heap.size w w'))
 case atStart => exact ⟨(([] : List (Dm))), (0), (by first | rfl | (simp; done) | (simp [*]; done)), H', ⟨Ps _⟩, ⟨by first | exact Kd.R_nil _ _ _ _ _ | exact Kd.N_nil _ _ _ _ _ | exact Kd.V_nil _ _ _ _ _ | exact Kd.Q_nil _ _ _ _ _ | exact Kd.S_nil _ _ _ _ _⟩, ⟨Go.Z.h0⟩⟩
 case round =>
  clear H';obtain ⟨x3_1, x4_1, rfl, HA, HK1, HO_3, HB⟩ := hrel;cases gk with
  | zero => exact absurd HA.out (by simp [AK.l0])
  | succ k1 =>
   have H := HA.out;clear HA;simp only [AK.l0] at H;by_cases c2 : x4_1 < (l0.length : Int)
   ·rw [if_pos c2] at H;have c2b0 : decide (x4_1 < (l0.length : Int)) = true := decide_eq_true c2;clear c2;by_cases c3 : x4_1 < 60
    ·rw [if_pos c3] at H;have c3b0 : decide (x4_1 < 60) = true := decide_eq_true c3;clear c3;by_cases c4 : 0 <= x4_1
     ·rw [if_pos c4] at H;have c4b0 : decide (0 <= x4_1) = true := decide_eq_true c4;clear c4;obtain ⟨ji5, hji5⟩ : ∃ j_ : Int, (mn (((Ao l0 x4_1).f5).size : Int) 100) = j_ := ⟨_, rfl⟩;replace H : (if 0 <= (ji5) then (if (ji5) <= (((Ao l0 x4_1).f5).size : Int) then (if 0 <= (mn (((Ao l0 x4_1).f6).size : Int) 100) then (if (mn (((Ao l0 x4_1).f6).size : Int) 100) <= (((Ao l0 x4_1).f6).size : Int) then (if x3_1.length < 1954687338268 then (AK.l0 k1 l0 (x3_1 ++ [(⟨(Ao l0 x4_1).f0, (Ao l0 x4_1).f1, (Ao l0 x4_1).f2, (Ao l0 x4_1).f3, (Ao l0 x4_1).f4, ((Ao l0 x4_1).f5).extract 0 ((ji5) : Int).toNat, ((Ao l0 x4_1).f6).extract 0 ((mn (((Ao l0 x4_1).f6).size : Int) 100) : Int).toNat⟩ : Dm)]) (Pq (x4_1 + 1))) else (none)) else (none)) else (none)) else (none)) else (none)) = some r := by first | (rw [hji5] at H; exact H) | (simp only [hji5] at H ⊢; exact H)
      have hji5_ : (if 100 < (((Ao l0 x4_1).f5).size : Int) then 100 else (((Ao l0 x4_1).f5).size : Int)) = ji5 := hji5;by_cases c6 : 0 <= (ji5)
      ·rw [if_pos c6] at H;have c6b0 := eq_true c6;have c6b1 : decide (0 <= (ji5)) = true := decide_eq_true c6;clear c6;by_cases c7 : (ji5) <= (((Ao l0 x4_1).f5).size : Int)
       ·rw [if_pos c7] at H;have c7b0 := eq_true c7;have c7b1 : decide ((ji5) <= (((Ao l0 x4_1).f5).size : Int)) = true := decide_eq_true c7;clear c7;obtain ⟨ji8, hji8⟩ : ∃ j_ : Int, (mn (((Ao l0 x4_1).f6).size : Int) 100) = j_ := ⟨_, rfl⟩;replace H : (if 0 <= (ji8) then (if (ji8) <= (((Ao l0 x4_1).f6).size : Int) then (if x3_1.length < 1954687338268 then (AK.l0 k1 l0 (x3_1 ++ [(⟨(Ao l0 x4_1).f0, (Ao l0 x4_1).f1, (Ao l0 x4_1).f2, (Ao l0 x4_1).f3, (Ao l0 x4_1).f4, ((Ao l0 x4_1).f5).extract 0 ((ji5) : Int).toNat, ((Ao l0 x4_1).f6).extract 0 ((ji8) : Int).toNat⟩ : Dm)]) (Pq (x4_1 + 1))) else (none)) else (none)) else (none)) = some r := by first | (rw [hji8] at H; exact H) | (simp only [hji8] at H ⊢; exact H)
        have hji8_ : (if 100 < (((Ao l0 x4_1).f6).size : Int) then 100 else (((Ao l0 x4_1).f6).size : Int)) = ji8 := hji8;by_cases c9 : 0 <= (ji8)
        ·rw [if_pos c9] at H;have c9b0 := eq_true c9;have c9b1 : decide (0 <= (ji8)) = true := decide_eq_true c9;clear c9;by_cases c10 : (ji8) <= (((Ao l0 x4_1).f6).size : Int)
         ·rw [if_pos c10] at H;have c10b0 := eq_true c10;have c10b1 : decide ((ji8) <= (((Ao l0 x4_1).f6).size : Int)) = true := decide_eq_true c10;clear c10;by_cases c11 : x3_1.length < 1954687338268
          ·rw [if_pos c11] at H;have LMc11 := A7.mk c11;clear c11;obtain ⟨y174, hy174⟩ : ∃ y_ : List (Dm), y_ = (x3_1 ++ [(⟨(Ao l0 x4_1).f0, (Ao l0 x4_1).f1, (Ao l0 x4_1).f2, (Ao l0 x4_1).f3, (Ao l0 x4_1).f4, ((Ao l0 x4_1).f5).extract 0 ((ji5) : Int).toNat, ((Ao l0 x4_1).f6).extract 0 ((ji8) : Int).toNat⟩ : Dm)]) := ⟨_, rfl⟩;replace H : (AK.l0 k1 l0 y174 (Pq (x4_1 + 1))) = some r := by first | (rw [hy174]; with_reducible exact H) | (have H2_ := (Pj _ _).symm.trans H; rw [hy174]; with_reducible exact H2_) | (have H2_ := (Pj _ _).symm.trans H; with_reducible exact H2_) | with_reducible exact H | (rw [hy174]; exact H) | exact H
           have Ny174 := A7.mk hy174;clear hy174;have H' := A7.mk H;clear H;have p172 : 0 <= (x4_1 : Int) := of_decide_eq_true (by first | (with_reducible assumption) | assumption);have q172 : x4_1 < (l0.length : Int) := of_decide_eq_true (by first | (with_reducible assumption) | assumption);obtain ⟨ad172, e172, hx172_0, hx172_1, hx172_2, hx172_3, hx172_4, hx172_5, hx172_6⟩ := M6 HR0.out x4_1 p172 q172;cases e172;replace hx172_0 := (HB.out.cell (Pb w _ hx172_0)).trans hx172_0;replace hx172_1 := (HB.out.cell (Pb w _ hx172_1)).trans hx172_1;replace hx172_2 := (HB.out.cell (Pb w _ hx172_2)).trans hx172_2;replace hx172_3 := (HB.out.cell (Pb w _ hx172_3)).trans hx172_3;replace hx172_4 := (HB.out.cell (Pb w _ hx172_4)).trans hx172_4;replace hx172_5 := (HB.out.cell (Pb w _ hx172_5)).trans hx172_5;replace hx172_6 := (HB.out.cell (Pb w _ hx172_6)).trans hx172_6;replace p172 := eq_true p172;replace q172 := eq_true q172
           try go_wp2_with (first | ((with_reducible refine AE (N := 5) rfl ?_); refine Aw ?hg (N := 5) ?hd (cs := #[.int .i64 0, .int .i64 0, .int .i64 0, .int .i64 0, .int .i64 0, .string (⟨#[]⟩ : ByteArray), .string (⟨#[]⟩ : ByteArray)]) (t := 55) ?hr ?_; (case hd => rfl); (case hg => rfl); (case hr => first | (go_simp; done) | (go_simp; rfl)); intro gb173 hg w12 hbox hb; have n0_ := A7.mk (Kd.R_below (by (with_reducible repeat (first | apply Kd.R_alloc | apply Kd.R_drewN | apply Kd.R_drew)); exact HO_3.out) hb); have n1_ := A7.mk (AT Go.Z.h0 hb); have n2_ := A7.mk (hbox); have n3_ := A7.mk ((by rw [hg]; exact (Aq Go.Z.h0) : w.heap.size <= gb173)); have n4_ := A7.mk ((by rw [hg]; exact (Aq Go.Z.h0) : w.heap.size <= gb173)); clear HO_3; clear HB; have HO_3 := n0_; have HB := n1_; have BK173 := n2_; have GW173 := n3_; have GE173 := n4_; clear n0_ n1_ n2_ n3_ n4_; clear hb hbox hg; have hcz13_0 : w12.cell? ⟨gb173, 0, none⟩ = some (.int .i64 0) := (Aa BK173.out 0).trans rfl; have hcz13_1 : w12.cell? ⟨gb173, 1, none⟩ = some (.int .i64 0) := (Aa BK173.out 1).trans rfl; have hcz13_2 : w12.cell? ⟨gb173, 2, none⟩ = some (.int .i64 0) := (Aa BK173.out 2).trans rfl; have hcz13_3 : w12.cell? ⟨gb173, 3, none⟩ = some (.int .i64 0) := (Aa BK173.out 3).trans rfl; have hcz13_4 : w12.cell? ⟨gb173, 4, none⟩ = some (.int .i64 0) := (Aa BK173.out 4).trans rfl; have hcz13_5 : w12.cell? ⟨gb173, 5, none⟩ = some (.string (⟨#[]⟩ : ByteArray)) := (Aa BK173.out 5).trans rfl; have hcz13_6 : w12.cell? ⟨gb173, 6, none⟩ = some (.string (⟨#[]⟩ : ByteArray)) := (Aa BK173.out 6).trans rfl; have hfz13_0 := Ad BK173.out 0; have hfz13_1 := Ad BK173.out 1; have hfz13_2 := Ad BK173.out 2; have hfz13_3 := Ad BK173.out 3; have hfz13_4 := Ad BK173.out 4; have hfz13_5 := Ad BK173.out 5; have hfz13_6 := Ad BK173.out 6))
           have n0_ : A7 (Kd.R EY 54 (((((((w12.setCell ⟨gb173, 0, none⟩ (.int .i64 ((Ao l0 x4_1).f0))).setCell ⟨gb173, 1, none⟩ (.int .i64 ((Ao l0 x4_1).f1))).setCell ⟨gb173, 2, none⟩ (.int .i64 ((Ao l0 x4_1).f2))).setCell ⟨gb173, 3, none⟩ (.int .i64 ((Ao l0 x4_1).f3))).setCell ⟨gb173, 4, none⟩ (.int .i64 ((Ao l0 x4_1).f4))).setCell ⟨gb173, 5, none⟩ (.string ((Ao l0 x4_1).f5))).setCell ⟨gb173, 6, none⟩ (.string ((Ao l0 x4_1).f6))) w.heap.size (fun _ => True) u3 x3_1) := ⟨by (with_reducible repeat (first | apply Kd.R_alloc | apply Kd.R_drewN | apply Kd.R_drew)); exact Kd.R_mono (Kd.R_far (p := ⟨gb173, 6, none⟩) (Kd.R_far (p := ⟨gb173, 5, none⟩) (Kd.R_far (p := ⟨gb173, 4, none⟩) (Kd.R_far (p := ⟨gb173, 3, none⟩) (Kd.R_far (p := ⟨gb173, 2, none⟩) (Kd.R_far (p := ⟨gb173, 1, none⟩) (Kd.R_far (p := ⟨gb173, 0, none⟩) (Kd.R_types HO_3.out BK173.out (by decide)) (fun _ hk => hk.2) (.int .i64 ((Ao l0 x4_1).f0))) (fun _ hk => hk.2) (.int .i64 ((Ao l0 x4_1).f1))) (fun _ hk => hk.2) (.int .i64 ((Ao l0 x4_1).f2))) (fun _ hk => hk.2) (.int .i64 ((Ao l0 x4_1).f3))) (fun _ hk => hk.2) (.int .i64 ((Ao l0 x4_1).f4))) (fun _ hk => hk.2) (.string ((Ao l0 x4_1).f5))) (fun _ hk => hk.2) (.string ((Ao l0 x4_1).f6))) (fun _ hk => trivial)⟩;have n1_ : A7 ((((((((w12.setCell ⟨gb173, 0, none⟩ (.int .i64 ((Ao l0 x4_1).f0))).setCell ⟨gb173, 1, none⟩ (.int .i64 ((Ao l0 x4_1).f1))).setCell ⟨gb173, 2, none⟩ (.int .i64 ((Ao l0 x4_1).f2))).setCell ⟨gb173, 3, none⟩ (.int .i64 ((Ao l0 x4_1).f3))).setCell ⟨gb173, 4, none⟩ (.int .i64 ((Ao l0 x4_1).f4))).setCell ⟨gb173, 5, none⟩ (.string ((Ao l0 x4_1).f5))).setCell ⟨gb173, 6, none⟩ (.string ((Ao l0 x4_1).f6))).heap[gb173]? = some (.cells #[.int .i64 ((Ao l0 x4_1).f0), .int .i64 ((Ao l0 x4_1).f1), .int .i64 ((Ao l0 x4_1).f2), .int .i64 ((Ao l0 x4_1).f3), .int .i64 ((Ao l0 x4_1).f4), .string ((Ao l0 x4_1).f5), .string ((Ao l0 x4_1).f6)] 55 (0, 0))) := ⟨by (with_reducible repeat (first | refine Ae ?_ _ | refine Ag ?_ | refine Ac ?_ _)); refine AS (cs := #[.int .i64 ((Ao l0 x4_1).f0), .int .i64 ((Ao l0 x4_1).f1), .int .i64 ((Ao l0 x4_1).f2), .int .i64 ((Ao l0 x4_1).f3), .int .i64 ((Ao l0 x4_1).f4), .string ((Ao l0 x4_1).f5), .string (⟨#[]⟩ : ByteArray)]) ?_ 6 _ rfl; (with_reducible repeat (first | refine Ae ?_ _ | refine Ag ?_ | refine Ac ?_ _)); refine AS (cs := #[.int .i64 ((Ao l0 x4_1).f0), .int .i64 ((Ao l0 x4_1).f1), .int .i64 ((Ao l0 x4_1).f2), .int .i64 ((Ao l0 x4_1).f3), .int .i64 ((Ao l0 x4_1).f4), .string (⟨#[]⟩ : ByteArray), .string (⟨#[]⟩ : ByteArray)]) ?_ 5 _ rfl; (with_reducible repeat (first | refine Ae ?_ _ | refine Ag ?_ | refine Ac ?_ _)); refine AS (cs := #[.int .i64 ((Ao l0 x4_1).f0), .int .i64 ((Ao l0 x4_1).f1), .int .i64 ((Ao l0 x4_1).f2), .int .i64 ((Ao l0 x4_1).f3), .int .i64 0, .string (⟨#[]⟩ : ByteArray), .string (⟨#[]⟩ : ByteArray)]) ?_ 4 _ rfl; (with_reducible repeat (first | refine Ae ?_ _ | refine Ag ?_ | refine Ac ?_ _)); refine AS (cs := #[.int .i64 ((Ao l0 x4_1).f0), .int .i64 ((Ao l0 x4_1).f1), .int .i64 ((Ao l0 x4_1).f2), .int .i64 0, .int .i64 0, .string (⟨#[]⟩ : ByteArray), .string (⟨#[]⟩ : ByteArray)]) ?_ 3 _ rfl; (with_reducible repeat (first | refine Ae ?_ _ | refine Ag ?_ | refine Ac ?_ _)); refine AS (cs := #[.int .i64 ((Ao l0 x4_1).f0), .int .i64 ((Ao l0 x4_1).f1), .int .i64 0, .int .i64 0, .int .i64 0, .string (⟨#[]⟩ : ByteArray), .string (⟨#[]⟩ : ByteArray)]) ?_ 2 _ rfl; (with_reducible repeat (first | refine Ae ?_ _ | refine Ag ?_ | refine Ac ?_ _)); refine AS (cs := #[.int .i64 ((Ao l0 x4_1).f0), .int .i64 0, .int .i64 0, .int .i64 0, .int .i64 0, .string (⟨#[]⟩ : ByteArray), .string (⟨#[]⟩ : ByteArray)]) ?_ 1 _ rfl; (with_reducible repeat (first | refine Ae ?_ _ | refine Ag ?_ | refine Ac ?_ _)); refine AS (cs := #[.int .i64 0, .int .i64 0, .int .i64 0, .int .i64 0, .int .i64 0, .string (⟨#[]⟩ : ByteArray), .string (⟨#[]⟩ : ByteArray)]) ?_ 0 _ rfl; (with_reducible repeat (first | refine Ae ?_ _ | refine Ag ?_ | refine Ac ?_ _)); exact BK173.out⟩;have n2_ : A7 (Below w.heap.size w (((((((w12.setCell ⟨gb173, 0, none⟩ (.int .i64 ((Ao l0 x4_1).f0))).setCell ⟨gb173, 1, none⟩ (.int .i64 ((Ao l0 x4_1).f1))).setCell ⟨gb173, 2, none⟩ (.int .i64 ((Ao l0 x4_1).f2))).setCell ⟨gb173, 3, none⟩ (.int .i64 ((Ao l0 x4_1).f3))).setCell ⟨gb173, 4, none⟩ (.int .i64 ((Ao l0 x4_1).f4))).setCell ⟨gb173, 5, none⟩ (.string ((Ao l0 x4_1).f5))).setCell ⟨gb173, 6, none⟩ (.string ((Ao l0 x4_1).f6)))) := ⟨Go.Z.h1 GE173.out⟩
           (try clear HO_3)
           (try clear BK173)
           (try clear HB)
           generalize (((((((w12.setCell ⟨gb173, 0, none⟩ (.int .i64 ((Ao l0 x4_1).f0))).setCell ⟨gb173, 1, none⟩ (.int .i64 ((Ao l0 x4_1).f1))).setCell ⟨gb173, 2, none⟩ (.int .i64 ((Ao l0 x4_1).f2))).setCell ⟨gb173, 3, none⟩ (.int .i64 ((Ao l0 x4_1).f3))).setCell ⟨gb173, 4, none⟩ (.int .i64 ((Ao l0 x4_1).f4))).setCell ⟨gb173, 5, none⟩ (.string ((Ao l0 x4_1).f5))).setCell ⟨gb173, 6, none⟩ (.string ((Ao l0 x4_1).f6))) = w14 at n0_ n1_ n2_ ⊢;have HO_3 := n0_;have BK173 := n1_;have HB := n2_;clear n0_ n1_ n2_;have n0_ := A7.mk (Kd.R_drew HO_3.out);have n1_ := A7.mk (Ag BK173.out);have n2_ := A7.mk (AD HB.out);clear HO_3;clear BK173;clear HB;have HO_3 := n0_;have BK173 := n1_;have HB := n2_;clear n0_ n1_ n2_;refine Cu (n := 29) (S := fun w' => w'.cell? ⟨gb173, 0, none⟩ = some (.int .i64 ((Ao l0 x4_1).f0)) /\ w'.cell? ⟨gb173, 1, none⟩ = some (.int .i64 ((Ao l0 x4_1).f1)) /\ w'.cell? ⟨gb173, 2, none⟩ = some (.int .i64 ((Ao l0 x4_1).f2)) /\ w'.cell? ⟨gb173, 3, none⟩ = some (.int .i64 ((Ao l0 x4_1).f3)) /\ w'.cell? ⟨gb173, 4, none⟩ = some (.int .i64 ((Ao l0 x4_1).f4)) /\ w'.cell? ⟨gb173, 5, none⟩ = some (.string ((Ao l0 x4_1).f5)) /\ w'.cell? ⟨gb173, 6, none⟩ = some (.string ((Ao l0 x4_1).f6))) (ds := []) #[BK, BK, BK, BK, BK, BK, BK, BK, BK, BK, BK, BK, BK, BK, BK, BK, BK, BK, BK, BK, BK, BK, BK, BK, BK, BK, BK, BK, BK] (by kernel_rfl) rfl rfl ⟨(Aa BK173.out 0).trans rfl, (Aa BK173.out 1).trans rfl, (Aa BK173.out 2).trans rfl, (Aa BK173.out 3).trans rfl, (Aa BK173.out 4).trans rfl, (Aa BK173.out 5).trans rfl, (Aa BK173.out 6).trans rfl⟩ (fun hHeld => ?_); refine BQ AK.tab6 AK.bits6 (fun HT_ HW_ => ?_);generalize w14.drew = w15 at HO_3 BK173 HB hHeld ⊢;refine AM (i := 0) (N := some 20) (v := ?_) (a' := ?_) #[true, BK, BK, BK, BK, BK, BK, BK, BK, BK, BK, BK, BK, BK, BK, BK, BK, BK, BK, BK, BK, BK, BK, BK, BK, BK, BK, BK, BK] rfl rfl (AA HT_.out (by kernel_rfl)) (fun _ _ _ h => h) (PD ⟨by rfl, ?_⟩) ?_ ?_;rotate_left
           ·intro w';go_simp
            with_reducible rfl
           rotate_left
           ·simp only [Ph, GW, Pa, NB, Ar, AB];rfl
           refine AM (i := 1) (N := some 21) (v := ?_) (a' := ?_) #[true, true, BK, BK, BK, BK, BK, BK, BK, BK, BK, BK, BK, BK, BK, BK, BK, BK, BK, BK, BK, BK, BK, BK, BK, BK, BK, BK, BK] rfl rfl (AA HT_.out (by kernel_rfl)) (fun _ _ _ h => h) (PD ⟨by rfl, ?_⟩) ?_ ?_;rotate_left
           ·intro w';go_simp
            with_reducible rfl
           rotate_left
           ·simp only [Ph, GW, Pa, NB, Ar, AB];rfl
           refine AM (i := 3) (N := some 23) (v := ?_) (a' := ?_) #[true, true, BK, true, BK, BK, BK, BK, BK, BK, BK, BK, BK, BK, BK, BK, BK, BK, BK, BK, BK, BK, BK, BK, BK, BK, BK, BK, BK] rfl rfl (AA HT_.out (by kernel_rfl)) (fun _ _ _ h => h) (PD ⟨by rfl, ?_⟩) ?_ ?_;rotate_left
           ·intro w';go_simp
            with_reducible rfl
           rotate_left
           ·simp only [Ph, GW, Pa, NB, Ar, AB];rfl
           refine AM (i := 5) (N := some 25) (v := ?_) (a' := ?_) #[true, true, BK, true, BK, true, BK, BK, BK, BK, BK, BK, BK, BK, BK, BK, BK, BK, BK, BK, BK, BK, BK, BK, BK, BK, BK, BK, BK] rfl rfl (AA HT_.out (by kernel_rfl)) (fun _ _ _ h => h) (PD ⟨by rfl, ?_⟩) ?_ ?_;rotate_left
           ·intro w';go_simp
            with_reducible rfl
           rotate_left
           ·simp only [Ph, GW, Pa, NB, Ar, AB];rfl
           refine AM (i := 7) (N := some 27) (v := ?_) (a' := ?_) #[true, true, BK, true, BK, true, BK, true, BK, BK, BK, BK, BK, BK, BK, BK, BK, BK, BK, BK, BK, BK, BK, BK, BK, BK, BK, BK, BK] rfl rfl (AA HT_.out (by kernel_rfl)) (fun _ _ _ h => h) (PD ⟨by rfl, ?_⟩) ?_ ?_;rotate_left
           ·intro w';go_simp
            with_reducible rfl
           rotate_left
           ·simp only [Ph, GW, Pa, NB, Ar, AB];rfl
           refine AM (i := 9) (N := some 29) (v := ?_) (a' := ?_) #[true, true, BK, true, BK, true, BK, true, BK, true, BK, BK, BK, BK, BK, BK, BK, BK, BK, BK, BK, BK, BK, BK, BK, BK, BK, BK, BK] rfl rfl (AA HT_.out (by kernel_rfl)) (fun _ _ _ h => h) (PD ⟨by rfl, ?_⟩) ?_ ?_;rotate_left
           ·intro w';go_simp
            with_reducible rfl
           rotate_left
           ·simp only [Ph, GW, Pa, NB, Ar, AB];rfl
           refine AM (i := 11) (N := some 31) (v := ?_) (a' := ?_) #[true, true, BK, true, BK, true, BK, true, BK, true, BK, true, BK, BK, BK, BK, BK, BK, BK, BK, BK, BK, BK, BK, BK, BK, BK, BK, BK] rfl rfl (AA HT_.out (by kernel_rfl)) (fun _ _ _ h => h) (PD ⟨by rfl, ?_⟩) ?_ ?_;rotate_left
           ·intro w';go_simp
            with_reducible rfl
           rotate_left
           ·simp only [Ph, GW, Pa, NB, Ar, AB];rfl
           refine AM (i := 13) (N := some 33) (v := ?_) (a' := ?_) #[true, true, BK, true, BK, true, BK, true, BK, true, BK, true, BK, true, BK, BK, BK, BK, BK, BK, BK, BK, BK, BK, BK, BK, BK, BK, BK] rfl rfl (AA HT_.out (by kernel_rfl)) (fun _ _ _ h => h) (PD ⟨by rfl, ?_⟩) ?_ ?_;rotate_left
           ·intro w';go_simp
            with_reducible rfl
           rotate_left
           ·simp only [Ph, GW, Pa, NB, Ar, AB];rfl
           refine AM (i := 18) (N := some 38) (v := ?_) (a' := ?_) #[true, true, BK, true, BK, true, BK, true, BK, true, BK, true, BK, true, BK, BK, BK, BK, true, BK, BK, BK, BK, BK, BK, BK, BK, BK, BK] rfl rfl (AA HT_.out (by kernel_rfl)) (fun _ _ _ h => h) (PD ⟨by rfl, ?_⟩) ?_ ?_;rotate_left
           ·intro w';go_simp
            with_reducible rfl
           rotate_left
           ·simp only [Ph, GW, Pa, NB, Ar, AB];rfl
           refine AM (i := 20) (N := some 40) (v := ?_) (a' := ?_) #[true, true, BK, true, BK, true, BK, true, BK, true, BK, true, BK, true, BK, BK, BK, BK, true, BK, true, BK, BK, BK, BK, BK, BK, BK, BK] rfl rfl (AA HT_.out (by kernel_rfl)) (fun _ _ _ h => h) (PD ⟨by rfl, ?_⟩) ?_ ?_;rotate_left
           ·intro w';go_simp
            with_reducible rfl
           rotate_left
           ·simp only [Ph, GW, Pa, NB, Ar, AB];rfl
           refine take_ (i := 2) (N := some 22) (v := ?_) (a' := ?_) #[true, true, true, true, BK, true, BK, true, BK, true, BK, true, BK, true, BK, BK, BK, BK, true, BK, true, BK, BK, BK, BK, BK, BK, BK, BK] rfl rfl (BC HT_.out HW_.out (by kernel_rfl)) (fun _ _ _ h => h) (PD ⟨by rfl, ?_⟩) hHeld ?_ ?_;rotate_left
           ·rintro w' ⟨s0, s1, s2, s3, s4, s5, s6⟩;go_simp
            with_reducible rfl
           rotate_left
           ·simp only [Ph, GW, Pa, NB, Ar, AB];rfl
           refine take_ (i := 4) (N := some 24) (v := ?_) (a' := ?_) #[true, true, true, true, true, true, BK, true, BK, true, BK, true, BK, true, BK, BK, BK, BK, true, BK, true, BK, BK, BK, BK, BK, BK, BK, BK] rfl rfl (BC HT_.out HW_.out (by kernel_rfl)) (fun _ _ _ h => h) (PD ⟨by rfl, ?_⟩) hHeld ?_ ?_;rotate_left
           ·rintro w' ⟨s0, s1, s2, s3, s4, s5, s6⟩;go_simp
            with_reducible rfl
           rotate_left
           ·simp only [Ph, GW, Pa, NB, Ar, AB];rfl
           refine take_ (i := 6) (N := some 26) (v := ?_) (a' := ?_) #[true, true, true, true, true, true, true, true, BK, true, BK, true, BK, true, BK, BK, BK, BK, true, BK, true, BK, BK, BK, BK, BK, BK, BK, BK] rfl rfl (BC HT_.out HW_.out (by kernel_rfl)) (fun _ _ _ h => h) (PD ⟨by rfl, ?_⟩) hHeld ?_ ?_;rotate_left
           ·rintro w' ⟨s0, s1, s2, s3, s4, s5, s6⟩;go_simp
            with_reducible rfl
           rotate_left
           ·simp only [Ph, GW, Pa, NB, Ar, AB];rfl
           refine take_ (i := 8) (N := some 28) (v := ?_) (a' := ?_) #[true, true, true, true, true, true, true, true, true, true, BK, true, BK, true, BK, BK, BK, BK, true, BK, true, BK, BK, BK, BK, BK, BK, BK, BK] rfl rfl (BC HT_.out HW_.out (by kernel_rfl)) (fun _ _ _ h => h) (PD ⟨by rfl, ?_⟩) hHeld ?_ ?_;rotate_left
           ·rintro w' ⟨s0, s1, s2, s3, s4, s5, s6⟩;go_simp
            with_reducible rfl
           rotate_left
           ·simp only [Ph, GW, Pa, NB, Ar, AB];rfl
           refine take_ (i := 10) (N := some 30) (v := ?_) (a' := ?_) #[true, true, true, true, true, true, true, true, true, true, true, true, BK, true, BK, BK, BK, BK, true, BK, true, BK, BK, BK, BK, BK, BK, BK, BK] rfl rfl (BC HT_.out HW_.out (by kernel_rfl)) (fun _ _ _ h => h) (PD ⟨by rfl, ?_⟩) hHeld ?_ ?_;rotate_left
           ·rintro w' ⟨s0, s1, s2, s3, s4, s5, s6⟩;go_simp
            with_reducible rfl
           rotate_left
           ·simp only [Ph, GW, Pa, NB, Ar, AB];rfl
           refine take_ (i := 12) (N := some 32) (v := ?_) (a' := ?_) #[true, true, true, true, true, true, true, true, true, true, true, true, true, true, BK, BK, BK, BK, true, BK, true, BK, BK, BK, BK, BK, BK, BK, BK] rfl rfl (BC HT_.out HW_.out (by kernel_rfl)) (fun _ _ _ h => h) (PD ⟨by rfl, ?_⟩) hHeld ?_ ?_;rotate_left
           ·rintro w' ⟨s0, s1, s2, s3, s4, s5, s6⟩;go_simp
            with_reducible rfl
           rotate_left
           ·simp only [Ph, GW, Pa, NB, Ar, AB];rfl
           refine take_ (i := 14) (N := some 34) (v := ?_) (a' := ?_) #[true, true, true, true, true, true, true, true, true, true, true, true, true, true, true, BK, BK, BK, true, BK, true, BK, BK, BK, BK, BK, BK, BK, BK] rfl rfl (BC HT_.out HW_.out (by kernel_rfl)) (fun _ _ _ h => h) (PD ⟨by rfl, ?_⟩) hHeld ?_ ?_;rotate_left
           ·rintro w' ⟨s0, s1, s2, s3, s4, s5, s6⟩;go_simp
            with_reducible rfl
           rotate_left
           ·simp only [Ph, GW, Pa, NB, Ar, AB];rfl
           refine AM (i := 15) (N := some 35) (v := ?_) (a' := ?_) #[true, true, true, true, true, true, true, true, true, true, true, true, true, true, true, true, BK, BK, true, BK, true, BK, BK, BK, BK, BK, BK, BK, BK] rfl rfl (AA HT_.out (by kernel_rfl)) (fun _ _ _ h => h) (PD ⟨by rfl, ?_⟩) ?_ ?_;rotate_left
           ·intro w';go_simp
            with_reducible rfl
           rotate_left
           ·simp only [Ph, GW, Pa, NB, Ar, AB];rfl
           refine AM (i := 16) (N := some 36) (v := ?_) (a' := ?_) #[true, true, true, true, true, true, true, true, true, true, true, true, true, true, true, true, true, BK, true, BK, true, BK, BK, BK, BK, BK, BK, BK, BK] rfl rfl (AA HT_.out (by kernel_rfl)) (fun _ _ _ h => h) (PD ⟨by rfl, ?_⟩) ?_ ?_;rotate_left
           ·intro w';go_simp
            with_reducible rfl
           rotate_left
           ·simp only [Ph, GW, Pa, NB, Ar, AB];rfl
           refine AM (i := 17) (N := some 37) (v := ?_) (a' := ?_) #[true, true, true, true, true, true, true, true, true, true, true, true, true, true, true, true, true, true, true, BK, true, BK, BK, BK, BK, BK, BK, BK, BK] rfl rfl (AA HT_.out (by kernel_rfl)) (fun _ _ _ h => h) (PD ⟨by rfl, ?_⟩) ?_ ?_;rotate_left
           ·intro w';go_simp
            with_reducible rfl
           rotate_left
           ·simp only [Ph, GW, Pa, NB, Ar, AB];rfl
           refine take_ (i := 19) (N := some 39) (v := ?_) (a' := ?_) #[true, true, true, true, true, true, true, true, true, true, true, true, true, true, true, true, true, true, true, true, true, BK, BK, BK, BK, BK, BK, BK, BK] rfl rfl (BC HT_.out HW_.out (by kernel_rfl)) (fun _ _ _ h => h) (PD ⟨by rfl, ?_⟩) hHeld ?_ ?_;rotate_left
           ·rintro w' ⟨s0, s1, s2, s3, s4, s5, s6⟩;go_simp
            with_reducible rfl
           rotate_left
           ·simp only [Ph, GW, Pa, NB, Ar, AB];rfl
           refine take_ (i := 21) (N := some 41) (v := ?_) (a' := ?_) #[true, true, true, true, true, true, true, true, true, true, true, true, true, true, true, true, true, true, true, true, true, true, BK, BK, BK, BK, BK, BK, BK] rfl rfl (BC HT_.out HW_.out (by kernel_rfl)) (fun _ _ _ h => h) (PD ⟨by rfl, ?_⟩) hHeld ?_ ?_;rotate_left
           ·rintro w' ⟨s0, s1, s2, s3, s4, s5, s6⟩;go_simp
            with_reducible rfl
           rotate_left
           ·simp only [Ph, GW, Pa, NB, Ar, AB];rfl
           refine AM (i := 22) (N := some 42) (v := ?_) (a' := ?_) #[true, true, true, true, true, true, true, true, true, true, true, true, true, true, true, true, true, true, true, true, true, true, true, BK, BK, BK, BK, BK, BK] rfl rfl (AA HT_.out (by kernel_rfl)) (fun _ _ _ h => h) (PD ⟨by rfl, ?_⟩) ?_ ?_;rotate_left
           ·intro w';go_simp
            with_reducible rfl
           rotate_left
           ·simp only [Ph, GW, Pa, NB, Ar, AB];rfl
           refine AM (i := 23) (N := some 43) (v := ?_) (a' := ?_) #[true, true, true, true, true, true, true, true, true, true, true, true, true, true, true, true, true, true, true, true, true, true, true, true, BK, BK, BK, BK, BK] rfl rfl (AA HT_.out (by kernel_rfl)) (fun _ _ _ h => h) (PD ⟨by rfl, ?_⟩) ?_ ?_;rotate_left
           ·intro w';go_simp
            with_reducible rfl
           rotate_left
           ·simp only [Ph, GW, Pa, NB, Ar, AB];rfl
           refine AM (i := 24) (N := some 44) (v := ?_) (a' := ?_) #[true, true, true, true, true, true, true, true, true, true, true, true, true, true, true, true, true, true, true, true, true, true, true, true, true, BK, BK, BK, BK] rfl rfl (AA HT_.out (by kernel_rfl)) (fun _ _ _ h => h) (PD ⟨by rfl, ?_⟩) ?_ ?_;rotate_left
           ·intro w';go_simp
            with_reducible rfl
           rotate_left
           ·simp only [Ph, GW, Pa, NB, Ar, AB];rfl
           refine AM (i := 25) (N := some 45) (v := ?_) (a' := ?_) #[true, true, true, true, true, true, true, true, true, true, true, true, true, true, true, true, true, true, true, true, true, true, true, true, true, true, BK, BK, BK] rfl rfl (AA HT_.out (by kernel_rfl)) (fun _ _ _ h => h) (PD ⟨by rfl, ?_⟩) ?_ ?_;rotate_left
           ·intro w';go_simp
            with_reducible rfl
           rotate_left
           ·simp only [Ph, GW, Pa, NB, Ar, AB];rfl
           refine DC (i := 26) (N := some 46) #[true, true, true, true, true, true, true, true, true, true, true, true, true, true, true, true, true, true, true, true, true, true, true, true, true, true, true, BK, BK] rfl rfl (C7 HT_.out (by kernel_rfl)) (by decide) (fun K hK => ?_);refine Be (w1 := ?_) (v := ?_) (by rfl) rfl ?_ ?_;rotate_left 2
           ·go_simp;constructor
            ·rfl
            ·rfl
           refine hK.out _ _ ⟨(Aa (Ac BK173.out _) 0).trans rfl, (Aa (Ac BK173.out _) 1).trans rfl, (Aa (Ac BK173.out _) 2).trans rfl, (Aa (Ac BK173.out _) 3).trans rfl, (Aa (Ac BK173.out _) 4).trans rfl, (Aa (Ac BK173.out _) 5).trans rfl, (Aa (Ac BK173.out _) 6).trans rfl⟩ (fun hHeld => ?_);clear hK K;refine CF (a' := ?_) ?_ ?_;rotate_left
           ·show Ph _ (some 46) _ = _
            simp only [Ph, GW, Pa, NB, Ar, AB];rfl
           refine DC (i := 27) (N := some 47) #[true, true, true, true, true, true, true, true, true, true, true, true, true, true, true, true, true, true, true, true, true, true, true, true, true, true, true, true, BK] rfl rfl (C7 HT_.out (by kernel_rfl)) (by decide) (fun K hK => ?_);refine Kd.R_append_step EY (w0 := w) w.heap.size (by rfl) (.tmp 20) (.tmp 46) 29 54 (.agg #[(.int .i64 0), (.int .i64 0), (.int .i64 0), (.int .i64 0), (.int .i64 0), (.string ⟨#[]⟩), (.string ⟨#[]⟩)]) 72 rfl Try.underlying29 M4 rfl (by decide) (by omega) u3 x3_1 (⟨(Ao l0 x4_1).f0, (Ao l0 x4_1).f1, (Ao l0 x4_1).f2, (Ao l0 x4_1).f3, (Ao l0 x4_1).f4, ((Ao l0 x4_1).f5).extract 0 ((ji5) : Int).toNat, ((Ao l0 x4_1).f6).extract 0 ((ji8) : Int).toNat⟩ : Dm) [.int .i64 ((Ao l0 x4_1).f0), .int .i64 ((Ao l0 x4_1).f1), .int .i64 ((Ao l0 x4_1).f2), .int .i64 ((Ao l0 x4_1).f3), .int .i64 ((Ao l0 x4_1).f4), .string (((Ao l0 x4_1).f5).extract 0 ((ji5) : Int).toNat), .string (((Ao l0 x4_1).f6).extract 0 ((ji8) : Int).toNat)] (fun _ => True) (fun _ => False) rfl rfl ?aP (fun _ hk => hk.elim) ?aF ?aO ?aB ?aS ?aL ?_
           (case aP => exact Kj _ _ _ (⟨(Ao l0 x4_1).f0, (Ao l0 x4_1).f1, (Ao l0 x4_1).f2, (Ao l0 x4_1).f3, (Ao l0 x4_1).f4, ((Ao l0 x4_1).f5).extract 0 ((ji5) : Int).toNat, ((Ao l0 x4_1).f6).extract 0 ((ji8) : Int).toNat⟩ : Dm))
           (case aB => exact (Go.Z.h1 GE173.out))
           (case aF => exact (fun _ _ => trivial))
           (case aO => exact (by (with_reducible repeat (first | apply Kd.R_alloc | apply Kd.R_drewN | apply Kd.R_drew)); exact HO_3.out))
           (case aS => exact (Aq (Go.Z.h1 GE173.out)))
           (case aL => have := LMc11.out; omega)
           intro v175 w16 ho hb hg hat;rw [<- Ny174.out] at ho;have n0_ := A7.mk (Ck (g := gb173) (o := .cells #[.int .i64 ((Ao l0 x4_1).f0), .int .i64 ((Ao l0 x4_1).f1), .int .i64 ((Ao l0 x4_1).f2), .int .i64 ((Ao l0 x4_1).f3), .int .i64 ((Ao l0 x4_1).f4), .string ((Ao l0 x4_1).f5), .string ((Ao l0 x4_1).f6)] 55 (0, 0)) (Go.Z.k BK173.out) hg (Kd.R_ne HO_3.out BK173.out (by decide)));have n1_ := A7.mk (hb);have n2_ := A7.mk (ho);clear BK173;clear HB;clear HO_3;have BK173 := n0_;have HB := n1_;have HO176 := n2_;clear n0_ n1_ n2_;clear ho hb hg hat;refine hK.out _ _ ⟨(Aa BK173.out 0).trans rfl, (Aa BK173.out 1).trans rfl, (Aa BK173.out 2).trans rfl, (Aa BK173.out 3).trans rfl, (Aa BK173.out 4).trans rfl, (Aa BK173.out 5).trans rfl, (Aa BK173.out 6).trans rfl⟩ (fun hHeld => ?_);clear hK K;refine CF (a' := ?_) ?_ ?_;rotate_left
           ·show Ph _ (some 47) _ = _
            simp only [Ph, GW, Pa, NB, Ar, AB];rfl
           refine AM (i := 28) (N := some 3) (v := ?_) (a' := ?_) #[true, true, true, true, true, true, true, true, true, true, true, true, true, true, true, true, true, true, true, true, true, true, true, true, true, true, true, true, true] rfl rfl (AA HT_.out (by kernel_rfl)) (fun _ _ _ h => h) (PD ⟨by rfl, ?_⟩) ?_ ?_;rotate_left
           ·intro w';go_simp
            with_reducible rfl
           rotate_left
           ·simp only [Ph, GW, Pa, NB, Ar, AB];rfl
           refine Fi (Dl HT_.out (by kernel_rfl)) ?_
           try go_wp2
           go_roundg k1
           case measure => have := HK1.out; omega
           case rel => exact ⟨(y174), (Pq (x4_1 + 1)), (by first | rfl | (simp; done) | (simp [*]; done)), H', ⟨by have := HK1.out; omega⟩, ⟨by (with_reducible repeat (first | apply Kd.R_alloc | apply Kd.R_drewN | apply Kd.R_drew)); exact HO176.out⟩, ⟨Go.Z.h1 GE173.out⟩⟩
          ·rw [if_neg c11] at H;exact absurd H (by simp)
         ·rw [if_neg c10] at H;exact absurd H (by simp)
        ·rw [if_neg c9] at H;exact absurd H (by simp)
       ·rw [if_neg c7] at H;exact absurd H (by simp)
      ·rw [if_neg c6] at H;exact absurd H (by simp)
     ·rw [if_neg c4] at H;exact absurd H (by simp)
    ·rw [if_neg c3] at H;have c3b0 : decide (x4_1 < 60) = BK := decide_eq_false c3;clear c3;obtain rfl := Px H;go_wp2
     go_ret
     exact ⟨_, by first | rfl | (simp [AP, AQ] <;> rfl) | (simp [*, AP, AQ] <;> rfl), by (with_reducible repeat (first | apply Kd.R_alloc | apply Kd.R_drewN | apply Kd.R_drew)); exact HO_3.out, by repeat (first | (with_reducible first | exact HB.out | apply Ah | apply AH | apply AD) | exact HB.out)⟩
   ·rw [if_neg c2] at H;have c2b0 : decide (x4_1 < (l0.length : Int)) = BK := decide_eq_false c2;clear c2;obtain rfl := Px H;go_wp2
    go_ret
    exact ⟨_, by first | rfl | (simp [AP, AQ] <;> rfl) | (simp [*, AP, AQ] <;> rfl), by (with_reducible repeat (first | apply Kd.R_alloc | apply Kd.R_drewN | apply Kd.R_drew)); exact HO_3.out, by repeat (first | (with_reducible first | exact HB.out | apply Ah | apply AH | apply AD) | exact HB.out)⟩
end Go.Proofs.Q
namespace Go.Proofs.Q
structure Up (s : PS) : Prop where
 p : s.P.length = s.N.length
 up : ∀ j, 0 < j -> j < s.N.length -> 0 <= s.P.getD j 0 /\ s.P.getD j 0 < (j : Int)
mutual
theorem Gl : ∀ (x : B8) (p : Int) (s : PS), Up s -> (0 < s.N.length -> 0 <= p /\ p < (s.N.length : Int)) -> Up (C1 x p s)
 | ⟨a, b, c, l⟩, p, s, h, hp => by
  have h0 : Up ⟨s.N ++ [⟨a, b, c, l⟩], s.P ++ [p], s.Z ++ [0], s.K ++ [[]]⟩ := by
   refine ⟨by simp [h.p], fun j hj hl => ?_⟩;simp only [PK, List.length_cons, List.length_nil] at hl;simp only [Pt];by_cases e : j < s.N.length
   ·rw [PQ (by rw [h.p]; exact e)];have := h.up j hj e
    rwa [Pt] at this
   ·have ej : j = s.P.length := by rw [h.p]; omega
    rw [ej, PY (Ps _), Nat.sub_self];have := hp (by omega);rw [<- h.p] at this;exact this
  have h1 := KG l s.N.length _ h0 (by simp);exact ⟨h1.p, h1.up⟩
theorem KG : ∀ (l : List B8) (a : Nat) (s : PS), Up s -> a < s.N.length -> Up (C8 l a s)
 | [], a, s, h, _ => h
 | k :: r, a, s, h, ha => by
  have h1 := Gl k a s h (fun _ => ⟨by omega, by omega⟩);have hl := CT k a s;exact KG r a _ ⟨h1.p, h1.up⟩ (by show a < (C1 k a s).N.length; omega)
end
def CA (P : List Int) (a b : Nat) (i : Nat) : List Int := ((List.range' a (b - a)).filter (fun j => decide (P.getD j 0 = (i : Int)))).map (fun j : Nat => (j : Int))
theorem CD {P : List Int} {a m b i : Nat} (h1 : a <= m) (h2 : m <= b) : CA P a b i = CA P a m i ++ CA P m b i := by
 unfold CA;rw [<- Qs, <- Sc]
 congr 2
 have h := List.range'_append (s := a) (m := m - a) (n := b - m) (step := 1);rw [Nat.one_mul, show a + (m - a) = m by omega, show m - a + (b - m) = b - a by omega] at h;exact h.symm
theorem It {P Q : List Int} {a b i : Nat} (h : ∀ j, a <= j -> j < b -> P.getD j 0 = Q.getD j 0) : CA P a b i = CA Q a b i := by
 unfold CA
 congr 1
 refine List.filter_congr fun j hj => ?_
 rw [List.mem_range'_1] at hj;rw [h j hj.1 (by omega)]
theorem Cq {P : List Int} {a b i : Nat} (h : ∀ j, a <= j -> j < b -> P.getD j 0 ≠ (i : Int)) : CA P a b i = [] := by
 unfold CA;rw [List.filter_eq_nil_iff.2, PZ];intro j hj;rw [List.mem_range'_1] at hj;simpa using h j hj.1 (by omega)
theorem GA {P : List Int} {a i : Nat} (h : P.getD a 0 = (i : Int)) : CA P a (a + 1) i = [(a : Int)] := by
 unfold CA;rw [show a + 1 - a = 1 by omega, show List.range' a 1 = [a] from rfl, Qv (by simpa using h)];rfl
theorem Fr {α : Type} {l l' : List α} {i : Nat} {d : α} (h : l'[i]? = l[i]?) : l'.getD i d = l.getD i d := by rw [Pt, Pt, h]
mutual
theorem FM : ∀ (x : B8) (p : Int) (s : PS), Up s -> Wf s -> p < (s.N.length : Int) -> (0 < s.N.length -> 0 <= p) ->
  (C1 x p s).P.getD s.N.length 0 = p /\ (∀ j, s.N.length < j -> j < (C1 x p s).N.length -> (s.N.length : Int) <= (C1 x p s).P.getD j 0) /\
  ∀ i, s.N.length <= i -> i < (C1 x p s).N.length -> (C1 x p s).K.getD i [] = CA (C1 x p s).P s.N.length (C1 x p s).N.length i
 | ⟨a, b, c, l⟩, p, s, h, hw, hp, hp0 => by
  have h0 : Wf ⟨s.N ++ [⟨a, b, c, l⟩], s.P ++ [p], s.Z ++ [0], s.K ++ [[]]⟩ := ⟨by simp [hw.p], by simp [hw.z], by simp [hw.k]⟩;have hu0 : Up ⟨s.N ++ [⟨a, b, c, l⟩], s.P ++ [p], s.Z ++ [0], s.K ++ [[]]⟩ := by
   have := Gl ⟨a, b, c, []⟩ p s h (fun h => ⟨hp0 h, hp⟩);exact ⟨by simp [h.p], by
    have h2 := this.up;simp only [C1, C8] at h2;intro j hj hl;exact h2 j hj (by simpa using hl)⟩
  have hn0 : (s.N ++ [(⟨a, b, c, l⟩ : B8)]).length = s.N.length + 1 := by simp
  have hN : (C1 ⟨a, b, c, l⟩ p s).N = (C8 l s.N.length ⟨s.N ++ [⟨a, b, c, l⟩], s.P ++ [p], s.Z ++ [0], s.K ++ [[]]⟩).N := rfl;have hP : (C1 ⟨a, b, c, l⟩ p s).P = (C8 l s.N.length ⟨s.N ++ [⟨a, b, c, l⟩], s.P ++ [p], s.Z ++ [0], s.K ++ [[]]⟩).P := rfl;have hK : (C1 ⟨a, b, c, l⟩ p s).K = (C8 l s.N.length ⟨s.N ++ [⟨a, b, c, l⟩], s.P ++ [p], s.Z ++ [0], s.K ++ [[]]⟩).K := rfl;rw [hN, hP, hK];have hA := Hz l s.N.length ⟨s.N ++ [⟨a, b, c, l⟩], s.P ++ [p], s.Z ++ [0], s.K ++ [[]]⟩ hu0 h0 (by simp);have hB := Fl l s.N.length ⟨s.N ++ [⟨a, b, c, l⟩], s.P ++ [p], s.Z ++ [0], s.K ++ [[]]⟩ h0 (by simp);have hL := Ep l s.N.length ⟨s.N ++ [⟨a, b, c, l⟩], s.P ++ [p], s.Z ++ [0], s.K ++ [[]]⟩;obtain ⟨t, ht⟩ : ∃ t, C8 l s.N.length ⟨s.N ++ [⟨a, b, c, l⟩], s.P ++ [p], s.Z ++ [0], s.K ++ [[]]⟩ = t := ⟨_, rfl⟩;rw [ht] at hA hB hL ⊢;dsimp only at hA hB hL;rw [hn0] at hA hB hL;obtain ⟨a3, a4, a5⟩ := hA;have hPn : t.P.getD s.N.length 0 = p := by
   rw [Fr (hB.2.1 s.N.length (by omega)).1, <- hw.p];simp [Pt]
  have hK0 : (s.K ++ [[]]).getD s.N.length [] = [] := by rw [<- hw.k]; simp
  rw [hK0, Pu] at a3;refine ⟨hPn, fun j h1 h2 => ?_, fun i h1 h2 => ?_⟩
  ·rcases a4 j (by omega) h2 with h3 | h3 <;> omega
  ·rw [CD (m := s.N.length + 1) (by omega) (by omega), Cq (b := s.N.length + 1) (fun j g1 g2 => by rw [show j = s.N.length by omega, hPn]; omega), Pu];by_cases e : i = s.N.length
   ·subst e; exact a3
   ·exact a5 i (by omega) h2
theorem Hz : ∀ (l : List B8) (a : Nat) (s : PS), Up s -> Wf s -> a < s.N.length ->
  (C8 l a s).K.getD a [] = s.K.getD a [] ++ CA (C8 l a s).P s.N.length (C8 l a s).N.length a /\
  (∀ j, s.N.length <= j -> j < (C8 l a s).N.length -> (C8 l a s).P.getD j 0 = (a : Int) \/ (s.N.length : Int) <= (C8 l a s).P.getD j 0) /\
  ∀ i, s.N.length <= i -> i < (C8 l a s).N.length -> (C8 l a s).K.getD i [] = CA (C8 l a s).P s.N.length (C8 l a s).N.length i
 | [], a, s, h, hw, ha => by
  simp only [C8];exact ⟨by rw [Cq (fun j h1 h2 => by omega), Qd], fun j h1 h2 => by omega, fun i h1 h2 => by omega⟩
 | k :: r, a, s, h, hw, ha => by
  have hA := FM k a s h hw (by omega) (fun _ => by omega);have hu1 := Gl k a s h (fun _ => ⟨by omega, by omega⟩);have hl1 := Dy k a s hw;have hn1 := CT k a s;have hpos : 0 < BT k := by cases k; simp only [BT]; omega
  obtain ⟨s1, hs1⟩ : ∃ t, C1 k a s = t := ⟨_, rfl⟩;rw [C8]
  try dsimp only
  rw [hs1] at hA hu1 hl1 hn1 ⊢;have hw2 : Wf { s1 with K := s1.K.set a (s1.K.getD a [] ++ [(s.N.length : Int)]) } := ⟨hl1.1.p, hl1.1.z, by rw [Q6]; exact hl1.1.k⟩;have hu2 : Up { s1 with K := s1.K.set a (s1.K.getD a [] ++ [(s.N.length : Int)]) } := ⟨hu1.p, hu1.up⟩;have ha1 : a < s1.N.length := by omega
  have hC := Hz r a _ hu2 hw2 ha1;have hD := Fl r a _ hw2 ha1;have hn2 := Ep r a { s1 with K := s1.K.set a (s1.K.getD a [] ++ [(s.N.length : Int)]) };obtain ⟨t, ht⟩ : ∃ t, C8 r a { s1 with K := s1.K.set a (s1.K.getD a [] ++ [(s.N.length : Int)]) } = t := ⟨_, rfl⟩;rw [ht] at hC hD hn2 ⊢;dsimp only at hC hD hn2;obtain ⟨b1, b2, b3⟩ := hA;obtain ⟨c3, c4, c5⟩ := hC;have hP : ∀ j, j < s1.N.length -> t.P.getD j 0 = s1.P.getD j 0 := fun j hj => Fr (hD.2.1 j hj).1
  have hKa : s1.K.getD a [] = s.K.getD a [] := Fr (hl1.2.1 a (Qa _) ha).2.2;have hset : (s1.K.set a (s1.K.getD a [] ++ [(s.N.length : Int)])).getD a [] = s.K.getD a [] ++ [(s.N.length : Int)] := by
   rw [Pt, List.getElem?_set_self (by rw [hl1.1.k]; exact ha1), hKa]; rfl
  rw [hset] at c3;have hPn : t.P.getD s.N.length 0 = (a : Int) := (hP _ (by omega)).trans b1;refine ⟨?_, fun j h1 h2 => ?_, fun i h1 h2 => ?_⟩
  ·rw [c3, CD (m := s1.N.length) (a := s.N.length) (by omega) (by omega), CD (m := s.N.length + 1) (a := s.N.length) (b := s1.N.length) (by omega) (by omega), GA hPn, Cq (a := s.N.length + 1) (fun j g1 g2 => by rw [hP j g2]; have := b2 j (by omega) g2; omega), Qd, PP]
  ·by_cases e : j < s1.N.length
   ·rw [hP j e];by_cases e2 : j = s.N.length
    ·subst e2; exact .inl b1
    ·exact .inr (b2 j (by omega) e)
   ·rcases c4 j (by omega) h2 with h3 | h3
    ·exact .inl h3
    ·exact .inr (by omega)
  ·rw [CD (m := s1.N.length) (a := s.N.length) (by omega) (by omega)];by_cases e : i < s1.N.length
   ·have hKi : t.K.getD i [] = s1.K.getD i [] := by
     rw [Fr (hD.2.2.1 i e (by omega))];exact Fr (Q4 (by omega))
    rw [hKi, b3 i h1 e, It (fun j g1 g2 => (hP j g2)), Cq (a := s1.N.length) (fun j g1 g2 => by rcases c4 j g1 g2 with h3 | h3 <;> omega), Qd]
   ·rw [c5 i (by omega) h2, Cq (b := s1.N.length) (fun j g1 g2 => by rw [hP j g2]; have := hu1.up j (by omega) g2; omega), Pu]
end
theorem JR (x : B8) {i : Nat} (hi : i < (Bk x).N.length) : (Bk x).K.getD i [] = CA (Bk x).P 0 (Bk x).N.length i :=
 (FM x (-1) ⟨[], [], [], []⟩ ⟨rfl, fun j _ hj => by simp at hj⟩ ⟨rfl, rfl, rfl⟩ (by simp) (fun h => by simp at h)).2.2 i (Qa _) hi
end Go.Proofs.Q
namespace Go.Proofs.Q
open Go Go.RowKit Go.Lib Go.Sort Go.Proofs.V.Words Go.Proofs.V.Last Go.Proofs.V.More Go.Proofs.V.SL
attribute [local go_sem] BI BJ BY BZ Bu Bv BL BM
theorem HQ {w0 w : Pe} {Z : Nat -> Prop} {l : List Bj} {F F' : List FA} (S : Au w0 Z l F w) (h : ∀ a ∈ F', a ∈ F) : Au w0 Z l F' w := ⟨S.st, fun a ha => S.fr a (h a ha), S.old⟩
theorem P0 {pre X : List Bj} {ad : Int -> Nat} {g : List Hk} {k : Nat} {a : Bj} (h : X[k]? = some a) : (GL pre ad g X)[pre.length + (2 * g.length + k)]? = some a := by
 unfold GL;rw [PY (by omega), Q2, PY (by rw [Gh]; omega), Gh, Q2];exact h
theorem MH {w : Pe} {ad : Int -> Nat} {k : Kn} {v u : Pd} {a : Nat} (h : w.heap[ad k.id]? = some (.cells (Dc ad k v) 80 (0, 0))) (ha : ad k.id = a) (hu : pp ad k.par = u) : w.cell? ⟨a, 5, none⟩ = some u := by
 subst ha; subst hu; exact (Aa h 5).trans rfl
theorem MI {α : Type} (g : List α) (a b : α) : (g ++ [a]).set g.length b = g ++ [b] := by simp
theorem FN (N : List B8) (P : List Int) (i : Nat) : ((Bn N P i).map (·.id)).Nodup := by
 rw [CN];have : (List.range i).Nodup := List.nodup_range;exact List.Pairwise.map _ (fun a b h e => h (Int.ofNat.inj e)) this
theorem Jb {N : List B8} {P : List Int} {i : Nat} {g : List Hk} {jp : Nat} {hp : Hk} {p : Int} {y : B8} {v0 v1 : Pd} (hg : BR g = Bn N P i) (h0 : 0 < i) (hyg : N.getD i D0 = y) (hpd : P.getD i 0 = p) (ep : g[jp]? = some hp) (hpi : hp.k.id = p) :
  BR ((g ++ [(⟨(BU (i : Int) y.f0 y.f1 y.f2).k.wPar (some p), v0⟩ : Hk)]).set jp ⟨hp.k.wKids (hp.k.kids ++ [(i : Int)]), v1⟩) = Bn N P (i + 1) := by
 have ljp := (Pf.1 ep).1;rw [List.set_append_left _ _ ljp, Bn];rw [if_neg (by omega), hyg, hpd, <- hg, <- hpi];have h1 := Dp (g := g) (by rw [hg]; exact FN N P i) ep (h' := ⟨hp.k.wKids (hp.k.kids ++ [(i : Int)]), v1⟩) (f := fun k => k.wKids (k.kids ++ [(i : Int)])) rfl;rw [<- h1];simp [BR, BU, Kn.wPar]
theorem Jc {ids : List Int} {i : Nat} (h : ∀ y, y ∈ ids ↔ 0 <= y /\ y < (i : Int)) : ∀ y, y ∈ ids ++ [(i : Int)] ↔ 0 <= y /\ y < ((i + 1 : Nat) : Int) := fun y => by
 rw [List.mem_append, PC, h y]; omega
theorem Lz {w0 W : Pe} {Z4 : Nat -> Prop} {FF : List FA} {X : List Bj} {s : PS} {nN kq i gb bm gk gl jp : Nat} {ii p : Int} {ad : Int -> Nat} {g : List Hk} {ids : List Int} {hp : Hk} {y : B8} {v0 v1 : Pd} {cl : Array Pd}
  (hi : ii = (i : Int) /\ i <= nN /\ kq = nN - i + 1) (hlt : i < nN) (h6 : nN <= 1000000) (hg : BR g = Bn s.N s.P i /\ ∀ y, y ∈ ids ↔ 0 <= y /\ y < (i : Int)) (h0 : 0 < i) (hyg : s.N.getD i D0 = y) (hpd : s.P.getD i 0 = p) (ep : g[jp]? = some hp) (hpi : hp.k.id = p)
  (S : Au w0 Z4 (GL (Al gl 58 cl :: [Al gb 61 #[.map (some bm)], Bg bm (i + 1) (Bz ad ii gk) (ids ++ [ii])]) (Bz ad ii gk) ((g ++ [(⟨(BU ii y.f0 y.f1 y.f2).k.wPar (some p), v0⟩ : Hk)]).set jp ⟨hp.k.wKids (hp.k.kids ++ [ii]), v1⟩) X) FF W) :
  ∃ (ii' : Int) (i' : Nat) (ad' : Int -> Nat) (g' : List Hk) (ids' : List Int), PE .i64 (Pq (ii + 1)) = .int .i64 ii' /\ A7 (ii' = (i' : Int) /\ i' <= nN /\ nN - i = nN - i' + 1) /\ A7 (BR g' = Bn s.N s.P i' /\ (∀ y, y ∈ ids' ↔ 0 <= y /\ y < (i' : Int))) /\ A7 (Au w0 Z4 (GL [Al gb 61 #[.map (some bm)], Bg bm i' ad' ids'] ad' g' X) FF W) := by
 obtain ⟨rfl, hi1, hi2⟩ := hi;refine ⟨((i + 1 : Nat) : Int), i + 1, Bz ad i gk, _, ids ++ [(i : Int)], ?_, ⟨rfl, by omega, by omega⟩, ⟨Jb hg.1 h0 hyg hpd ep hpi, Jc hg.2⟩, ⟨S.drop⟩⟩
 congr 1
 unfold Pq; omega
theorem JS {w0 W : Pe} {Z4 : Nat -> Prop} {FF : List FA} {X : List Bj} {s : PS} {nN kq i gb bm gk : Nat} {ii : Int} {ad : Int -> Nat} {g : List Hk} {ids : List Int} {y : B8}
  (hi : ii = (i : Int) /\ i <= nN /\ kq = nN - i + 1) (hlt : i < nN) (hg : BR g = Bn s.N s.P i /\ ∀ y, y ∈ ids ↔ 0 <= y /\ y < (i : Int)) (h0 : i = 0) (hyg : s.N.getD i D0 = y)
  (S : Au w0 Z4 (GL [Al gb 61 #[.map (some bm)], Bg bm (i + 1) (Bz ad ii gk) (ids ++ [ii])] (Bz ad ii gk) (g ++ [BU ii y.f0 y.f1 y.f2]) X) FF W) :
  ∃ (ii' : Int) (i' : Nat) (ad' : Int -> Nat) (g' : List Hk) (ids' : List Int), PE .i64 (Pq (ii + 1)) = .int .i64 ii' /\ A7 (ii' = (i' : Int) /\ i' <= nN /\ nN - i = nN - i' + 1) /\ A7 (BR g' = Bn s.N s.P i' /\ (∀ y, y ∈ ids' ↔ 0 <= y /\ y < (i' : Int))) /\ A7 (Au w0 Z4 (GL [Al gb 61 #[.map (some bm)], Bg bm i' ad' ids'] ad' g' X) FF W) := by
 obtain ⟨rfl, hi1, hi2⟩ := hi;subst h0;refine ⟨((0 + 1 : Nat) : Int), 0 + 1, Bz ad ((0 : Nat) : Int) gk, _, ids ++ [((0 : Nat) : Int)], by congr 1; unfold Pq; omega, ⟨rfl, by omega, by omega⟩, ⟨?_, Jc hg.2⟩, ⟨S⟩⟩;have e : Bn s.N s.P (0 + 1) = [⟨((0 : Nat) : Int), (s.N.getD 0 D0).f0, (s.N.getD 0 D0).f1, (s.N.getD 0 D0).f2, none, []⟩] := rfl;rw [e, hyg];have e2 : g = [] := by
  have h1 := hg.1;cases g with
  | nil => rfl
  | cons a r => simp [BR, Bn] at h1
 subst e2;rfl
theorem G1 {w0 w : Pe} {Z : Nat -> Prop} {l : List Bj} {F : List FA} (S : Au w0 Z l F w) (x : B8) {A : Option Addr} {c : Nat} (hx : BT x <= 1000000) (jf : Nat) (hF : F[jf]? = some (AF AY A c x.f3))
  (hP : ∀ j, 0 < j -> j < (Bk x).N.length -> 0 <= (Bk x).P.getD j 0 /\ (Bk x).P.getD j 0 < (j : Int)) (hPl : (Bk x).P.length = (Bk x).N.length) (hNl : (Bk x).N.length <= 1000000) :
  PJ Try.prog 20 #[Ew x A c] w fun e w' => ∃ (gb bm : Nat) (Z' : Nat -> Prop) (ad : Int -> Nat), e = .returned (.pointer (some ⟨gb, 0, none⟩)) /\ (∀ k, Z k -> Z' k) /\ AG w0 Z' F gb bm [] l (Bk x).N.length ad (Bn (Bk x).N (Bk x).P (Bk x).N.length) w' := by
 have HO : ∀ (l' : List Bj) W, Au w0 Z l' F W -> PJ Try.prog 27 #[.agg #[.int .i64 x.f0, .string x.f1, .string x.f2, .slice A x.f3.length c]] W fun e w' => ∃ (an : Option Addr) (cn : Nat) (ap : Option Addr) (cp : Nat) (az : Option Addr) (cz : Nat) (ak : Option Addr) (ck : Nat), e = .returned (.agg #[.slice an (Bk x).N.length cn, .slice ap (Bk x).P.length cp, .slice az (Bk x).Z.length cz, .slice ak (Bk x).K.length ck]) /\ ∃ Z4 : Nat -> Prop, (∀ k, Z k -> Z4 k) /\ Au w0 Z4 l' ([AF AY an cn (Bk x).N, AF (Kd.int .i64) ap cp (Bk x).P, AF (Kd.int .i64) az cz (Bk x).Z, AF (Kd.slice 3 (Kd.int .i64)) ak ck (Bk x).K] ++ F) w' := fun l' W SW =>
  (Ex SW x hx (SW.rdC jf hF) (SW.rdL jf hF)).mono (by rintro e w' ⟨q, rfl, _, S4⟩; exact ⟨_, _, _, _, _, _, _, _, rfl, _, fun k h => .inl h, S4⟩)
 obtain ⟨s, hs⟩ : ∃ s, s = Bk x := ⟨_, rfl⟩;rw [<- hs] at hP hPl hNl HO ⊢;obtain ⟨nN, hnN⟩ : ∃ nN, s.N.length = nN := ⟨_, rfl⟩;rw [hnN] at hP hPl hNl HO ⊢;replace HO := A7.mk HO;have hB := A7.mk (⟨hP, hPl, hNl, hnN⟩ : _ /\ _ /\ _ /\ _);clear hP hPl hNl hs hF hnN;unfold Ew;have hu24 := Try.underlying24;have hu71 := Try.underlying71;have hmm := @run_makeMap Try.prog;go_enter Try.func20, Try.ntmps20
 go_wp2_with (first | ((with_reducible refine AE (N := 1) rfl ?_); refine Aw ?hg (N := 1) ?hd (cs := #[.int .i64 x.f0, .string x.f1, .string x.f2, .slice A x.f3.length c]) (t := 24) ?hr ?_; (case hd => rfl); (case hg => rfl); (case hr => first | (go_simp; done) | (go_simp; rfl)); intro g1 hg_ w1 hbox hb; replace S := S.box hg_ hbox hb; clear hbox hb hg_; obtain ⟨⟨t0, t1, t2, t3⟩, t4, t5, t6, t7⟩ := box4 (S.at_blk 0 rfl)) | ((with_reducible refine AE (N := 10) rfl ?_); replace S := Nl S (fun _ => 0); refine Aw ?hg (N := 10) ?hd (cs := #[.map (some w1.heap.size)]) (t := 61) ?hr ?_; (case hd => rfl); (case hg => rfl); (case hr => first | (go_simp; done) | (go_simp; rfl)); intro gb hg_ w2 hbox hb; replace S := S.box hg_ hbox hb; clear hbox hb hg_; clear t0 t1 t2 t3 t4 t5 t6 t7; obtain ⟨⟨t0, t1, t2, t3⟩, t4, t5, t6, t7⟩ := box4 (S.at_blk 2 rfl); obtain ⟨bm, hbm⟩ : ∃ bm, w1.heap.size = bm := ⟨_, rfl⟩; rw [hbm] at S ⊢; clear hbm) | (go_at_call 27; refine (HO.out _ _ S).mono ?_; clear S; rintro e_ w3 ⟨an, cn, ap, cp, az, cz, ak, ck, rfl, Z4, hZ4, S⟩; clear t0 t1 t2 t3 t4 t5 t6 t7) | ((with_reducible refine AE (N := 4) rfl ?_); refine Aw ?hg (N := 4) ?hd (cs := #[.slice none 0 0, .slice none 0 0, .slice none 0 0, .slice none 0 0]) (t := 71) ?hr ?_; (case hd => rfl); (case hg => rfl); (case hr => first | (go_simp; done) | (go_simp; rfl)); intro gp hg_ w4 hbox hb; replace S := S.box hg_ hbox hb; clear hbox hb hg_; obtain ⟨⟨p0, p1, p2, p3⟩, p4, p5, p6, p7⟩ := box4 (S.at_blk 0 rfl)))
 have S2 := S.set4 (.slice an nN cn) (.slice ap s.P.length cp) (.slice az s.Z.length cz) (.slice ak s.K.length ck);clear S p0 p1 p2 p3 p4 p5 p6 p7;have S := A7.mk S2;replace hZ4 := A7.mk hZ4;clear S2
 go_loopg [16] (nN + 1) (fun kq v16 W => ∃ (ii : Int) (i : Nat) (ad : Int -> Nat) (g : List Hk) (ids : List Int), v16 = .int .i64 ii /\ A7 (ii = (i : Int) /\ i <= nN /\ kq = nN - i + 1) /\ A7 (BR g = Bn s.N s.P i /\ (∀ y, y ∈ ids ↔ 0 <= y /\ y < (i : Int))) /\ A7 (Au w0 Z4 (GL [Al gb 61 #[.map (some bm)], Bg bm i ad ids] ad g (Al gp 71 #[.slice an nN cn, .slice ap s.P.length cp, .slice az s.Z.length cz, .slice ak s.K.length ck] :: Al g1 24 #[.int .i64 x.f0, .string x.f1, .string x.f2, .slice A x.f3.length c] :: l)) ([AF AY an cn s.N, AF (Kd.int .i64) ap cp s.P, AF (Kd.int .i64) az cz s.Z, AF (Kd.slice 3 (Kd.int .i64)) ak ck s.K] ++ F) W))
 case atStart => exact ⟨0, 0, fun _ => 0, [], [], rfl, ⟨rfl, Qa _, rfl⟩, ⟨rfl, fun y => by simp <;> omega⟩, ⟨S.out.perm (List.perm_middle (l₁ := [Al gb 61 #[.map (some bm)], Bg bm 0 (fun _ => 0) []])).symm⟩⟩
 case round =>
  clear S;obtain ⟨ii, i, ad, g, ids, rfl, hi, hg, SW⟩ := hrel;obtain ⟨hBP, hBl, hB6, hBN⟩ := hB.out;by_cases hlt2 : i < nN
  ·have c1 : decide (ii < (nN : Int)) = true := decide_eq_true (by rw [hi.out.1]; omega);have c2 : decide (0 <= ii) = true := decide_eq_true (by rw [hi.out.1]; omega);have c3_ : 0 <= ii := of_decide_eq_true c2;have c4_ : ii < (nN : Int) := of_decide_eq_true c1;obtain ⟨ad24, A3, c3, rfl, y0, y1, y2, y3, _, _⟩ := Cw (SW.out.rdC 0 rfl) ii (by rw [hi.out.1]; omega) (by rw [hi.out.1, hBN]; omega);obtain ⟨y, hy⟩ : ∃ y, Aj s.N ii = y := ⟨_, rfl⟩;rw [hy] at y0 y1 y2 y3;have hyg : s.N.getD i D0 = y := by rw [<- hy, hi.out.1]; rfl
   replace hyg := A7.mk hyg;have hI : ∀ x ∈ g, x.k.id ≠ ii /\ (∀ p, x.k.par = some p -> p ≠ ii) /\ ∀ z ∈ x.k.kids, z ≠ ii := by
    intro x hx;have hgx := hg.out.1;have hxk : x.k ∈ Bn s.N s.P i := by rw [<- hgx]; exact PF.2 ⟨x, hx, rfl⟩
    have hi0 : 0 < i := by
     cases i with
     | zero => cases hxk
     | succ i => exact Nat.succ_pos _
    have I := E8 (N := s.N) (n := nN) hB6 hBP i hi0 (Nat.le_of_lt hlt2);have hin : ∀ k ∈ Bn s.N s.P i, k.id < ii := fun k hk => by
     rw [hi.out.1]; exact (D1.1 (PF.2 ⟨k, hk, rfl⟩)).2
    refine ⟨Int.ne_of_lt (hin _ hxk), fun p hp => ?_, fun z hz => ?_⟩
    ·obtain ⟨q, hq, e, _⟩ := I.par _ hxk p hp;rw [<- e]; exact Int.ne_of_lt (hin q hq)
    ·obtain ⟨q, hq, e, _⟩ := I.kids _ hxk z hz;rw [<- e]; exact Int.ne_of_lt (hin q hq)
   have hni : ii ∉ ids := fun h => by have := (hg.out.2 ii).1 h; rw [hi.out.1] at this; omega
   have h64 : in64 ii := by rw [hi.out.1]; exact Ey (by omega)
   have hm2 : i < R7 := by simp only [R7]; omega
   have HN := A7.mk (⟨hI, hni, h64, hm2, hlt2⟩ : _ /\ _ /\ _ /\ _ /\ _);clear hI hni h64 hm2 hlt2 hy hBP hBl hB6 hBN;by_cases h0 : 0 < i
   ·have c9 : decide (0 < ii) = true := decide_eq_true (by rw [hi.out.1]; omega);replace h0 := A7.mk h0
    go_wp2_with (first | ((with_reducible refine AE (N := 6) rfl ?_); have S := SW.out; refine Aw ?hg (N := 6) ?hd (cs := #[.int .i64 0, .string (⟨#[]⟩ : ByteArray), .string (⟨#[]⟩ : ByteArray), .slice none 0 0]) (t := 24) ?hr ?_; (case hd => rfl); (case hg => rfl); (case hr => first | (go_simp; done) | (go_simp; rfl)); intro g6 hg_ w6 hbox hb; replace S := S.box hg_ hbox hb; clear hbox hb hg_; obtain ⟨⟨n0, n1, n2, n3⟩, n4, n5, n6, n7⟩ := box4 (S.at_blk 0 rfl)) | ((with_reducible refine AE (N := 24) rfl ?_); replace S := S.set4 (.int .i64 y.f0) (.string y.f1) (.string y.f2) (.slice A3 y.f3.length c3); clear n0 n1 n2 n3 n4 n5 n6 n7; refine Aw ?hg (N := 24) ?hd (cs := #[.int .i64 ii, .int .i64 y.f0, .string y.f1, .string y.f2, .slice A3 y.f3.length c3, .pointer none, .slice none 0 0]) (t := 80) ?hr ?_; (case hd => rfl); (case hg => rfl); (case hr => first | (go_simp; done) | (go_simp; rfl)); intro gk hg_ w7 hbox hb; replace S := S.box hg_ hbox hb; clear hbox hb hg_; have k4 : w7.cell? ⟨gk, 4, none⟩ = some (.slice A3 y.f3.length c3) := (Aa (S.at_blk 0 rfl) 4).trans rfl; have k4f := Ad (S.at_blk 0 rfl) 4; have hb0 : w7.cell? ⟨gb, 0, none⟩ = some (.map (some bm)) := (Aa (S.at_blk 2 rfl) 0).trans rfl; have hne1 := FB S (i := 0) (j := 2) rfl rfl (by decide); have hne2 := Ry hne1) | (have S8 := S.of (S.st.set (i := 0) rfl 4 (.slice none 0 0)); have S9 := KC (pre := [Al gb 61 #[.map (some bm)], Bg bm i ad ids]) ii y.f0 y.f1 y.f2 (S8.perm (Qq _ _ _)).drop HN.out.1; obtain ⟨w8, hr8, S10, _⟩ := Gi S9 1 rfl HN.out.2.2.1 HN.out.2.1 HN.out.2.2.2.1 gk; refine D2 rfl 59 _ _ _ rfl _ _ _ (by rfl) (by rfl) (by rfl) hr8 ?_; have S10b : Au w0 Z4 (GL [Al gb 61 #[.map (some bm)], Bg bm (i + 1) (Bz ad ii gk) (ids ++ [ii])] (Bz ad ii gk) (g ++ [BU ii y.f0 y.f1 y.f2]) (Al gp 71 #[.slice (some ad24) nN cn, .slice ap s.P.length cp, .slice az s.Z.length cz, .slice ak s.K.length ck] :: Al g1 24 #[.int .i64 x.f0, .string x.f1, .string x.f2, .slice A x.f3.length c] :: l)) _ w8 := S10; clear S10; have S10 := A7.mk S10b; clear S10b S8 S9 S k4 k4f hb0 hne1 hne2 hr8))
    have hjp : ∃ (jp : Nat) (hp : Hk), g[jp]? = some hp /\ hp.k.id = rd s.P ii := by
     have h1 := hB.out.1 i h0.out HN.out.2.2.2.2;have e : rd s.P ii = s.P.getD i 0 := by rw [hi.out.1]; rfl
     have h2 : rd s.P ii ∈ (BR g).map (·.id) := by rw [hg.out.1, e]; exact D1.2 h1
     obtain ⟨k, hk, e2⟩ := PF.1 h2;obtain ⟨j, h, f1, f2⟩ := E5 hk;exact ⟨j, h, f1, by rw [f2]; exact e2⟩
    obtain ⟨jp, hp, ep, hpi⟩ := hjp;obtain ⟨p, hpp⟩ : ∃ p, rd s.P ii = p := ⟨_, rfl⟩;have hpr : 0 <= p /\ p < ii := by
     have h1 := hB.out.1 i h0.out HN.out.2.2.2.2;rw [<- hpp, hi.out.1]; exact h1
    have hpd : s.P.getD i 0 = p := by rw [<- hpp, hi.out.1]; rfl
    have ljp := (Pf.1 ep).1;have ep2 : (g ++ [BU ii y.f0 y.f1 y.f2])[jp]? = some hp := by rw [PQ ljp]; exact ep
    have ex2 : (g ++ [BU ii y.f0 y.f1 y.f2])[g.length]? = some (BU ii y.f0 y.f1 y.f2) := by simp
    obtain ⟨adP, eP, cP⟩ := Kd.at_int (S10.out.rdC 1 rfl) ii c3_ (by rw [hB.out.2.1]; exact c4_);rw [hpp] at cP hpi;have hb8 : w8.cell? ⟨gb, 0, none⟩ = some (.map (some bm)) := (Aa (S10.out.at_blk 0 rfl) 0).trans rfl;have hg8 : w8.cell? ⟨gp, 1, none⟩ = some (.slice ap s.P.length cp) := (Aa (S10.out.at_blk (g := gp) (t := 71) (cs := #[.slice (some ad24) nN cn, .slice ap s.P.length cp, .slice az s.Z.length cz, .slice ak s.K.length ck]) _ (P0 (k := 0) rfl)) 1).trans rfl;rw [eP, hB.out.2.1] at hg8;have l8 := Ml S10.out.drew 1 rfl (x := p) (by have := HN.out.2.2.1; unfold in64 at *; omega);have hpm : p ∈ ids ++ [ii] := Sg _ ((hg.out.2 p).2 ⟨hpr.1, by rw [<- hi.out.1]; exact hpr.2⟩);obtain ⟨b, hb⟩ : ∃ b, ad p = b := ⟨_, rfl⟩;have had : Bz ad ii gk p = b := by rw [Ct _ _ (by omega)]; exact hb
    have hadi : Bz ad ii gk ii = gk := DR _ _ _;rw [if_pos hpm] at l8;have epk : pk (Bz ad ii gk) p = .pointer (some ⟨b, 0, none⟩) := by unfold pk; rw [had]
    have epi : pk (Bz ad ii gk) ii = .pointer (some ⟨gk, 0, none⟩) := by unfold pk; rw [hadi]
    change (Instr.lookup 59 (.map (some bm)) (.int .i64 p) BK).run Try.prog w8.drew = .ok (pk (Bz ad ii gk) p) w8.drew at l8;rw [epk] at l8;have hkb := AR S10.out ex2;rw [show (BU ii y.f0 y.f1 y.f2).k.id = ii from rfl, hadi] at hkb;have hk5 : w8.cell? ⟨gk, 5, none⟩ = some (.pointer none) := (Aa hkb 5).trans rfl;have hk5f := Ad hkb 5;have S11 := EM S10.out ex2 (some p);rw [MI, show (BU ii y.f0 y.f1 y.f2).k.id = ii from rfl, hadi, show pp (Bz ad ii gk) (some p) = .pointer (some ⟨b, 0, none⟩) from epk] at S11;obtain ⟨A5, c5, ev5, _⟩ := Co (C5 S10.out ep2);have HP := A7.mk (⟨ep, hpi, hpr, hpd, ljp, had, hadi, epk, epi, ev5⟩ : _ /\ _ /\ _ /\ _ /\ _ /\ _ /\ _ /\ _ /\ _ /\ _);replace S11 := A7.mk S11.drew;have hmix : Try.prog.follows .mixedOrders = true := by kernel_rfl
    clear hkb ex2 ep2 ep hpi hpr hpd ljp had hadi epk epi ev5 hpp hpm hb eP S10
    go_region_o
    go_wp2;obtain ⟨ep, hpi, hpr, hpd, ljp, had, hadi, epk, epi, ev5⟩ := HP.out;obtain ⟨wb, hwb⟩ : ∃ wb, (w8.setCell ⟨gk, 5, none⟩ (.pointer (some ⟨b, 0, none⟩))).drew = wb := ⟨_, rfl⟩;rw [hwb] at S11 ⊢;clear hwb hb8 hg8 l8 hk5 hk5f cP;have ep3 : (g ++ [(⟨(BU ii y.f0 y.f1 y.f2).k.wPar (some p), (BU ii y.f0 y.f1 y.f2).v⟩ : Hk)])[jp]? = some hp := by rw [PQ ljp]; exact ep
    have ex3 : (g ++ [(⟨(BU ii y.f0 y.f1 y.f2).k.wPar (some p), (BU ii y.f0 y.f1 y.f2).v⟩ : Hk)])[g.length]? = some ⟨(BU ii y.f0 y.f1 y.f2).k.wPar (some p), (BU ii y.f0 y.f1 y.f2).v⟩ := by simp
    have hkb := AR S11.out ex3;rw [show ((⟨(BU ii y.f0 y.f1 y.f2).k.wPar (some p), (BU ii y.f0 y.f1 y.f2).v⟩ : Hk).k.id) = ii from rfl, hadi] at hkb;have hk5 : wb.cell? ⟨gk, 5, none⟩ = some (.pointer (some ⟨b, 0, none⟩)) := (Aa hkb 5).trans (by show some (pp _ (some p)) = _; rw [<- epk]; rfl);have hpb := AR S11.out ep3;rw [hpi, had] at hpb;have hb6 : wb.cell? ⟨b, 6, none⟩ = some (.slice A5 hp.k.kids.length c5) := (Aa hpb 6).trans (by show some hp.v = _; rw [ev5]);have hb6f := Ad hpb 6;have hlb : b < wb.heap.size := Pb wb _ hb6;have hlk : gk < wb.heap.size := Pb wb _ hk5;have hk5a := (QH (w := wb) (.cells #[.pointer (some ⟨gk, 0, none⟩)] 58) ⟨gk, 5, none⟩ hlk).trans hk5;have hb6a := (QH (w := wb) (.cells #[.pointer (some ⟨gk, 0, none⟩)] 58) ⟨b, 6, none⟩ hlb).trans hb6;have S12 : Au w0 Z4 (GL (Al wb.heap.size 58 #[.pointer (some ⟨gk, 0, none⟩)] :: [Al gb 61 #[.map (some bm)], Bg bm (i + 1) (Bz ad ii gk) (ids ++ [ii])]) (Bz ad ii gk) (g ++ [⟨(BU ii y.f0 y.f1 y.f2).k.wPar (some p), (BU ii y.f0 y.f1 y.f2).v⟩]) (Al gp 71 #[.slice (some ad24) nN cn, .slice ap s.P.length cp, .slice az s.Z.length cz, .slice ak s.K.length ck] :: Al g1 24 #[.int .i64 x.f0, .string x.f1, .string x.f2, .slice A x.f3.length c] :: l)) _ (wb.drew.alloc (.cells #[.pointer (some ⟨gk, 0, none⟩)] 58)) := (S11.out.drew).box rfl (Pv wb.drew _) (Ah (Pn _ _) _);have hrow := S12.rowAt _ (CV ep3);rw [ev5] at hrow;have hlit := Kz (S12.at_blk 0 rfl);have hkl : hp.k.kids.length <= 1000000 := by
     have I := E8 (N := s.N) (n := nN) hB.out.2.2.1 hB.out.1 i h0.out (Nat.le_of_lt HN.out.2.2.2.2);have h1 := I.kids_len (k := hp.k) (by rw [<- hg.out.1]; exact Dn ep);have h2 : (Bn s.N s.P i).length = i := by have := congrArg List.length (CN s.N s.P i); simpa using this
     have := hB.out.2.2.1; have := HN.out.2.2.2.2; omega
    have HR := A7.mk (⟨hrow, hlit, S12, ep3, hkl, hpi, had, epi, ex3⟩ : _ /\ _ /\ _ /\ _ /\ _ /\ _ /\ _ /\ _ /\ _);clear hkb hpb hrow hlit S12 ep3 hkl ep ex3 hpi hpr hpd ljp had hadi epk epi ev5
    go_region_law (refine CI (by rfl) (.tmp 60) (.tmp 62) 78 58 (.pointer none) 1 8 (by rfl) Try.underlying78 JI rfl (by decide) (by decide) (.slice A5 hp.k.kids.length c5) (.slice (some ⟨wb.heap.size, 0, none⟩) 1 1) hp.k.kids.length (hp.k.kids.map (pk (Bz ad ii gk))) [.pointer (some ⟨gk, 0, none⟩)] (by simp [Act.eval, Ph]) (by simp [Act.eval, Ph]) (fun u hu => by rw [PC.1 hu]; rfl) HR.out.1 HR.out.2.1 (by have := HR.out.2.2.2.2.1; omega) ?_; intro v1 w12 ho1 hg1 hat1; obtain ⟨A6, c6, e6, _⟩ := Co ho1; subst e6; have S13 := HR.out.2.2.1.updRow _ (v' := .slice A6 (hp.k.kids.length + 1) c6) (n' := (hp.k.kids ++ [ii]).length) (xs' := (hp.k.kids ++ [ii]).map (pk (Bz ad ii gk))) (CV HR.out.2.2.2.1) (by rw [PK, Qs]; show w12.ownsRow 0 58 1 _ _ (_ ++ [pk _ ii]); rw [HR.out.2.2.2.2.2.2.2.1]; exact ho1) (by rw [HP.out.2.2.2.2.2.2.2.2.2]; exact hg1) (by rw [HP.out.2.2.2.2.2.2.2.2.2]; exact hat1); have hk13 := S13.at_blk (3 + 2 * g.length) ((Q4 (show 3 + (2 * jp + 1) ≠ 3 + 2 * g.length by have := HP.out.2.2.2.2.1; omega)).trans (E2 HR.out.2.2.2.2.2.2.2.2)); have hk5d := MH (k := (BU ii y.f0 y.f1 y.f2).k.wPar (some p)) hk13 HP.out.2.2.2.2.2.2.1 HP.out.2.2.2.2.2.2.2.1; clear hk13; obtain ⟨S14, q6, q6f⟩ := E3 HR.out.2.2.2.1 S13; rw [HR.out.2.2.2.2.2.1, HR.out.2.2.2.2.2.2.1] at S14 q6 q6f; replace S14 := A7.mk S14; clear ho1 hg1 hat1 S13)
    all_goals (
     go_wp2
     go_roundg (nN - i)
     case rel => exact Lz hi.out HN.out.2.2.2.2 hB.out.2.2.1 hg.out h0.out hyg.out HP.out.2.2.2.1 HP.out.1 HP.out.2.1 S14.out
     case measure => have := hi.out; have := HN.out.2.2.2.2; omega)
   ·have c9 : decide (0 < ii) = BK := decide_eq_false (by rw [hi.out.1]; omega);have hi0 : i = 0 := by omega
    replace h0 := A7.mk hi0;clear hi0
    go_wp2_with (first | ((with_reducible refine AE (N := 6) rfl ?_); have S := SW.out; refine Aw ?hg (N := 6) ?hd (cs := #[.int .i64 0, .string (⟨#[]⟩ : ByteArray), .string (⟨#[]⟩ : ByteArray), .slice none 0 0]) (t := 24) ?hr ?_; (case hd => rfl); (case hg => rfl); (case hr => first | (go_simp; done) | (go_simp; rfl)); intro g6 hg_ w6 hbox hb; replace S := S.box hg_ hbox hb; clear hbox hb hg_; obtain ⟨⟨n0, n1, n2, n3⟩, n4, n5, n6, n7⟩ := box4 (S.at_blk 0 rfl)) | ((with_reducible refine AE (N := 24) rfl ?_); replace S := S.set4 (.int .i64 y.f0) (.string y.f1) (.string y.f2) (.slice A3 y.f3.length c3); clear n0 n1 n2 n3 n4 n5 n6 n7; refine Aw ?hg (N := 24) ?hd (cs := #[.int .i64 ii, .int .i64 y.f0, .string y.f1, .string y.f2, .slice A3 y.f3.length c3, .pointer none, .slice none 0 0]) (t := 80) ?hr ?_; (case hd => rfl); (case hg => rfl); (case hr => first | (go_simp; done) | (go_simp; rfl)); intro gk hg_ w7 hbox hb; replace S := S.box hg_ hbox hb; clear hbox hb hg_; have k4 : w7.cell? ⟨gk, 4, none⟩ = some (.slice A3 y.f3.length c3) := (Aa (S.at_blk 0 rfl) 4).trans rfl; have k4f := Ad (S.at_blk 0 rfl) 4; have hb0 : w7.cell? ⟨gb, 0, none⟩ = some (.map (some bm)) := (Aa (S.at_blk 2 rfl) 0).trans rfl; have hne1 := FB S (i := 0) (j := 2) rfl rfl (by decide); have hne2 := Ry hne1) | (have S8 := S.of (S.st.set (i := 0) rfl 4 (.slice none 0 0)); have S9 := KC (pre := [Al gb 61 #[.map (some bm)], Bg bm i ad ids]) ii y.f0 y.f1 y.f2 (S8.perm (Qq _ _ _)).drop HN.out.1; obtain ⟨w8, hr8, S10, _⟩ := Gi S9 1 rfl HN.out.2.2.1 HN.out.2.1 HN.out.2.2.2.1 gk; refine D2 rfl 59 _ _ _ rfl _ _ _ (by rfl) (by rfl) (by rfl) hr8 ?_; have S10b : Au w0 Z4 (GL [Al gb 61 #[.map (some bm)], Bg bm (i + 1) (Bz ad ii gk) (ids ++ [ii])] (Bz ad ii gk) (g ++ [BU ii y.f0 y.f1 y.f2]) (Al gp 71 #[.slice (some ad24) nN cn, .slice ap s.P.length cp, .slice az s.Z.length cz, .slice ak s.K.length ck] :: Al g1 24 #[.int .i64 x.f0, .string x.f1, .string x.f2, .slice A x.f3.length c] :: l)) _ w8 := S10; clear S10; have S10 := A7.mk S10b; clear S10b S8 S9 S k4 k4f hb0 hne1 hne2 hr8))
    go_roundg (nN - i)
    case rel => exact JS hi.out HN.out.2.2.2.2 hg.out h0.out hyg.out S10.out
    case measure => have := hi.out; have := HN.out.2.2.2.2; omega
  ·have hik : i = nN := by have := hi.out.2.1; omega
   have c1 : decide (ii < (nN : Int)) = BK := decide_eq_false (by rw [hi.out.1]; omega);replace hik := A7.mk hik;clear hlt2 hBP hBl hB6 hBN;go_wp2
   go_ret
   refine ⟨gb, bm, Z4, ad, rfl, hZ4.out, g, ids, i, by rw [hg.out.1, hik.out], by rw [hik.out]; exact Ps _, fun y => ?_, ?_⟩
   ·rw [hg.out.2 y, <- hik.out]; exact (D1).symm
   ·have S20 := HQ SW.out (F' := F) (fun a ha => List.mem_append_right _ ha);have S21 := S20.perm (l' := Al gp 71 #[.slice an nN cn, .slice ap s.P.length cp, .slice az s.Z.length cz, .slice ak s.K.length ck] :: Al g1 24 #[.int .i64 x.f0, .string x.f1, .string x.f2, .slice A x.f3.length c] :: GL [Al gb 61 #[.map (some bm)], Bg bm i ad ids] ad g l) (by
     unfold GL;have h1 : ∀ (u v : Bj) (p q r : List Bj), (p ++ (q ++ (u :: v :: r))).Perm (u :: v :: (p ++ (q ++ r))) := fun u v p q r => by
      have := (Q8 (l₁ := p ++ q) (l₂ := [u, v])).append_right r;simpa using this
     exact h1 _ _ _ _ _)
    exact S21.drop.drop
end Go.Proofs.Q
namespace Go.Proofs.Q
def GB (N : List B8) (P : List Int) (m i : Nat) : Kn := ⟨(i : Int), (N.getD i D0).f0, (N.getD i D0).f1, (N.getD i D0).f2, if i = 0 then none else some (P.getD i 0), CA P 1 m i⟩
theorem HU {N : List B8} {P : List Int} {n : Nat} (hP : ∀ j, 0 < j -> j < n -> 0 <= P.getD j 0 /\ P.getD j 0 < (j : Int)) : ∀ m, m <= n -> ∀ i, i < m -> CY (Bn N P m) (i : Int) = some (GB N P m i)
 | 0, _, i, hi => by omega
 | m + 1, hm, i, hi => by
  have ih := HU (N := N) hP m (by omega);by_cases h0 : m = 0
  ·subst h0;have : i = 0 := by omega
   subst this;rw [Bn]
   try dsimp only
   rw [if_pos rfl];rfl
  ·have hPm := hP m (by omega) (by omega);rw [Bn]
   try dsimp only
   rw [if_neg h0];unfold CY;rw [List.find?_append];have hup : (BN (Bn N P m) (P.getD m 0) (fun k => k.wKids (k.kids ++ [(m : Int)]))).find? (fun k => decide (k.id = (i : Int))) = (CY (Bn N P m) (i : Int)).map (fun k => if k.id = P.getD m 0 then k.wKids (k.kids ++ [(m : Int)]) else k) := Mz (fun _ => rfl);rw [hup];by_cases e : i < m
   ·rw [ih i e, Option.map_some, Option.some_or]
    congr 1
    have hs := CD (P := P) (a := 1) (m := m) (b := m + 1) (i := i) (by omega) (by omega);by_cases e2 : (i : Int) = P.getD m 0
    ·rw [if_pos (show (GB N P m i).id = _ from e2)];rw [GA e2.symm] at hs;unfold GB;rw [hs];rfl
    ·rw [if_neg (show ¬ (GB N P m i).id = _ from e2)];rw [Cq (a := m) (fun j h1 h2 => by rw [show j = m by omega]; exact fun h => e2 h.symm), Qd] at hs;unfold GB;rw [hs]
   ·have ei : i = m := by omega
    subst ei;have hn : CY (Bn N P i) (i : Int) = none := CJ.2 (by rw [CN]; simp; intro x hx; omega);rw [hn, Option.map_none, Option.none_or];have hk : CA P 1 (i + 1) i = [] := Cq (fun j h1 h2 => by have := hP j (by omega) (by omega); omega);unfold GB;rw [hk, if_neg h0];simp
def CO (l lo : List Int) (i : Nat) : Nat -> Int × Int
 | 0 => (1, -1)
 | k + 1 =>
  let p := CO l lo i k
  if l.getD k 0 < l.getD i 0 /\ lo.getD k 0 + 1 > p.1 then (lo.getD k 0 + 1, (k : Int)) else p
structure Ri where
 lo : List Int
 ba : List Int
 be : Int
def FO (l : List Int) : Nat -> Ri
 | 0 => ⟨Pz l.length 0, Pz l.length 0, -1⟩
 | i + 1 =>
  let s := FO l i
  let p := CO l s.lo i i
  ⟨s.lo.set i p.1, s.ba.set i p.2, if s.be < 0 \/ p.1 > (s.lo.set i p.1).getD s.be.toNat 0 then (i : Int) else s.be⟩
def Dh (ba : List Int) : Nat -> Int -> List Int
 | 0, _ => []
 | n + 1, i => if i < 0 then [] else i :: Dh ba n (ba.getD i.toNat 0)
def CE (l : List Int) : List Int := let s := FO l l.length; Dh s.ba (l.length + 1) s.be
theorem FP {l lo : List Int} {i : Nat} (h : ∀ k, k < i -> 1 <= lo.getD k 0 /\ lo.getD k 0 <= (k : Int) + 1) : ∀ k, k <= i -> 1 <= (CO l lo i k).1 /\ (CO l lo i k).1 <= (k : Int) + 1 /\ -1 <= (CO l lo i k).2 /\ (CO l lo i k).2 < (k : Int)
 | 0, _ => by simp [CO]
 | k + 1, hk => by
  have ih := FP (l := l) h k (by omega);have h2 := h k (by omega);rw [CO]
  split
  ·refine ⟨by show 1 <= lo.getD k 0 + 1; omega, by show lo.getD k 0 + 1 <= _; omega, by show (-1 : Int) <= (k : Int); omega, by show (k : Int) < ((k + 1 : Nat) : Int); omega⟩
  ·omega
structure P1 (l : List Int) (i : Nat) (s : Ri) : Prop where
 llen : s.lo.length = l.length
 blen : s.ba.length = l.length
 lo : ∀ k, k < i -> 1 <= s.lo.getD k 0 /\ s.lo.getD k 0 <= (k : Int) + 1
 ba : ∀ k, k < i -> -1 <= s.ba.getD k 0 /\ s.ba.getD k 0 < (k : Int)
 be : -1 <= s.be /\ s.be < (i : Int)
theorem CK {l : List Int} {i k : Nat} {v : Int} : (l.set i v).getD k 0 = if i = k then (if k < l.length then v else 0) else l.getD k 0 := by
 simp only [Pt, List.getElem?_set];by_cases e : i = k
 ·subst e;rw [if_pos rfl, if_pos rfl];by_cases h : i < l.length
  ·rw [if_pos h, if_pos h]; rfl
  ·rw [if_neg h, if_neg h]; rfl
 ·rw [if_neg e, if_neg e]
theorem Iu (l : List Int) : ∀ i, i <= l.length -> P1 l i (FO l i)
 | 0, _ => ⟨by simp [FO], by simp [FO], fun k hk => absurd hk (by omega), fun k hk => absurd hk (by omega), by simp [FO]⟩
 | i + 1, hi => by
  have ih := Iu l i (by omega);have hp := FP (l := l) ih.lo i (Ps _);rw [FO];refine ⟨by rw [Q6]; exact ih.llen, by rw [Q6]; exact ih.blen, fun k hk => ?_, fun k hk => ?_, ?_⟩
  ·dsimp only;rw [CK];by_cases e : i = k
   ·rw [if_pos e, if_pos (by rw [ih.llen]; omega)]; omega
   ·rw [if_neg e]; exact ih.lo k (by omega)
  ·dsimp only;rw [CK];by_cases e : i = k
   ·rw [if_pos e, if_pos (by rw [ih.blen]; omega)]; omega
   ·rw [if_neg e]; exact ih.ba k (by omega)
  ·have := ih.be;dsimp only
   split <;> omega
end Go.Proofs.Q
namespace Go.Proofs.Q
open Go Go.RowKit Go.Lib Go.Sort Go.Proofs.V.Words Go.Proofs.V.Last Go.Proofs.V.More Go.Proofs.V.SL
attribute [local go_sem] BI BJ BY BZ Bu Bv BL BM
structure CX (x : B8) : Prop where
 sz : BT x <= 1000
 len : (Bk x).N.length = BT x
 plen : (Bk x).P.length = (Bk x).N.length
 up : ∀ j, 0 < j -> j < (Bk x).N.length -> 0 <= (Bk x).P.getD j 0 /\ (Bk x).P.getD j 0 < (j : Int)
 pos : 0 < BT x
def Bd (x : B8) : List Kn := Bn (Bk x).N (Bk x).P (Bk x).N.length
theorem Dz {x : B8} (h : CX x) : CQ (Bd x) := E8 (n := (Bk x).N.length) (by have := h.sz; have := h.len; omega) h.up _ (by have := h.len; have := h.pos; omega) (Ps _)
theorem D4 (x : B8) : (Bd x).length = (Bk x).N.length := by
 have := congrArg List.length (CN (Bk x).N (Bk x).P (Bk x).N.length);simpa [Bd] using this
theorem G4 {x : B8} (h : CX x) : (0 : Int) ∈ (Bd x).map (·.id) := D1.2 ⟨Int.le_refl _, by have := h.len; have := h.pos; omega⟩
theorem MJ {g g' : List Kn} {x : Ed} (I : CQ g) (h : Ce g x = some g') (h0 : (0 : Int) ∈ g.map (·.id)) : (0 : Int) ∈ g'.map (·.id) := by
 unfold Ce at h
 split at h
 ·split at h
  ·injection h with h; subst h; rw [J9]; exact Sg _ h0
  ·cases h
 split at h
 ·split at h
  ·cases h
  ·rename_i k hk
   split at h
   ·cases h
   ·rename_i q hq
    split at h
    ·injection h with h; subst h
     rw [Hx, Qp];refine ⟨h0, ?_⟩;simp only [decide_eq_true_eq];intro e;obtain ⟨hkm, hki⟩ := Cn hk;have := (I.root k hkm).2 (by rw [hki, <- e]);rw [this] at hq; cases hq
    ·cases h
 split at h
 ·split at h
  ·cases h
  ·injection h with h; subst h; rw [EO]; exact h0
 split at h
 ·split at h
  ·cases h
  ·split at h
   ·cases h
   ·split at h
    ·injection h with h; subst h; rw [F8]; exact h0
    ·cases h
 ·cases h
def HV (w : Pe) (nE : Nat) (R : Nat ⊕ List Kn) (e : Ending) (w' : Pe) : Prop := match R with
 | .inl i => e = .returned (.tuple #[.agg #[.int .i64 0, .string (⟨#[]⟩ : ByteArray), .string (⟨#[]⟩ : ByteArray), .slice none 0 0], .int .i64 (i : Int), .int .i64 10])
 | .inr ks => ∃ v3, e = .returned (.tuple #[.agg #[.int .i64 (BH ks 0).f0, .string (BH ks 0).f1, .string (BH ks 0).f2, v3], .int .i64 (nE : Int), .int .i64 0]) /\ Kd.R AY 24 w' w.heap.size (fun _ => True) v3 (BH ks 0).f3
theorem GC {w0 w : Pe} {Z : Nat -> Prop} {F : List FA} {gb bm N : Nat} {pre X : List Bj} {ad : Int -> Nat} {ks : List Kn} (H : AG w0 Z F gb bm pre X N ad ks w) (I : CQ ks) (hN : N < R7) (hl : ks.length <= 1000000) (y : Dm) (h1 : in64 y.f1) (h2 : in64 y.f2) :
  PJ Try.prog 21 #[.pointer (some ⟨gb, 0, none⟩), .agg #[.int .i64 y.f0, .int .i64 y.f1, .int .i64 y.f2, .int .i64 y.f3, .int .i64 y.f4, .string y.f5, .string y.f6]] w fun e w' => e = .returned (.bool (Ce ks (DM y)).isSome) /\ ∃ ad', (∀ k ∈ ks, ad' k.id = ad k.id) /\ AG w0 Z F gb bm pre X (N + 1) ad' ((Ce ks (DM y)).getD ks) w' :=
 MD H I hN hl (DM y) h1 h2
theorem Ez (x : B8) {A B : Option Addr} {c d : Nat} (es : List Dm) (w : Pe) (hr : Kd.C AY w A x.f3.length x.f3) (hc : x.f3.length <= c) (he : Kd.C EY w B es.length es) (hd : es.length <= d) (hp : CX x) (hel : es.length <= 100000) (hin : ∀ e ∈ es, in64 e.f1 /\ in64 e.f2) :
  PJ Try.prog 10 #[Ew x A c, .slice B es.length d] w fun e w' => Below w.heap.size w w' /\ HV w es.length (BV (Bd x) es 0) e w' := by
 have S : Au w (fun k => k < w.heap.size) [] [AF AY A c x.f3, AF EY B d es] w := Au.start w (by intro a ha; simp only [Qg, List.not_mem_nil, or_false] at ha; rcases ha with rfl | rfl; exact ⟨hc, Kd.C_F Cy hr⟩; exact ⟨hd, Kd.C_F M7 he⟩);obtain ⟨nE, hnE⟩ : ∃ nE, es.length = nE := ⟨_, rfl⟩;have HG : ∀ (l : List Bj) W, Au w (fun k => k < w.heap.size) l [AF AY A c x.f3, AF EY B d es] W -> PJ Try.prog 20 #[.agg #[.int .i64 x.f0, .string x.f1, .string x.f2, .slice A x.f3.length c]] W fun e w' => ∃ (gb bm : Nat) (Z' : Nat -> Prop) (ad : Int -> Nat), e = .returned (.pointer (some ⟨gb, 0, none⟩)) /\ AG w Z' [AF AY A c x.f3, AF EY B d es] gb bm [] l (BT x) ad (Bd x) w' := fun l W SW =>
  (G1 SW x (by have := hp.sz; omega) 0 rfl hp.up hp.plen (by have := hp.len; have := hp.sz; omega)).mono (by rintro e w' ⟨gb, bm, Z', ad, rfl, _, H⟩; exact ⟨gb, bm, Z', ad, rfl, by rw [<- hp.len]; exact H⟩)
 rw [hnE] at hel ⊢;replace HG := A7.mk HG;have hB := A7.mk (⟨hp, hel, hin, hnE⟩ : _ /\ _ /\ _ /\ _);obtain ⟨R, hR⟩ : ∃ R, BV (Bd x) es 0 = R := ⟨_, rfl⟩;rw [hR];replace hR := A7.mk hR;clear hp hel hin hr he hc hd hnE;unfold Ew;have hu24 := Try.underlying24;have hu54 := Try.underlying54;go_enter Try.func10, Try.ntmps10
 go_wp2_with (first | ((with_reducible refine AE (N := 2) rfl ?_); refine Aw ?hg (N := 2) ?hd (cs := #[.int .i64 x.f0, .string x.f1, .string x.f2, .slice A x.f3.length c]) (t := 24) ?hr ?_; (case hd => rfl); (case hg => rfl); (case hr => first | (go_simp; done) | (go_simp; rfl)); intro g2 hg_ w1 hbox hb; replace S := S.box hg_ hbox hb; clear hbox hb hg_; obtain ⟨⟨t0, t1, t2, t3⟩, t4, t5, t6, t7⟩ := box4 (S.at_blk 0 rfl)) | ((with_reducible refine AE (N := 4) rfl ?_); refine Aw ?hg (N := 4) ?hd (cs := #[.int .i64 0, .string (⟨#[]⟩ : ByteArray), .string (⟨#[]⟩ : ByteArray), .slice none 0 0]) (t := 24) ?hr ?_; (case hd => rfl); (case hg => rfl); (case hr => first | (go_simp; done) | (go_simp; rfl)); intro g4 hg_ w2 hbox hb; replace S := S.box hg_ hbox hb; clear hbox hb hg_; clear t0 t1 t2 t3 t4 t5 t6 t7; obtain ⟨⟨t0, t1, t2, t3⟩, t4, t5, t6, t7⟩ := box4 (S.at_blk 1 rfl)) | (go_at_call 20; refine (HG.out _ _ S).mono ?_; clear S; rintro e_ w3 ⟨gb, bm, Z4, ad0, rfl, H⟩; clear t0 t1 t2 t3 t4 t5 t6 t7; have hgb := H.gbCell; have l0 := H.at_ (x := 0) (by unfold in64; omega) (G4 hB.out.1); obtain ⟨r0, hr0⟩ : ∃ r0, ad0 0 = r0 := ⟨_, rfl⟩; rw [hr0] at l0; replace hr0 := A7.mk hr0; replace H := A7.mk H))
 go_loopg [20] (nE + 1) (fun kq v20 W => ∃ (ii : Int) (i : Nat) (ad : Int -> Nat) (ks : List Kn), v20 = .int .i64 ii /\ A7 (ii = (i : Int) /\ i <= nE /\ kq = nE - i + 1) /\ A7 (BV ks (es.drop i) i = R /\ CQ ks /\ ks.length <= 1000 + i /\ (0 : Int) ∈ ks.map (·.id) /\ ad 0 = r0) /\ A7 (AG w Z4 [AF AY A c x.f3, AF EY B d es] gb bm [] [Al g4 24 #[.int .i64 0, .string (⟨#[]⟩ : ByteArray), .string (⟨#[]⟩ : ByteArray), .slice none 0 0], Al g2 24 #[.int .i64 x.f0, .string x.f1, .string x.f2, .slice A x.f3.length c]] (1000 + i) ad ks W))
 case atStart => exact ⟨0, 0, ad0, Bd x, rfl, ⟨rfl, Qa _, rfl⟩, ⟨hR.out, Dz hB.out.1, by rw [D4, hB.out.1.len]; have := hB.out.1.sz; omega, G4 hB.out.1, hr0.out⟩, ⟨H.out.up (by have := hB.out.1.sz; omega)⟩⟩
 case round =>
  clear H hgb l0 hR;obtain ⟨ii, i, ad, ks, rfl, hi, hk, H⟩ := hrel;have hgb := H.out.gbCell;by_cases hlt2 : i < nE
  ·have c1 : decide (ii < (nE : Int)) = true := decide_eq_true (by rw [hi.out.1]; omega);have c2 : decide (0 <= ii) = true := decide_eq_true (by rw [hi.out.1]; omega);have c3_ : 0 <= ii := of_decide_eq_true c2;have c4_ : ii < (nE : Int) := of_decide_eq_true c1;obtain ⟨ad54, rfl, y0, y1, y2, y3, y4, y5, y6⟩ := JD (H.out.facts fun L S => S.rdC 1 rfl) ii c3_ (by rw [hB.out.2.2.2]; exact c4_);obtain ⟨y, hy⟩ : ∃ y, AV es ii = y := ⟨_, rfl⟩;rw [hy] at y0 y1 y2 y3 y4 y5 y6;have hyi : es[i]? = some y := by
    have hl : i < es.length := by rw [hB.out.2.2.2]; exact hlt2
    rw [<- hy, hi.out.1];unfold AV;simp [Pt, Pg hl]
   have hdr : es.drop i = y :: es.drop (i + 1) := by
    obtain ⟨hl, he⟩ := Pf.1 hyi;rw [<- he]; exact R6 hl
   obtain ⟨h641, h642⟩ := hB.out.2.2.1 y (List.mem_of_getElem? hyi);have hrun := hk.out.1;rw [hdr, BV] at hrun;obtain ⟨r, hdo⟩ : ∃ r, Ce ks (DM y) = r := ⟨_, rfl⟩;have HD : ∀ (X : List Bj) W, AG w Z4 [AF AY A c x.f3, AF EY (some ad54) d es] gb bm [] X (1000 + i) ad ks W -> PJ Try.prog 21 #[.pointer (some ⟨gb, 0, none⟩), .agg #[.int .i64 y.f0, .int .i64 y.f1, .int .i64 y.f2, .int .i64 y.f3, .int .i64 y.f4, .string y.f5, .string y.f6]] W fun e w' => e = .returned (.bool r.isSome) /\ ∃ ad', (∀ k ∈ ks, ad' k.id = ad k.id) /\ AG w Z4 [AF AY A c x.f3, AF EY (some ad54) d es] gb bm [] X (1000 + i + 1) ad' (r.getD ks) w' := fun X W HW => by
    have h9 := GC HW hk.out.2.1 (by have := hB.out.2.1; simp only [R7]; omega) (by have := hk.out.2.2.1; have := hB.out.2.1; omega) y h641 h642;rw [hdo] at h9;exact h9
   replace HD := A7.mk HD;have HN := A7.mk (⟨hlt2, hdo, h641, hrun⟩ : _ /\ _ /\ _ /\ _);clear hlt2 hy hyi hdr hdo hrun h641 h642;cases r with
   | none =>
    go_wp2_with (first | ((with_reducible refine AE (N := 10) rfl ?_); refine Aw ?hg (N := 10) ?hd (cs := #[.int .i64 0, .int .i64 0, .int .i64 0, .int .i64 0, .int .i64 0, .string (⟨#[]⟩ : ByteArray), .string (⟨#[]⟩ : ByteArray)]) (t := 54) ?hr ?_; (case hd => rfl); (case hg => rfl); (case hr => first | (go_simp; done) | (go_simp; rfl)); intro g10 hg_ w5 hbox hb; have H := H.out.box hg_ hbox hb; clear hbox hb hg_; obtain ⟨⟨e0, e1, e2, e3, e4, e5, e6⟩, f0, f1, f2, f3, f4, f5, f6⟩ := E9 (H.blkAt (k := 0) rfl)) | (go_at_call 21; refine (HD.out _ _ (H.set7 (.int .i64 y.f0) (.int .i64 y.f1) (.int .i64 y.f2) (.int .i64 y.f3) (.int .i64 y.f4) (.string y.f5) (.string y.f6))).mono ?_; rintro e_ w6 ⟨rfl, ad', had, H6⟩; obtain ⟨⟨q0, q1, q2, q3⟩, q4, q5, q6, q7⟩ := box4 (H6.blkAt (k := 1) rfl)))
    have H7 := H6.set4X 1 rfl (.int .i64 0) (.string (⟨#[]⟩ : ByteArray)) (.string (⟨#[]⟩ : ByteArray)) (.slice none 0 0);have hrun := HN.out.2.2.2;rw [HN.out.2.1] at hrun;refine Qf (DF rfl _ _ g4 24 #[.int .i64 0, .string (⟨#[]⟩ : ByteArray), .string (⟨#[]⟩ : ByteArray), .slice none 0 0] (0, 0) _ rfl (H7.blkAt (k := 1) rfl) Try.underlying24 rfl (by kernel_rfl)) rfl ?_;refine ⟨H7.below, ?_⟩;rw [<- hrun, hi.out.1];rfl
   | some ks' =>
    go_wp2_with (first | ((with_reducible refine AE (N := 10) rfl ?_); refine Aw ?hg (N := 10) ?hd (cs := #[.int .i64 0, .int .i64 0, .int .i64 0, .int .i64 0, .int .i64 0, .string (⟨#[]⟩ : ByteArray), .string (⟨#[]⟩ : ByteArray)]) (t := 54) ?hr ?_; (case hd => rfl); (case hg => rfl); (case hr => first | (go_simp; done) | (go_simp; rfl)); intro g10 hg_ w5 hbox hb; have H := H.out.box hg_ hbox hb; clear hbox hb hg_; obtain ⟨⟨e0, e1, e2, e3, e4, e5, e6⟩, f0, f1, f2, f3, f4, f5, f6⟩ := E9 (H.blkAt (k := 0) rfl)) | (go_at_call 21; refine (HD.out _ _ (H.set7 (.int .i64 y.f0) (.int .i64 y.f1) (.int .i64 y.f2) (.int .i64 y.f3) (.int .i64 y.f4) (.string y.f5) (.string y.f6))).mono ?_; rintro e_ w6 ⟨rfl, ad', had, H6⟩))
    have hrun := HN.out.2.2.2;rw [HN.out.2.1] at hrun;have h0m := hk.out.2.2.2.1;obtain ⟨k0, hk0, e0'⟩ := PF.1 h0m;have hadr : ad' 0 = r0 := by have := had k0 hk0; rw [e0'] at this; rw [this]; exact hk.out.2.2.2.2
    go_roundg (nE - i)
    case rel => exact ⟨((i + 1 : Nat) : Int), i + 1, ad', ks', by rw [hi.out.1]; congr 1; have := hB.out.2.1; have := HN.out.1; unfold Pq; omega, ⟨rfl, by have := HN.out.1; omega, by have := HN.out.1; omega⟩, ⟨hrun, Fp hk.out.2.1 HN.out.2.2.1 HN.out.2.1, by have := Gj HN.out.2.1; have := hk.out.2.2.1; omega, MJ hk.out.2.1 HN.out.2.1 h0m, hadr⟩, ⟨H6.drop⟩⟩
    case measure => have := hi.out; have := HN.out.1; omega
  ·have hik : i = nE := by have := hi.out.2.1; omega
   have c1 : decide (ii < (nE : Int)) = BK := decide_eq_false (by rw [hi.out.1]; omega);have hrun := hk.out.1;rw [List.drop_of_length_le (by rw [hB.out.2.2.2, hik]; exact Ps _), BV] at hrun;obtain ⟨k0, hk0, ek0⟩ := PF.1 hk.out.2.2.2.1;have HT := H.out.nodeT hk.out.2.1 (by have := hk.out.2.2.1; have := hB.out.2.1; omega) hk0;rw [ek0] at HT;unfold pk at HT;rw [hk.out.2.2.2.2] at HT;obtain ⟨⟨t0, t1, t2, t3⟩, ht⟩ : ∃ t, BH ks 0 = t := ⟨_, rfl⟩;rw [ht] at HT;dsimp only at HT;obtain ⟨⟨q0, q1, q2, q3⟩, q4, q5, q6, q7⟩ := box4 (H.out.blkAt (k := 0) rfl);replace HT := A7.mk HT;replace hik := A7.mk hik;replace hrun := A7.mk hrun;replace ht := A7.mk ht;clear hlt2 hk0 ek0
   go_wp2_with (go_at_call 22; refine HT.out.mono ?_; rintro e_ w6 ⟨v3, rfl, hR3, hb⟩; obtain ⟨Av, cv, ev⟩ := Kd.R_slice hR3; subst ev; have H6 := H.out.keep hb; obtain ⟨⟨p0, p1, p2, p3⟩, p4, p5, p6, p7⟩ := box4 (H6.blkAt (k := 0) rfl); replace hR3 := A7.mk (And.intro hR3 H6); clear hb H6)
   have H7 := hR3.out.2.set4X 0 rfl (.int .i64 t0) (.string t1) (.string t2) (.slice Av t3.length cv);refine Qf (DF rfl _ _ g4 24 #[.int .i64 t0, .string t1, .string t2, .slice Av t3.length cv] (0, 0) _ rfl (H7.blkAt (k := 0) rfl) Try.underlying24 rfl (by kernel_rfl)) rfl ?_;refine ⟨H7.below, ?_⟩;rw [<- hrun.out];unfold HV;dsimp only;rw [ht.out];refine ⟨_, rfl, ?_⟩;have hg4 : g4 < wr.heap.size := BG (H.out.blkAt (k := 0) rfl);have h1 := Kd.R_mono (Kd.R_bound hR3.out.1) (ok' := fun k => wr.heap.size <= k) (fun k hk => hk.2.1);have hf : ∀ k, wr.heap.size <= k -> k ≠ g4 := fun k hk => by omega
   exact Kd.R_mono (Kd.R_lower (Kd.R_far (p := ⟨g4, 3, none⟩) (Kd.R_far (p := ⟨g4, 2, none⟩) (Kd.R_far (p := ⟨g4, 1, none⟩) (Kd.R_far (p := ⟨g4, 0, none⟩) h1 hf _) hf _) hf _) hf _) H.out.below.size) (fun _ _ => trivial)
section
variable {w0 w w' : Pe} {Z : Nat -> Prop} {l L X : List Bj} {F : List FA} {α : Type} {d : Kd α} {e B i gb bm N : Nat} {v : Pd} {xs : List α} {ad : Int -> Nat} {ks : List Kn} {pre : List Bj}
theorem DA (S : Au w0 Z (Bo d e B v xs :: L) F w) :
  ∃ ok : Nat -> Prop, (∀ k, w.heap.size <= k -> ok k) /\ d.R e w B ok v xs /\ ∀ (v1 : Pd) (w1 : Pe) (xs1 : List α), d.R e w1 B ok v1 xs1 -> w.grownBy w1 v.ownBlock -> Au w0 Z (Bo d e B v1 xs1 :: L) F w1 := by
 obtain ⟨f, ⟨f1, f3, he2, hd2, hb, hr⟩, hz⟩ := S.st.hs;refine ⟨fun k => f1 k \/ w.heap.size <= k, fun k hk => .inr hk, Kd.R_mono hb.2 (fun k hk => .inl hk), fun v1 w1 xs1 h1 hg => ?_⟩;have hle := S.below.size;have hv : ∀ k, v.ownBlock = some k -> w0.heap.size <= k /\ ¬ Z k := fun k hk => hz k ((he2 k).2 (.inl (hb.2.1 k hk)))
 have hkeep : ∀ k, k < w.heap.size -> v.ownBlock ≠ some k -> w1.heap[k]? = w.heap[k]? := fun k hk hn => hg.block k hk (fun e => hn e.symm)
 refine ⟨⟨S.below.trans ⟨hg.os, hg.tape, hg.output, hg.size, fun k hk => hkeep k (by omega) (fun e => by have := (hv k e).1; omega)⟩, fun k hk => Nat.lt_of_lt_of_le (S.st.zlt k hk) hg.size, fun k => ((f1 k \/ w.heap.size <= k) /\ k < w1.heap.size) \/ f3 k, ⟨_, f3, fun k => Iff.rfl, fun k h1 h3 => ?_, ⟨fun k hk => hk.2, Kd.R_mono (Kd.R_bound h1) (fun k hk => ⟨hk.1, hk.2.2.1⟩)⟩, hr.loc (fun k hk => hkeep k (hr.lt k hk) (fun e => hd2 k (hb.2.1 k e) hk))⟩, fun k hk => ?_⟩, fun a ha' => a.step (S.fr a ha') (fun k hk hl => hkeep k hl (fun e => (hv k e).2 hk)) (fun _ h => h), S.old⟩
 ·rcases h1.1 with h | h
  ·exact hd2 k h h3
  ·have := hr.lt k h3; omega
 ·rcases hk with ⟨h | h, _⟩ | h
  ·exact hz k ((he2 k).2 (.inl h))
  ·exact ⟨by omega, fun hz' => by have := S.st.zlt k hz'; omega⟩
  ·exact hz k ((he2 k).2 (.inr h))
theorem AG.app0 (H : AG w0 Z F gb bm pre (Bo d e B v xs :: X) N ad ks w) :
  ∃ ok : Nat -> Prop, (∀ k, w.heap.size <= k -> ok k) /\ d.R e w B ok v xs /\ ∀ (v1 : Pd) (w1 : Pe) (xs1 : List α), d.R e w1 B ok v1 xs1 -> w.grownBy w1 v.ownBlock -> AG w0 Z F gb bm pre (Bo d e B v1 xs1 :: X) N ad ks w1 := by
 obtain ⟨g, ids, m, h1, hm, hi, S⟩ := H;unfold GL at S;rw [<- PP] at S;obtain ⟨ok, a1, a2, a3⟩ := DA (S.perm (EP _ X _).symm);refine ⟨ok, a1, a2, fun v1 w1 xs1 b1 b2 => ⟨g, ids, m, h1, hm, hi, ?_⟩⟩;unfold GL;rw [<- PP];exact (a3 v1 w1 xs1 b1 b2).perm (EP _ X _)
theorem AG.rowOf_get (H : AG w0 Z F gb bm pre X N ad ks w) {k : Nat} (h : X[k]? = some (Bo d e B v xs)) : ∃ f : Nat -> Prop, (∀ k, f k -> w0.heap.size <= k /\ ¬ Z k /\ k < w.heap.size) /\ d.R e w B f v xs :=
 H.getX fun L S => S.rowOf_at (i := L.length + k) (by rw [PY (by omega), Q2]; exact h)
end
def G5 (B g10 g11 gg : Nat) (v : Pd) (es : List Dm) (X : List Bj) : List Bj := Bo EY 54 B v es :: Al g11 29 #[v] :: Al g10 56 #[.pointer (some ⟨gg, 0, none⟩)] :: X
theorem DS {w0 w : Pe} {Z : Nat -> Prop} {F : List FA} {gg bm N g10 g11 : Nat} {X : List Bj} {ad : Int -> Nat} {ks : List Kn} {v : Pd} {es : List Dm} (H : AG w0 Z F gg bm [] (G5 w0.heap.size g10 g11 gg v es X) N ad ks w) (I : CQ ks) (hN : N < R7) (hl : ks.length <= 1000000) (hes : es.length <= 100000) (x : Dm) (h1 : in64 x.f1) (h2 : in64 x.f2) :
  PJ Try.prog 28 #[.agg #[.int .i64 x.f0, .int .i64 x.f1, .int .i64 x.f2, .int .i64 x.f3, .int .i64 x.f4, .string x.f5, .string x.f6], .pointer (some ⟨g10, 0, none⟩), .pointer (some ⟨g11, 0, none⟩)] w fun e w' => e = .returned (.tuple #[]) /\ ∃ ad' v', (∀ k ∈ ks, ad' k.id = ad k.id) /\ AG w0 Z F gg bm [] (G5 w0.heap.size g10 g11 gg v' (es ++ [x]) X) (N + 1) ad' ((Ce ks (DM x)).getD ks) w' := by
 have HD : ∀ (X : List Bj) W, AG w0 Z F gg bm [] X N ad ks W -> PJ Try.prog 21 #[.pointer (some ⟨gg, 0, none⟩), .agg #[.int .i64 x.f0, .int .i64 x.f1, .int .i64 x.f2, .int .i64 x.f3, .int .i64 x.f4, .string x.f5, .string x.f6]] W fun e w' => e = .returned (.bool (Ce ks (DM x)).isSome) /\ ∃ ad', (∀ k ∈ ks, ad' k.id = ad k.id) /\ AG w0 Z F gg bm [] X (N + 1) ad' ((Ce ks (DM x)).getD ks) w' := fun X W HW => GC HW I hN hl x h1 h2
 generalize (Ce ks (DM x)).isSome = r at HD;generalize (Ce ks (DM x)).getD ks = ks' at HD ⊢;unfold G5 at H ⊢;obtain ⟨f0, hf0, hR0⟩ := H.rowOf_get (k := 0) rfl;obtain ⟨Av, cv, ev⟩ := Kd.R_slice hR0;subst ev;clear hR0 hf0 f0;replace HD := A7.mk HD;have hb := A7.mk (⟨hes, trivial⟩ : _ /\ True);clear I hN hl hes h1 h2;have hu54 := Try.underlying54;go_enter Try.func28, Try.ntmps28
 go_wp2_with (first | ((with_reducible refine AE (N := 3) rfl ?_); refine Aw ?hg (N := 3) ?hd (cs := #[.int .i64 x.f0, .int .i64 x.f1, .int .i64 x.f2, .int .i64 x.f3, .int .i64 x.f4, .string x.f5, .string x.f6]) (t := 54) ?hr ?_; (case hd => rfl); (case hg => rfl); (case hr => first | (go_simp; done) | (go_simp; rfl)); intro g3 hg_ w1 hbox hb; replace H := H.box hg_ hbox hb; clear hbox hb hg_; obtain ⟨⟨e0, e1, e2, e3, e4, e5, e6⟩, _⟩ := E9 (H.blkAt (k := 0) rfl); have hg0 : w1.cell? ⟨g10, 0, none⟩ = some (.pointer (some ⟨gg, 0, none⟩)) := (Aa (H.blkAt (k := 3) rfl) 0).trans rfl) | (go_at_call 21; refine (HD.out _ _ H).mono ?_; clear H; rintro e_ w2 ⟨rfl, ad', had, H⟩; obtain ⟨⟨q0, q1, q2, q3, q4, q5, q6⟩, _⟩ := E9 (H.blkAt (k := 0) rfl); have hl0 : w2.cell? ⟨g11, 0, none⟩ = some (.slice Av es.length cv) := (Aa (H.blkAt (k := 2) rfl) 0).trans rfl; replace H := H.permX (Qq _ _ _)) | ((with_reducible refine Bt (b := .append) (xs := #[.tmp 7, .tmp 9]) rfl ?_); at_builtin; obtain ⟨ok, a1, a2, a3⟩ := H.app0; refine Kd.R_append EY (w0 := w0) w0.heap.size rfl (.tmp 7) (.tmp 9) 29 54 (.agg #[(.int .i64 0), (.int .i64 0), (.int .i64 0), (.int .i64 0), (.int .i64 0), (.string ⟨#[]⟩), (.string ⟨#[]⟩)]) 72 rfl Try.underlying29 M4 rfl (by decide) (by omega) (.slice Av es.length cv) es x [.int .i64 x.f0, .int .i64 x.f1, .int .i64 x.f2, .int .i64 x.f3, .int .i64 x.f4, .string x.f5, .string x.f6] ok (fun _ => False) rfl rfl (Kj _ _ _ x) (fun _ h => h.elim) a1 a2 H.below H.below.size (by have := hb.out.1; omega) ?_; intro v5 w5 hR5 _ hg5 _; have H5 := a3 _ _ _ hR5 hg5; obtain ⟨A5, c5, e5⟩ := Kd.R_slice hR5; rw [show (es ++ [x]).length = es.length + 1 from PK] at e5; subst e5; obtain hl5 : w5.cell? ⟨g11, 0, none⟩ = some (.slice Av es.length cv) := (Aa (H5.blkAt (k := 2) rfl) 0).trans rfl; have hf5 := Ad (H5.blkAt (k := 2) rfl) 0; replace H5 := A7.mk H5; clear a1 a2 a3 hR5 hg5))
 refine bodyPost_end (results_none rfl _ _ _) rfl ?_;have H6 := H5.out.setAt (k := 2) rfl 0 (.slice A5 (es.length + 1) c5);have H7 : AG w0 Z F gg bm [] (Al g3 54 #[.int .i64 x.f0, .int .i64 x.f1, .int .i64 x.f2, .int .i64 x.f3, .int .i64 x.f4, .string x.f5, .string x.f6] :: Bo EY 54 w0.heap.size (.slice A5 (es.length + 1) c5) (es ++ [x]) :: Al g11 29 #[.slice A5 (es.length + 1) c5] :: Al g10 56 #[.pointer (some ⟨gg, 0, none⟩)] :: X) (N + 1) ad' ks' _ := H6.permX (Qq _ _ _);exact ⟨rfl, ad', _, had, H7.drop⟩
def iA (l : List Int) : Array Pd := (l.map (PE .i64)).toArray
theorem GD (l : List Int) (i : Nat) (v : Int) : (iA l).setIfInBounds i (.int .i64 v) = iA (l.set i v) := by
 unfold iA;rw [List.map_set, GW]
theorem C9 {l : List Int} {i : Nat} (h : i < l.length) : (iA l)[i]? = some (.int .i64 (l.getD i 0)) := by
 unfold iA;simp [Pt, Pg h]
theorem MK {K : Int -> Bool} {x a : Int} {l : List Int} : (K x = true \/ x ∈ a :: l) ↔ ((K x || decide (x = a)) = true \/ x ∈ l) := by
 rw [Qg, <- or_assoc, Rg, decide_eq_true_eq]
theorem I0 (n : Nat) (hn : n <= 1000000) (W : Pe) : (Instr.makeSlice 36 (.int .i64 (n : Int)) (.int .i64 (n : Int))).run Try.prog W = .ok (.slice (some ⟨W.heap.size, 0, none⟩) n n) (W.alloc (.cells (iA (Pz n 0)) 3)) := by
 obtain ⟨i0, hi, hzz⟩ := Option.map_eq_some_iff.1 Ca;simp only [QQ] at hzz;obtain ⟨hz0, hz1, hz2⟩ := hzz;have h := run_make (P := Try.prog) W 36 3 i0 (.int .i64 0) Try.underlying36 hi hz0 .i64 .i64 (n : Int) (n : Int) (by omega) (Int.le_refl _) (by rw [hz2]; omega) (by omega);rw [h, hz1];simp only [PO, RG];have e : madeCells (PE .i64 0).cells n = iA (Pz n 0) := by
  apply Array.ext';have h2 := toList_madeCells_one (.int .i64 0) n;rw [show (PE .i64 0).cells = #[PE .i64 0] from rfl, h2];unfold iA;simp
 rw [e]
theorem Iv {w0 w : Pe} {Z : Nat -> Prop} {L : List Bj} {F : List FA} (S : Au w0 Z L F w) (l : List Int) (hn6 : l.length <= 100000) {A : Option Addr} {c : Nat} (hF : ∀ (a b : Bj) (W : Pe), Au w0 Z (a :: b :: L) F W -> Kd.C (Kd.int .i64) W A l.length l) :
  PJ Try.prog 30 #[.slice A l.length c] w fun e w' => ∃ b m, e = .returned (.map (some b)) /\ m <= l.length + 1 /\ Au w0 Z (Df b m (fun x => decide (x ∈ CE l)) :: L) F w' := by
 obtain ⟨n, hn⟩ : ∃ n, l.length = n := ⟨_, rfl⟩;rw [hn] at hn6 ⊢;have hmk := I0 n (by omega);have hmm := @run_makeMap Try.prog;have hmix : Try.prog.follows .mixedOrders = true := by kernel_rfl
 replace S := A7.mk S;have HN := A7.mk (⟨hn, hn6, hF⟩ : _ /\ _ /\ _);clear hn hn6 hF;go_enter Try.func30, Try.ntmps30
 go_upto_region 1 with fail
 go_cut [3, 4] (fun v3 v4 W => ∃ g3 g4, v3 = .slice (some ⟨g3, 0, none⟩) n n /\ v4 = .slice (some ⟨g4, 0, none⟩) n n /\ A7 (Au w0 Z (Al g3 3 (iA (Pz n 0)) :: Al g4 3 (iA (Pz n 0)) :: L) F W))
 case first =>
  have T : Au w0 Z (Al (w.heap.size + 1) 3 (iA (Pz n 0)) :: Al w.heap.size 3 (iA (Pz n 0)) :: L) F ((w.alloc (.cells (iA (Pz n 0)) 3)).alloc (.cells (iA (Pz n 0)) 3)).drew := by
   have e : (w.alloc (.cells (iA (Pz n 0)) 3)).heap.size = w.heap.size + 1 := by simp
   have T := ((S.out.box rfl (Pv w (.cells (iA (Pz n 0)) 3)) (Ah (Pn _ _) _)).box rfl (Pv (w.alloc (.cells (iA (Pz n 0)) 3)) (.cells (iA (Pz n 0)) 3)) (Ah (Pn _ _) _)).drew;rw [e] at T;exact T
  replace T := A7.mk T
  go_region_o
  all_goals (go_wp2_with fail; go_meet; first | exact ⟨_, _, rfl, rfl, ⟨T.out.perm (Qq _ _ _)⟩⟩ | exact ⟨_, _, rfl, rfl, T⟩)
 case rest =>
  obtain ⟨g3, g4, rfl, rfl, S2⟩ := hcut;clear S hmk;go_wp2
  go_loopg [5, 18] (n + 1) (fun kq v5 v18 W => ∃ (i : Nat), v18 = .int .i64 (i : Int) /\ v5 = .int .i64 (FO l i).be /\ A7 (i <= n /\ kq = n - i + 1) /\ A7 (Au w0 Z (Al g3 3 (iA (FO l i).lo) :: Al g4 3 (iA (FO l i).ba) :: L) F W))
  case atStart => exact ⟨0, rfl, rfl, ⟨Qa _, rfl⟩, ⟨by have e := S2.out; rw [<- HN.out.1] at e; exact e⟩⟩
  case round =>
   clear S2;obtain ⟨i, rfl, rfl, hi, SW⟩ := hrel;have hok := Iu l i (by rw [HN.out.1]; exact hi.out.1);obtain ⟨⟨lo, ba, be⟩, hs⟩ : ∃ s, FO l i = s := ⟨_, rfl⟩;rw [hs] at SW hok ⊢;dsimp only at SW hok ⊢;replace hs := A7.mk hs;have hne := FB SW.out (i := 0) (j := 1) rfl rfl (by decide);have hne2 := Ry hne;have hll := hok.llen.trans HN.out.1;have hbl := hok.blen.trans HN.out.1;dsimp only at hll hbl;by_cases hlt2 : i < n
   ·have i1 : decide ((i : Int) < (n : Int)) = true := decide_eq_true (by omega);have i2 : (0 : Int) <= (i : Int) := by omega
    have i3 : (i : Int) < (n : Int) := by omega
    have f3 := Ad (SW.out.at_blk 0 rfl) i;have f4 := Ad (SW.out.at_blk 1 rfl) i;have e3 := (Aa (SW.out.at_blk 0 rfl) i).trans (C9 (by omega));have e4 := (Aa (SW.out.at_blk 1 rfl) i).trans (C9 (by omega));have S5 := (SW.out.of (SW.out.st.set (i := 0) rfl i (.int .i64 1)));have S6 := A7.mk (S5.of (S5.st.set (i := 1) rfl i (.int .i64 (-1))));clear S5;replace hll := A7.mk hll;replace hbl := A7.mk hbl;replace hlt2 := A7.mk hlt2;replace hok := A7.mk hok;go_wp2;obtain ⟨wq, hwq⟩ : ∃ wq, ((wr.setCell ⟨g3, i, none⟩ (.int .i64 1)).setCell ⟨g4, i, none⟩ (.int .i64 (-1))) = wq := ⟨_, rfl⟩;rw [hwq] at S6 ⊢;clear hwq SW f3 f4 e3 e4;obtain ⟨wb, rfl⟩ : ∃ x, x = wr := ⟨_, rfl⟩;clear i1
    go_loopg [28] (i + 1) (fun kq v28 W => ∃ (k : Nat), v28 = .int .i64 (k : Int) /\ A7 (k <= i /\ kq = i - k + 1) /\ A7 (Au w0 Z (Al g3 3 (iA (lo.set i (CO l lo i k).1)) :: Al g4 3 (iA (ba.set i (CO l lo i k).2)) :: L) F W))
    case atStart => exact ⟨0, rfl, ⟨Qa _, rfl⟩, ⟨by have e := S6.out; simp only [Pa, NB, GD] at e; exact e⟩⟩
    case round =>
     clear S6;obtain ⟨k, rfl, hk, SW⟩ := hrel;have hp := FP (l := l) hok.out.lo k hk.out.1;obtain ⟨⟨p1, p2⟩, hpq⟩ : ∃ q, CO l lo i k = q := ⟨_, rfl⟩;rw [hpq] at SW hp;dsimp only at SW hp;replace hpq := A7.mk hpq;by_cases hlk : k < i
     ·have k1 : decide ((k : Int) < (i : Int)) = true := decide_eq_true (by omega);have k2 : (0 : Int) <= (k : Int) := by omega
      have k4 : (k : Int) < (i : Int) := by omega
      have k5 : decide (k < i) = true := decide_eq_true hlk;have k3 : (k : Int) < (n : Int) := by omega
      obtain ⟨adA, rfl, lK⟩ := Kd.at_int (HN.out.2.2 _ _ _ SW.out) (k : Int) k2 (by rw [HN.out.1]; exact k3);obtain ⟨adA', eA, lI⟩ := Kd.at_int (HN.out.2.2 _ _ _ SW.out) (i : Int) i2 (by rw [HN.out.1]; exact i3);obtain rfl := Px eA;simp only [PO] at lK lI;rw [show rd l (k : Int) = l.getD k 0 from rfl] at lK;rw [show rd l (i : Int) = l.getD i 0 from rfl] at lI;have hkl := hok.out.lo k hlk;have r3i : wr.cell? ⟨g3, i, none⟩ = some (.int .i64 p1) := (Aa (SW.out.at_blk 0 rfl) i).trans (by rw [C9 (by rw [Q6, hll.out]; exact hlt2.out), CK, if_pos rfl, if_pos (by rw [hll.out]; exact hlt2.out)]);have r3k : wr.cell? ⟨g3, k, none⟩ = some (.int .i64 (lo.getD k 0)) := (Aa (SW.out.at_blk 0 rfl) k).trans (by rw [C9 (by rw [Q6, hll.out]; have := hlt2.out; omega), CK, if_neg (by omega)]);have r4i : wr.cell? ⟨g4, i, none⟩ = some (.int .i64 p2) := (Aa (SW.out.at_blk 1 rfl) i).trans (by rw [C9 (by rw [Q6, hbl.out]; exact hlt2.out), CK, if_pos rfl, if_pos (by rw [hbl.out]; exact hlt2.out)]);have f3 := Ad (SW.out.at_blk 0 rfl) i;have f4 := Ad (SW.out.at_blk 1 rfl) i;have hnx : CO l lo i (k + 1) = if l.getD k 0 < l.getD i 0 /\ lo.getD k 0 + 1 > p1 then (lo.getD k 0 + 1, (k : Int)) else (p1, p2) := by rw [CO, hpq.out]
      obtain ⟨lk, hlk1⟩ : ∃ x, l.getD k 0 = x := ⟨_, rfl⟩;obtain ⟨li, hli1⟩ : ∃ x, l.getD i 0 = x := ⟨_, rfl⟩;obtain ⟨lok, hlok1⟩ : ∃ x, lo.getD k 0 = x := ⟨_, rfl⟩;rw [hlk1] at lK hnx;rw [hli1] at lI hnx;rw [hlok1] at r3k hkl hnx;have hn9 := HN.out.2.1;have hi9 := hi.out.1;have hw1 : Pq (lok + 1) = lok + 1 := by unfold Pq; omega
      have hwk : Pq ((k : Int) + 1) = ((k + 1 : Nat) : Int) := by clear hw1; unfold Pq; omega
      have HW := A7.mk (⟨hw1, hwk, hkl, hlk, hp⟩ : _ /\ _ /\ _ /\ _ /\ _);have hki : k ≠ i := Re HW.out.2.2.2.1;replace hnx := A7.mk hnx;clear hlk1 hli1 hlok1 hkl hp hlk hwk hn9 hi9;by_cases c1 : lk < li
      ·have d1 : decide (lk < li) = true := decide_eq_true c1;by_cases c2 : p1 < lok + 1
       ·have d2 : decide (p1 < lok + 1) = true := decide_eq_true c2;replace hnx := A7.mk (hnx.out.trans (if_pos ⟨c1, c2⟩));clear c1 c2;go_wp2
        go_region_o
        go_wp2;have S8 := SW.out.of (SW.out.st.set (i := 0) rfl i (.int .i64 (lok + 1)));have S9 := S8.of (S8.st.set (i := 1) rfl i (.int .i64 (k : Int)));simp only [Pa, NB, GD, List.set_set] at S9
        go_roundg (i - k)
        case rel => exact ⟨k + 1, by rw [HW.out.2.1], ⟨by have := HW.out.2.2.2.1; omega, by have := HW.out.2.2.2.1; omega⟩, ⟨by rw [hnx.out]; exact S9.drew⟩⟩
        case measure => have := hk.out; have := HW.out.2.2.2.1; omega
       ·have d2 : decide (p1 < lok + 1) = BK := decide_eq_false c2;have hnx2 : CO l lo i (k + 1) = (p1, p2) := hnx.out.trans (if_neg (fun h => c2 h.2));clear hnx;have hnx := A7.mk hnx2;clear hnx2;clear c1 c2;go_wp2
        go_region_o
        go_wp2
        go_roundg (i - k)
        case rel => exact ⟨k + 1, by rw [HW.out.2.1], ⟨by have := HW.out.2.2.2.1; omega, by have := HW.out.2.2.2.1; omega⟩, ⟨by rw [hnx.out]; exact SW.out.drew⟩⟩
        case measure => have := hk.out; have := HW.out.2.2.2.1; omega
      ·have d1 : decide (lk < li) = BK := decide_eq_false c1;have hnx2 : CO l lo i (k + 1) = (p1, p2) := hnx.out.trans (if_neg (fun h => c1 h.1));clear hnx;have hnx := A7.mk hnx2;clear hnx2;clear c1;go_wp2
       go_quiet (fail)
       go_wp2
       go_roundg (i - k)
       case rel => exact ⟨k + 1, by rw [HW.out.2.1], ⟨by have := HW.out.2.2.2.1; omega, by have := HW.out.2.2.2.1; omega⟩, ⟨by rw [hnx.out]; exact SW.out.keep ⟨rfl, rfl, rfl, Ps _, fun _ _ => rfl⟩⟩⟩
       case measure => have := hk.out; have := HW.out.2.2.2.1; omega
     ·have hik : k = i := by have := hk.out.1; omega
      subst hik;have k1 : decide ((k : Int) < (k : Int)) = BK := by simp
      have hnx : FO l (k + 1) = ⟨lo.set k p1, ba.set k p2, if be < 0 \/ p1 > (lo.set k p1).getD be.toNat 0 then (k : Int) else be⟩ := by rw [FO, hs.out]; dsimp only; rw [hpq.out]
      have r3i : wr.cell? ⟨g3, k, none⟩ = some (.int .i64 p1) := (Aa (SW.out.at_blk 0 rfl) k).trans (by rw [C9 (by rw [Q6, hll.out]; exact hlt2.out), CK, if_pos rfl, if_pos (by rw [hll.out]; exact hlt2.out)]);have hbe := hok.out.be;dsimp only at hbe;have hwk : Pq ((k : Int) + 1) = ((k + 1 : Nat) : Int) := by have := HN.out.2.1; have := hlt2.out; clear hp hbe; unfold Pq; omega
      replace hwk := A7.mk hwk;replace hnx := A7.mk hnx;clear hlk hp;by_cases c1 : be < 0
      ·have d1 : decide (be < 0) = true := decide_eq_true c1;replace hnx := A7.mk (hnx.out.trans (by rw [if_pos (.inl c1)]));clear c1 hbe;go_wp2
       go_region_o
       go_wp2
       go_roundg (n - k)
       case rel => exact ⟨k + 1, by rw [hwk.out], by rw [hnx.out], ⟨by have := hlt2.out; omega, by have := hlt2.out; omega⟩, ⟨by rw [hnx.out]; exact SW.out.drew⟩⟩
       case measure => have := hi.out; have := hlt2.out; omega
      ·have d1 : decide (be < 0) = BK := decide_eq_false c1;obtain ⟨b, rfl⟩ : ∃ b : Nat, be = (b : Int) := ⟨be.toNat, by omega⟩;have b2 : (0 : Int) <= (b : Int) := by omega
       have hbk : b < k := by omega
       have b3 : (b : Int) < (n : Int) := by have := hlt2.out; omega
       have r3b : wr.cell? ⟨g3, b, none⟩ = some (.int .i64 (lo.getD b 0)) := (Aa (SW.out.at_blk 0 rfl) b).trans (by rw [C9 (by rw [Q6, hll.out]; have := hlt2.out; omega), CK, if_neg (by omega)]);replace hnx := A7.mk (hnx.out.trans (by rw [PO, CK, if_neg (by omega : ¬ k = b)]));obtain ⟨lb, hlb⟩ : ∃ x, lo.getD b 0 = x := ⟨_, rfl⟩;rw [hlb] at r3b hnx;replace hbk := A7.mk hbk;clear hlb hbe;by_cases c2 : lb < p1
       ·have d2 : decide (lb < p1) = true := decide_eq_true c2;replace hnx := A7.mk (hnx.out.trans (by rw [if_pos (.inr c2)]));clear c1 c2;go_wp2
        go_region_o
        go_wp2
        go_roundg (n - k)
        case rel => exact ⟨k + 1, by rw [hwk.out], by rw [hnx.out], ⟨by have := hlt2.out; omega, by have := hlt2.out; omega⟩, ⟨by rw [hnx.out]; exact SW.out.drew⟩⟩
        case measure => have := hi.out; have := hlt2.out; omega
       ·have d2 : decide (lb < p1) = BK := decide_eq_false c2;replace hnx := A7.mk (hnx.out.trans (by rw [if_neg (fun h => h.elim c1 c2)]));clear c1 c2;go_wp2
        go_region_o
        go_wp2
        go_roundg (n - k)
        case rel => exact ⟨k + 1, by rw [hwk.out], by rw [hnx.out], ⟨by have := hlt2.out; omega, by have := hlt2.out; omega⟩, ⟨by rw [hnx.out]; exact SW.out.drew⟩⟩
        case measure => have := hi.out; have := hlt2.out; omega
   ·have hin : i = n := by have := hi.out.1; omega
    have i1 : decide ((i : Int) < (n : Int)) = BK := decide_eq_false (by omega);have i1b : decide (i < n) = BK := decide_eq_false (by omega);have i1c : ¬ (i : Int) < (n : Int) := by omega
    have hrk : CE l = Dh ba (n + 1) be := by unfold CE; rw [HN.out.1, <- hin, hs.out]
    replace hok := A7.mk hok;replace hll := A7.mk hll;replace hbl := A7.mk hbl;replace hin := A7.mk hin;replace hrk := A7.mk hrk;clear hlt2 hne hne2;go_wp2;have S9 := Gk SW.out;obtain ⟨b, hb⟩ : ∃ b, wr.heap.size = b := ⟨_, rfl⟩;rw [hb] at S9 ⊢;obtain ⟨wq, hwq⟩ : ∃ wq, wr.alloc (.map #[] 0) = wq := ⟨_, rfl⟩;rw [hwq] at S9 ⊢;clear hwq hb SW i1 i1b i1c;obtain ⟨wb, rfl⟩ : ∃ x, x = wr := ⟨_, rfl⟩;replace S9 := A7.mk S9
    go_loopg [9] (n + 1) (fun kq v9 W => ∃ (j : Int) (m : Nat) (K : Int -> Bool), v9 = .int .i64 j /\ A7 (-1 <= j /\ j < (kq : Int) /\ j < (n : Int) /\ m + kq <= n + 1 /\ ∀ x, x ∈ CE l ↔ K x = true \/ x ∈ Dh ba kq j) /\ A7 (Au w0 Z (Df b m K :: Al g3 3 (iA lo) :: Al g4 3 (iA ba) :: L) F W))
    case atStart => exact ⟨be, 0, fun _ => BK, rfl, ⟨hok.out.be.1, by have := hok.out.be.2; have := hin.out; dsimp only at *; omega, by have := hok.out.be.2; have := hin.out; dsimp only at *; omega, by omega, fun x => by rw [hrk.out]; simp⟩, S9⟩
    case round =>
     clear S9;obtain ⟨j, m, K, rfl, hj, SW⟩ := hrel;by_cases c1 : 0 <= j
     ·have d1 : decide (0 <= j) = true := decide_eq_true c1;obtain ⟨a, rfl⟩ : ∃ a : Nat, j = (a : Int) := ⟨j.toNat, by omega⟩;obtain ⟨q, rfl⟩ : ∃ q, gk = q + 1 := ⟨gk - 1, by have := hj.out.2.1; omega⟩;have han : a < n := by have := hj.out.2.2.1; omega
      have a2 : (a : Int) < (n : Int) := by omega
      have hba := hok.out.ba a (by have := hin.out; omega);dsimp only at hba;have h64 : in64 (a : Int) := Ey (by have := HN.out.2.1; omega);obtain ⟨w8, hr8, S10, _⟩ := Ir SW.out 0 rfl h64 (by have := hj.out.2.2.2.1; have := HN.out.2.1; simp only [R7]; omega);have r4 : w8.cell? ⟨g4, a, none⟩ = some (.int .i64 (ba.getD a 0)) := (Aa (S10.at_blk 2 rfl) a).trans (C9 (by rw [hbl.out]; exact han));have hch : Dh ba (q + 1) (a : Int) = (a : Int) :: Dh ba q (ba.getD a 0) := by rw [Dh, if_neg (by omega), PO]
      obtain ⟨nx, hnx⟩ : ∃ x, ba.getD a 0 = x := ⟨_, rfl⟩;rw [hnx] at r4 hch hba;replace hr8 := A7.mk hr8;have HW := A7.mk (⟨hch, hba, han⟩ : _ /\ _ /\ _);replace S10 := A7.mk S10;clear hnx hch hba han h64
      go_wp2_with (refine D2 rfl 74 _ _ _ rfl _ _ _ (by rfl) (by rfl) (by rfl) hr8.out ?_)
      go_roundg q
      case rel => exact ⟨nx, m + 1, _, rfl, ⟨HW.out.2.1.1, by have := HW.out.2.1; have := hj.out; omega, by have := HW.out.2.1; have := HW.out.2.2; omega, by have := hj.out; omega, fun x => by rw [hj.out.2.2.2.2 x, HW.out.1]; exact MK⟩, S10⟩
      case measure => omega
     ·have d1 : decide (0 <= j) = BK := decide_eq_false c1;have hnil : Dh ba gk j = [] := by
       cases gk with
       | zero => rfl
       | succ q => rw [Dh, if_pos (by omega)]
      replace hnil := A7.mk hnil;go_wp2
      go_ret
      refine ⟨b, rfl, m, by have := hj.out.2.2.2.1; omega, ?_⟩;have hK : (fun x => decide (x ∈ CE l)) = K := by
       funext x
       have := hj.out.2.2.2.2 x;rw [hnil.out] at this;cases h : K x with
       | true => rw [h] at this; exact decide_eq_true (this.2 (.inl rfl))
       | false => rw [h] at this; exact decide_eq_false (fun h2 => by have := this.1 h2; simp at this)
      rw [hK];exact (SW.out.perm (l' := Al g3 3 (iA lo) :: Al g4 3 (iA ba) :: Df b m K :: L) (by
       have h1 : ∀ (p q r : Bj) (l : List Bj), (p :: q :: r :: l).Perm (q :: r :: p :: l) := fun p q r l => (Q8 (l₁ := [p]) (l₂ := [q, r])).append_right l
       exact h1 _ _ _ _)).drop.drop
end Go.Proofs.Q
namespace Go.Proofs.Q
open Go Go.RowKit Go.Lib Go.Sort Go.Proofs.V.Words Go.Proofs.V.SL
section
variable {w0 w w' : Pe} {Z : Nat -> Prop} {F F' : List FA} {gb bm N k b m : Nat} {pre X : List Bj} {ad : Int -> Nat} {ks : List Kn} {K : Int -> Bool}
theorem NT {α : Type} {d : Kd α} {e B : Nat} {A : Option Addr} {c : Nat} {ok : Nat -> Prop} {xs : List α} (h : d.R e w B ok (.slice A xs.length c) xs) : xs.length <= c /\ Kd.C d w A xs.length xs := by
 obtain ⟨A2, c2, e2, h1, h2⟩ := Kd.N_V (base' := 0) (Kd.R_N (Kd.R_bound h));injection e2 with e3 e4 e5
 subst e3;subst e5;exact ⟨h1, Kd.F_now h2⟩
theorem AG.addF {a : FA} (H : AG w0 Z F gb bm pre X N ad ks w) (h : ∀ L, Au w0 Z L F w -> a.P w Z) : AG w0 Z (a :: F) gb bm pre X N ad ks w := H.onX fun L S => S.add (h _ S)
theorem AG.lessF (H : AG w0 Z F gb bm pre X N ad ks w) (h : ∀ a ∈ F', a ∈ F) : AG w0 Z F' gb bm pre X N ad ks w := H.onX fun L S => HQ S h
theorem AG.rowC {α : Type} {d : Kd α} {e B : Nat} {A : Option Addr} {c n : Nat} {xs : List α} (H : AG w0 Z F gb bm pre X N ad ks w) (hn : xs.length = n) (hk : X[k]? = some (Bo d e B (.slice A n c) xs)) : n <= c /\ Kd.C d w A n xs := by
 subst hn;obtain ⟨f, _, hR⟩ := H.rowOf_get hk;exact NT hR
theorem Iw {L : List Bj} {A : Option Addr} {c j : Nat} {Kr : List (List Int)} (S : Au w0 Z L F w) (hF : F[j]? = some (AF (Kd.slice 3 (Kd.int .i64)) A c Kr)) (i : Nat) (hi : i < Kr.length) :
  ∃ a A0 c0, A = some a /\ w.cell? (a.add i) = some (.slice A0 (Kr.getD i []).length c0) /\ (AF (Kd.int .i64) A0 c0 (Kr.getD i [])).P w Z := by
 have h := S.rd j hF;obtain ⟨al, cs, eA, hcl, hFK, hcc, _⟩ := Kd.F_get h.2 [] (i : Int) (by omega) (by omega);rw [PO] at hFK hcc;obtain ⟨A0, c0, rfl, h1, h2⟩ := Kd.FK_slice_open hFK;have hq := hcc 0 _ rfl;rw [show (i * (Kd.slice 3 (Kd.int .i64)).sz + 0) = i from by show i * 1 + 0 = i; omega] at hq;exact ⟨al, A0, c0, eA, hq, h1, h2⟩
theorem AG.rising {B : Nat} {A : Option Addr} {c : Nat} {l : List Int} (H : AG w0 Z F gb bm pre X N ad ks w) (hk : X[k]? = some (Bo (Kd.int .i64) 3 B (.slice A l.length c) l)) (hl : l.length <= 100000) :
  PJ Try.prog 30 #[.slice A l.length c] w fun e w' => ∃ b m, e = .returned (.map (some b)) /\ m <= l.length + 1 /\ AG w0 Z F gb bm pre (Df b m (fun x => decide (x ∈ CE l)) :: X) N ad ks w' := by
 obtain ⟨g, ids, mm, h1, hm, hids, S⟩ := H;unfold GL at S;rw [<- PP] at S;refine (Iv S l hl (A := A) (c := c) (fun a b W SW => ?_)).mono ?_
 ·obtain ⟨f, _, hR⟩ := SW.rowOf_at (i := ((Al gb 61 #[.map (some bm)] :: Bg bm mm ad ids :: pre) ++ F6 ad g).length + k + 2) (d := Kd.int .i64) (e := 3) (B := B) (v := .slice A l.length c) (xs := l) (by
   show (((Al gb 61 #[.map (some bm)] :: Bg bm mm ad ids :: pre) ++ F6 ad g) ++ X)[((Al gb 61 #[.map (some bm)] :: Bg bm mm ad ids :: pre) ++ F6 ad g).length + k]? = _
   rw [PY (by omega), Q2];exact hk)
  exact (NT hR).2
 ·rintro e w' ⟨b, m, rfl, hmb, S'⟩;refine ⟨b, m, rfl, hmb, g, ids, mm, h1, hm, hids, ?_⟩;unfold GL;rw [<- PP];exact S'.perm (EP _ X _)
end
end Go.Proofs.Q
namespace Go.Proofs.Q
structure Os where
 nm : List Int
 nx : Int
 ks : List Kn
 ed : List Dm
open Classical in
noncomputable def Os.run (s : Os) (e : Dm) : Option Os := if s.ed.length < 100000 /\ in64 e.f1 /\ in64 e.f2 then some { s with ks := (Ce s.ks (DM e)).getD s.ks, ed := s.ed ++ [e] } else none
open Classical in
noncomputable def Og (N M : List B8) (s : Os) (x : Int × Int) : Option Os :=
 let s1 : Os := { s with nm := s.nm.set x.2.toNat x.1 }
 let m := N.getD x.1.toNat D0
 let n := M.getD x.2.toNat D0
 if m.f1 = n.f1 /\ m.f2 = n.f2 then some s1 else s1.run ⟨3, x.1, 0, 0, 0, n.f1, n.f2⟩
noncomputable def LX (N M : List B8) : List (Int × Int) -> Os -> Option Os
 | [], s => some s
 | x :: r, s => (Og N M s x).bind (LX N M r)
open Classical in
noncomputable def Dr (M : List B8) (i : Nat) (stay : Int -> Bool) (s : Os × Int) (k : Int) : Option (Os × Int) :=
 if s.1.nm.getD k.toNat 0 < 0 then
  let n := M.getD k.toNat D0
  ({ s.1 with nm := s.1.nm.set k.toNat s.1.nx, nx := s.1.nx + 1 } : Os).run ⟨1, s.1.nx, (s.1.nm.set k.toNat s.1.nx).getD i 0, s.2, n.f0, n.f1, n.f2⟩ |>.map fun t => (t, s.1.nx)
 else if stay k = true then some (s.1, s.1.nm.getD k.toNat 0)
 else (s.1.run ⟨4, s.1.nm.getD k.toNat 0, s.1.nm.getD i 0, s.2, 0, ⟨#[]⟩, ⟨#[]⟩⟩).map fun t => (t, s.1.nm.getD k.toNat 0)
noncomputable def Fs (M : List B8) (i : Nat) (stay : Int -> Bool) : List Int -> Os × Int -> Option (Os × Int)
 | [], s => some s
 | k :: r, s => (Dr M i stay s k).bind (Fs M i stay r)
def BO (nm : List Int) (p : Kn) (kids : List Int) : List Int := kids.filter fun k => decide (0 <= nm.getD k.toNat 0) && decide (0 <= AO p.kids (nm.getD k.toNat 0))
def BP (nm : List Int) (p : Kn) (kids : List Int) : List Int := (BO nm p kids).map fun k => AO p.kids (nm.getD k.toNat 0)
def F0 (nm : List Int) (p : Kn) (kids : List Int) (k : Int) : Bool := (CE (BP nm p kids)).any fun at_ => decide ((BO nm p kids).getD at_.toNat 0 = k)
noncomputable def ER (M : List B8) (K : List (List Int)) (s : Os) (i : Nat) : Option Os :=
 match CY s.ks (s.nm.getD i 0) with
 | none => none
 | some p => (Fs M i (F0 s.nm p (K.getD i [])) (K.getD i []) (s, -1)).map (·.1)
noncomputable def KH (M : List B8) (K : List (List Int)) : Nat -> Nat -> Os -> Option Os
 | 0, _, s => some s
 | n + 1, i, s => (ER M K s i).bind (KH M K n (i + 1))
noncomputable def LY (kept : Int -> Bool) : Nat -> Os -> Option Os
 | 0, s => some s
 | n + 1, s => (if kept (n : Int) = true then some s else s.run ⟨2, (n : Int), 0, 0, 0, ⟨#[]⟩, ⟨#[]⟩⟩).bind (LY kept n)
noncomputable def OS (N : List B8) (P : List Int) (M : List B8) (K : List (List Int)) (prs : List (Int × Int)) : Option Os :=
 (LX N M prs ⟨Pz M.length (-1), (N.length : Int), Bn N P N.length, []⟩).bind fun s1 => (KH M K M.length 0 s1).bind fun s2 => LY (fun x => decide (x ∈ prs.map (·.1))) N.length s2
structure Eh (m : Nat) (s : Os) : Prop where
 inv : CQ s.ks
 len : s.ks.length <= 1000 + s.ed.length
 nm : s.nm.length = m
theorem Os.run_ok {m : Nat} {s t : Os} {e : Dm} (h : Eh m s) (hr : s.run e = some t) : Eh m t /\ t.ks = (Ce s.ks (DM e)).getD s.ks /\ t.ed = s.ed ++ [e] /\ t.nm = s.nm /\ t.nx = s.nx /\ s.ed.length < 100000 /\ in64 e.f1 /\ in64 e.f2 := by
 unfold Os.run at hr
 split at hr
 ·rename_i hc;injection hr with hr
  subst hr;refine ⟨⟨?_, ?_, h.nm⟩, rfl, rfl, rfl, rfl, hc.1, hc.2.1, hc.2.2⟩
  ·dsimp only;cases hd : Ce s.ks (DM e) with
   | none => exact h.inv
   | some ks' => exact Fp h.inv hc.2.1 hd
  ·dsimp only;rw [PK];have := h.len;cases hd : Ce s.ks (DM e) with
   | none => show s.ks.length <= _; simp; omega
   | some ks' =>
    have := Gj hd
    show ks'.length <= _
    simp; omega
 ·cases hr
end Go.Proofs.Q
namespace Go.Proofs.Q
open Go Go.RowKit Go.Lib Go.Sort Go.Proofs.V.Words Go.Proofs.V.SL
theorem Fu {ba : List Int} {n : Nat} (h : ∀ k, k < n -> -1 <= ba.getD k 0 /\ ba.getD k 0 < (k : Int)) : ∀ (f : Nat) (i : Int), i < (n : Int) -> ∀ x ∈ Dh ba f i, 0 <= x /\ x < (n : Int)
 | 0, _, _, x, hx => by simp [Dh] at hx
 | f + 1, i, hi, x, hx => by
  rw [Dh] at hx
  split at hx
  ·simp at hx
  ·rcases Qg.1 hx with rfl | hx
   ·omega
   ·refine Fu h f _ ?_ x hx;have := h i.toNat (by omega);omega
theorem He {l : List Int} {x : Int} (hx : x ∈ CE l) : 0 <= x /\ x < (l.length : Int) := by
 have hok := Iu l l.length (Ps _);exact Fu hok.ba _ _ hok.be.2 x hx
theorem Oh {w : Pe} {A : Option Addr} {n : Nat} {xs : List Int} (h : Kd.C (Kd.int .i64) w A n xs) (i : Int) (h0 : 0 <= i) (h1 : i < n) : ∃ ad, A = some ad /\ w.cell? (ad.add i.toNat) = some (.int .i64 (xs.getD i.toNat 0)) := by
 obtain ⟨ad, c, e, _, hK, hc0⟩ := Kd.C_get h (0 : Int) i h0 h1;have hc : ∀ j u, c[j]? = some u -> w.cell? (ad.add (i.toNat * 1 + j)) = some u := hc0;have hK2 : c = [.int .i64 (xs.getD i.toNat 0)] := hK;subst hK2;exact ⟨ad, e, by have hq := hc 0 _ rfl; rwa [RG, Nat.add_zero] at hq⟩
theorem LA {nm : List Int} {p : Kn} {l : List Int} {k : Int} (h1 : 0 <= nm.getD k.toNat 0) (h2 : 0 <= AO p.kids (nm.getD k.toNat 0)) : BO nm p (l ++ [k]) = BO nm p l ++ [k] /\ BP nm p (l ++ [k]) = BP nm p l ++ [AO p.kids (nm.getD k.toNat 0)] := by
 have h : BO nm p (l ++ [k]) = BO nm p l ++ [k] := by
  unfold BO;rw [Sc, Qv (by simp only [PI, decide_eq_true_eq]; exact ⟨h1, h2⟩), List.filter_nil]
 refine ⟨h, ?_⟩;unfold BP;rw [h, Qs];rfl
theorem JT {nm : List Int} {p : Kn} {l : List Int} {k : Int} (h : ¬ (0 <= nm.getD k.toNat 0 /\ 0 <= AO p.kids (nm.getD k.toNat 0))) : BO nm p (l ++ [k]) = BO nm p l /\ BP nm p (l ++ [k]) = BP nm p l := by
 have h : BO nm p (l ++ [k]) = BO nm p l := by
  unfold BO;rw [Sc, List.filter_cons_of_neg (by simp only [PI, decide_eq_true_eq]; exact h), List.filter_nil, Qd]
 refine ⟨h, ?_⟩;unfold BP;rw [h]
theorem GF (nm : List Int) (p : Kn) (l : List Int) : (BO nm p l).length <= l.length := List.length_filter_le _ _
theorem EA (nm : List Int) (p : Kn) (l : List Int) : (BP nm p l).length = (BO nm p l).length := List.length_map _
theorem JU {nm : List Int} {p : Kn} {l : List Int} {k : Int} (h : k ∈ BO nm p l) : k ∈ l := (Qp.1 h).1
theorem LB {α : Type} {l : List α} {i : Nat} (h : i < l.length) (d : α) : l.take (i + 1) = l.take i ++ [l.getD i d] := by
 rw [List.take_add_one, Pt, Pg h]; rfl
theorem LC {α : Type} {l : List α} {i : Nat} (h : i < l.length) (d : α) : l.drop i = l.getD i d :: l.drop (i + 1) := by
 rw [R6 h, Pt, Pg h]; rfl
theorem Fv {α : Type} {l : List α} {i : Nat} (h : i < l.length) (d : α) : l.getD i d ∈ l := by
 rw [Pt, Pg h]; exact List.getElem_mem h
theorem LD {P : Program} {ops : Array Oper} {o : Oper} {rest : List Oper} {a : Act} {Q : Exit -> Act -> Pe -> Prop} {w : Pe} (hg : o.guard = none) (t : TypeId) (m : Operand) (hop : o.op = Op.range t m)
  (vm v : Pd) (hm : a.eval m = vm) {w' : Pe} (hr : (Instr.range t vm).run P w = .ok v w') (h : QD P ops Q rest (a.put o.dst v) w') : QD P ops Q (o :: rest) a w := by
 refine wpList_plain hg fun K' hK' => ?_
 unfold Oper.wp;simp [execOp, hop, hm, hr, Sw];exact hK' _ _ h
theorem Jd {P : Program} {ops : Array Oper} {o : Oper} {rest : List Oper} {a : Act} {Q : Exit -> Act -> Pe -> Prop} {w : Pe} (hg : o.guard = none) (m : Operand) (hop : o.op = Op.next m BK)
  (vm v : Pd) (hm : a.eval m = vm) {w' : Pe} (hr : (Instr.next vm BK o.type).run P w = .ok v w') (h : QD P ops Q rest (a.put o.dst v) w') : QD P ops Q (o :: rest) a w := by
 refine wpList_plain hg fun K' hK' => ?_
 unfold Oper.wp;simp [execOp, hop, hm, hr, Sw];exact hK' _ _ h
section
variable {w0 w w' : Pe} {Z : Nat -> Prop} {F : List FA} {gb bm N k b m r cnt : Nat} {pre X : List Bj} {ad : Int -> Nat} {ks : List Kn} {K left : Int -> Bool}
theorem AG.setRange (H : AG w0 Z F gb bm pre X N ad ks w) (hk : X[k]? = some (Df b m K)) : ∃ r w' cnt, (Instr.range 74 (.map (some b))).run Try.prog w = .ok (.pointer (some ⟨r, 0, none⟩)) w' /\ AG w0 Z F gb bm pre (X.set k (NS b r m K K cnt)) N ad ks w' /\ cnt <= m := by
 obtain ⟨g, ids, mm, h1, hm, hids, S⟩ := H;unfold GL at S;rw [<- PP] at S;have h2 : ∀ L : List Bj, (L ++ X)[L.length + k]? = some (Df b m K) := fun L => by rw [PY (by omega), Q2]; exact hk
 obtain ⟨w', cnt, hr, S', _, hc⟩ := Ly S _ (h2 _);refine ⟨_, w', cnt, hr, ⟨g, ids, mm, h1, hm, hids, ?_⟩, hc⟩;rw [QN _ _ (by omega), Q2] at S';unfold GL;rw [<- PP];exact S'
theorem AG.setNext (H : AG w0 Z F gb bm pre X N ad ks w) (hk : X[k]? = some (NS b r m K left cnt)) (ty : TypeId) :
  ((∀ x, left x = BK) /\ (Instr.next (.pointer (some ⟨r, 0, none⟩)) BK ty).run Try.prog w = .ok (.tuple #[.bool BK]) w) \/
  ∃ x w' cnt', left x = true /\ in64 x /\ (Instr.next (.pointer (some ⟨r, 0, none⟩)) BK ty).run Try.prog w = .ok (.tuple #[.bool true, .int .i64 x, .bool true]) w' /\ (Instr.entry (.pointer (some ⟨r, 0, none⟩))).run Try.prog w' = .ok (.tuple #[.int .i64 x, .bool true]) w' /\
   cnt' < cnt /\ AG w0 Z F gb bm pre (X.set k (NS b r m K (fun j => left j && !decide (j = x)) cnt')) N ad ks w' := by
 obtain ⟨g, ids, mm, h1, hm, hids, S⟩ := H;unfold GL at S;rw [<- PP] at S;have h2 : ∀ L : List Bj, (L ++ X)[L.length + k]? = some (NS b r m K left cnt) := fun L => by rw [PY (by omega), Q2]; exact hk
 rcases MG S _ (h2 _) ty with h | ⟨x, w', cnt', a1, a2, a3, a4, a5, S', _⟩
 ·exact .inl h
 ·refine .inr ⟨x, w', cnt', a1, a2, a3, a4, a5, g, ids, mm, h1, hm, hids, ?_⟩;rw [QN _ _ (by omega), Q2] at S';unfold GL;rw [<- PP];exact S'
theorem AG.swap2 {a c : Bj} (H : AG w0 Z F gb bm pre (a :: c :: X) N ad ks w) : AG w0 Z F gb bm pre (c :: a :: X) N ad ks w := H.permX (Qq _ _ _)
theorem AG.newSet (H : AG w0 Z F gb bm pre X N ad ks w) : AG w0 Z F gb bm pre (Df w.heap.size 0 (fun _ => BK) :: X) N ad ks (w.alloc (.map #[] 0)) := H.add (fun L S => Gk S)
theorem AG.in4 {a p q r : Bj} (H : AG w0 Z F gb bm pre (a :: p :: q :: r :: X) N ad ks w) : AG w0 Z F gb bm pre (p :: q :: r :: a :: X) N ad ks w :=
 H.permX ((Q8 (l₁ := [a]) (l₂ := [p, q, r])).append_right X)
theorem AG.out4 {a p q r : Bj} (H : AG w0 Z F gb bm pre (p :: q :: r :: a :: X) N ad ks w) : AG w0 Z F gb bm pre (a :: p :: q :: r :: X) N ad ks w :=
 H.permX ((Q8 (l₁ := [p, q, r]) (l₂ := [a])).append_right X)
end
theorem LE {nm : List Int} {p : Kn} {kids : List Int} {k : Int} : F0 nm p kids k = true ↔ ∃ x ∈ CE (BP nm p kids), (BO nm p kids).getD x.toNat 0 = k := by
 unfold F0;rw [List.any_eq_true];simp
theorem LF {R : List Int} {left K2 : Int -> Bool} {TH : List Int} {x kk : Int} (hR : x ∈ R) (hk : TH.getD x.toNat 0 = kk) (h : ∀ k, K2 k = true ↔ ∃ y ∈ R, left y = BK /\ TH.getD y.toNat 0 = k) (k : Int) : (K2 k || decide (k = kk)) = true ↔ ∃ y ∈ R, (left y && !decide (y = x)) = BK /\ TH.getD y.toNat 0 = k := by
 rw [Rg, h, decide_eq_true_eq];constructor
 ·rintro (⟨y, h1, h2, h3⟩ | rfl)
  ·exact ⟨y, h1, by rw [h2]; rfl, h3⟩
  ·exact ⟨x, hR, by simp, hk⟩
 ·rintro ⟨y, h1, h2, h3⟩;by_cases e : y = x
  ·subst e; exact .inr (h3.symm.trans hk)
  ·exact .inl ⟨y, h1, by simpa [e] using h2, h3⟩
theorem ML {left K2 : Int -> Bool} {nm : List Int} {p : Kn} {kids : List Int} (hn : ∀ x, left x = BK) (h : ∀ k, K2 k = true ↔ ∃ y ∈ CE (BP nm p kids), left y = BK /\ (BO nm p kids).getD y.toNat 0 = k) : K2 = F0 nm p kids := by
 funext k
 rw [Bool.eq_iff_iff, h, LE];exact ⟨fun ⟨y, h1, _, h3⟩ => ⟨y, h1, h3⟩, fun ⟨y, h1, h3⟩ => ⟨y, h1, hn y, h3⟩⟩
theorem JV {R TH : List Int} (k : Int) : (fun _ : Int => BK) k = true ↔ ∃ y ∈ R, decide (y ∈ R) = BK /\ TH.getD y.toNat 0 = k :=
 ⟨fun h => (Bool.false_ne_true h).elim, fun ⟨x, h1, h2, _⟩ => by simp [h1] at h2⟩
theorem G6 {M : List B8} {i k : Nat} {st : Int -> Bool} {s : Os} {last : Int} (h : s.nm.getD k 0 < 0) :
  Dr M i st (s, last) (k : Int) = (({ s with nm := s.nm.set k s.nx, nx := s.nx + 1 } : Os).run ⟨1, s.nx, (s.nm.set k s.nx).getD i 0, last, (M.getD k D0).f0, (M.getD k D0).f1, (M.getD k D0).f2⟩).map fun t => (t, s.nx) := by
 unfold Dr;dsimp only;rw [PO, if_pos h]
theorem Fw {M : List B8} {i k : Nat} {st : Int -> Bool} {s : Os} {last : Int} (h : ¬ s.nm.getD k 0 < 0) (hs : st (k : Int) = true) : Dr M i st (s, last) (k : Int) = some (s, s.nm.getD k 0) := by
 unfold Dr;dsimp only;rw [PO, if_neg h, if_pos hs]
theorem Ix {M : List B8} {i k : Nat} {st : Int -> Bool} {s : Os} {last : Int} (h : ¬ s.nm.getD k 0 < 0) (hs : st (k : Int) = BK) :
  Dr M i st (s, last) (k : Int) = (s.run ⟨4, s.nm.getD k 0, s.nm.getD i 0, last, 0, ⟨#[]⟩, ⟨#[]⟩⟩).map fun t => (t, s.nm.getD k 0) := by
 unfold Dr;dsimp only;rw [PO, if_neg h, if_neg (by rw [hs]; exact Bool.false_ne_true)]
theorem LG {α β γ : Type} (o : Option α) (f : α -> β) (g : β -> Option γ) : (o.map f).bind g = o.bind fun t => g (f t) := by cases o <;> rfl
end Go.Proofs.Q
namespace Go.Proofs.Q
theorem Je {kept : Int -> Bool} {s : Os} : ∀ (n : Nat), (∀ j : Nat, j < n -> kept (j : Int) = true) -> LY kept n s = some s
 | 0, _ => rfl
 | n + 1, h => by
  rw [LY, if_pos (h n (by omega)), Pj];exact Je n (fun j hj => h j (by omega))
theorem Nx (x : B8) : 0 < BT x := by cases x; simp only [BT]; omega
theorem GG {x : B8} (h : BT x <= 1000) : CX x := by
 have hu : Up (Bk x) := Gl x (-1) ⟨[], [], [], []⟩ ⟨rfl, fun j _ hj => by simp at hj⟩ (fun hj => by simp at hj);exact ⟨h, by unfold Bk; rw [CT]; simp, hu.p, hu.up, Nx x⟩
def CG (g : List Kn) (y : Int) : Option Int := (CY g y).bind (·.par)
theorem LH {g : List Kn} (I : CQ g) {p : Kn} (hp : p ∈ g) {y : Int} : y ∈ p.kids ↔ CG g y = some p.id := by
 constructor
 ·intro h;obtain ⟨k, hk, e1, e2⟩ := I.kids p hp y h;unfold CG;rw [<- e1, E4 I.nodup hk];exact e2
 ·intro h;unfold CG at h;cases hk : CY g y with
  | none => rw [hk] at h; cases h
  | some k =>
   rw [hk] at h;obtain ⟨hkm, hki⟩ := Cn hk;obtain ⟨q, hq, e1, e2⟩ := I.par k hkm p.id h;rw [Eu I.nodup hq hp e1] at e2;rw [<- hki]; exact e2
structure PB (m : Nat) (K : List (List Int)) : Prop where
 pos : 0 < m
 kid : ∀ (i : Nat) (k : Int), i < m -> k ∈ K.getD i [] -> (i : Int) < k /\ k < (m : Int)
 kdup : ∀ i, i < m -> (K.getD i []).Nodup
 one : ∀ (i i' : Nat) (k : Int), i < m -> i' < m -> k ∈ K.getD i [] -> k ∈ K.getD i' [] -> i = i'
 all : ∀ j : Nat, 0 < j -> j < m -> ∃ i : Nat, i < j /\ (j : Int) ∈ K.getD i []
section
variable {m i : Nat} {K : List (List Int)} {dn : List Int} {s : Os}
end
section
variable {N M : List B8} {l : List (Int × Int)}
end
end Go.Proofs.Q
