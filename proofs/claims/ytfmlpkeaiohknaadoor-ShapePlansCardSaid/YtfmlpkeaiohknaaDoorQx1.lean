-- Written by a program of this session (wip/mkprint.py, wip/pr.sh) for this claim; Lean checks it.
import Derived.Test.YtfmlpkeaiohknaaDoorQx0
import Derived.Test.YtfmlpkeaiohknaaDoorMOf
namespace Go.Proofs.YtfmlpkeaiohknaaDoor.Q
open Go.RowKit Go.Proofs.YtfmlpkeaiohknaaDoorW.PrintWords Go.Proofs.YtfmlpkeaiohknaaDoorW.PrintLast Go.Proofs.YtfmlpkeaiohknaaDoorW.PrintMore
attribute [local go_sem] max2_int min2_int max_two min_two max_three min_three max_four min_four   -- for this text's walks alone
set_option linter.unusedVariables false
set_option linter.unusedSimpArgs false

/-! ### scarfref05_Nodes: function 17 -/
mutual
def scarfref05_Nodes.l0 : Nat → Int → List (S24) → Int → Int → ByteArray → ByteArray → List (S24) → Option ((List (S24)))
 | 0, _, _, _, _, _, _, _ => none
 | k + 1, x1, x5, x6, x102000, x102001, x102002, x102003 => if x6 < (x102003.length : Int) then (if (x5.length : Int) < x1 then (if 0 ≤ x6 then ((scarfref05_Nodes.f k ((rd_T24 x102003 x6).f0) ((rd_T24 x102003 x6).f1) ((rd_T24 x102003 x6).f2) ((rd_T24 x102003 x6).f3) (wrap64 (x1 - (x5.length : Int)))).bind fun t106 => (if x5.length + t106.length < 2199023255552 then (scarfref05_Nodes.l0 k x1 (x5 ++ t106) (wrap64 (x6 + 1)) x102000 x102001 x102002 x102003) else (none))) else (none)) else (some x5)) else (some x5)
def scarfref05_Nodes.f : Nat → Int → ByteArray → ByteArray → List (S24) → Int → Option ((List (S24)))
 | 0, _, _, _, _, _ => none
 | k + 1, a0_0, a0_1, a0_2, l0_3, a1 => scarfref05_Nodes.l0 k a1 (([(⟨a0_0, a0_1, a0_2, l0_3⟩ : S24)] : List (S24))) 0 a0_0 a0_1 a0_2 l0_3
end
theorem scarfref05_Nodes.mono_l : ∀ k, (∀ y0 y1 y2 y3 y4, LeO (scarfref05_Nodes.f k y0 y1 y2 y3 y4) (scarfref05_Nodes.f (k + 1) y0 y1 y2 y3 y4)) ∧ (∀ y0 y1 y2 y3 y4 y5 y6, LeO (scarfref05_Nodes.l0 k y0 y1 y2 y3 y4 y5 y6) (scarfref05_Nodes.l0 (k + 1) y0 y1 y2 y3 y4 y5 y6))
 | 0 => ⟨fun _ _ _ _ _ r h => by simp [scarfref05_Nodes.f] at h, fun _ _ _ _ _ _ _ r h => by simp [scarfref05_Nodes.l0] at h⟩
 | k + 1 => by
  obtain ⟨ih0, ih1⟩ := scarfref05_Nodes.mono_l k
  refine ⟨?_, ?_⟩
  ·intro y0 y1 y2 y3 y4
   unfold scarfref05_Nodes.f
   repeat' first
   | (with_reducible exact ih0 _ _ _ _ _)
   | (with_reducible exact ih1 _ _ _ _ _ _ _)
   | (with_reducible exact LeO.refl _)
   | (with_reducible exact LeO.none _)
   | (with_reducible refine LeO.ite ?_ ?_)
   | (with_reducible refine LeO.bind ?_ (fun _ => ?_))
   | exact ih0 _ _ _ _ _
   | exact ih1 _ _ _ _ _ _ _
   | exact LeO.none _
   | refine LeO.ite ?_ ?_
   | refine LeO.bind ?_ (fun _ => ?_)
  ·intro y0 y1 y2 y3 y4 y5 y6
   unfold scarfref05_Nodes.l0
   repeat' first
   | (with_reducible exact ih0 _ _ _ _ _)
   | (with_reducible exact ih1 _ _ _ _ _ _ _)
   | (with_reducible exact LeO.refl _)
   | (with_reducible exact LeO.none _)
   | (with_reducible refine LeO.ite ?_ ?_)
   | (with_reducible refine LeO.bind ?_ (fun _ => ?_))
   | exact ih0 _ _ _ _ _
   | exact ih1 _ _ _ _ _ _ _
   | exact LeO.none _
   | refine LeO.ite ?_ ?_
   | refine LeO.bind ?_ (fun _ => ?_)
theorem scarfref05_Nodes.mono : ∀ a0 a1 a2 a3 a4 k, LeO (scarfref05_Nodes.f k a0 a1 a2 a3 a4) (scarfref05_Nodes.f (k + 1) a0 a1 a2 a3 a4) := by
 intro a0 a1 a2 a3 a4 k
 obtain ⟨ih0, ih1⟩ := scarfref05_Nodes.mono_l k
 exact ih0 a0 a1 a2 a3 a4
set_option maxHeartbeats 8000000 in
set_option maxRecDepth 100000 in
theorem scarfref05_Nodes.calls (k : Nat) : ∀ (a0_0 : Int) (a0_1 : ByteArray) (a0_2 : ByteArray) (P0_3_ : Nat → Prop) (A0_3 : Option Addr) (c0_3 : Nat) (l0_3 : List (S24)) (a1 : Int) (r : List (S24)) (w : World) (hs0_3 : Kd.V k24 24 w w.heap.size (fun k_ => P0_3_ k_) (.slice A0_3 l0_3.length c0_3) l0_3) (h : scarfref05_Nodes.f k a0_0 a0_1 a0_2 l0_3 a1 = some r),
  Calls Tryd.prog 17 #[.agg #[.int .i64 a0_0, .string a0_1, .string a0_2, .slice A0_3 l0_3.length c0_3], .int .i64 a1] w fun e w' => ∃ v0_ : Value, e = .returned (v0_) ∧ Kd.N k24 24 w' w.heap.size (fun k_ => (P0_3_ k_ ∨ w.heap.size ≤ k_)) v0_ r ∧ Below w.heap.size w w' := by
 induction k using Nat.strongRecOn with
 | _ k ih =>
 intro a0_0 a0_1 a0_2 P0_3_ A0_3 c0_3 l0_3 a1 r w hs0_3 h
 cases k with
 | zero => exact absurd h (by simp [scarfref05_Nodes.f])
 | succ k =>
 simp only [scarfref05_Nodes.f] at h
 have hu24 := Tryd.underlying24
 have HO0_3 := Aside0.mk (show Kd.V k24 24 w w.heap.size (fun k_ => (P0_3_ k_ ∨ w.heap.size ≤ k_)) (.slice A0_3 l0_3.length c0_3) l0_3 from Kd.V_mono hs0_3 (fun k_ hk => .inl hk))
 have HB := Aside0.mk (Below.refl w.heap.size w)
 have H : (scarfref05_Nodes.l0 k a1 (([(⟨a0_0, a0_1, a0_2, l0_3⟩ : S24)] : List (S24))) 0 a0_0 a0_1 a0_2 l0_3) = some r := h
 clear h
 obtain ⟨y102, hy102⟩ : ∃ y_ : List (S24), y_ = (([(⟨a0_0, a0_1, a0_2, l0_3⟩ : S24)] : List (S24))) := ⟨_, rfl⟩
 replace H : (scarfref05_Nodes.l0 k a1 y102 0 a0_0 a0_1 a0_2 l0_3) = some r := by first | (rw [hy102]; with_reducible exact H) | (have H2_ := (Option.bind_some _ _).symm.trans H; rw [hy102]; with_reducible exact H2_) | (have H2_ := (Option.bind_some _ _).symm.trans H; with_reducible exact H2_) | with_reducible exact H | (rw [hy102]; exact H) | exact H
 have Ny102 := Aside0.mk hy102
 clear hy102
 have H' := Aside0.mk H
 clear H
 go_enter Tryd.func17, Tryd.ntmps17
 go_wp2_with (first | ((with_reducible refine gate_dst (N := 2) rfl ?_); (try (refine gate_guard (by rfl) ?_; dsimp only)); refine box_event ?hg (N := 2) ?hd (cs := #[.int .i64 a0_0, .string a0_1, .string a0_2, .slice A0_3 l0_3.length c0_3]) (t := 24) ?hr ?_; (case hd => rfl); (case hg => rfl); (case hr => first | (go_simp; done) | (go_simp; rfl)); intro gb101 hg w3 hbox hb; have n0_ := Aside0.mk (Kd.V_below (Kd.V_elderB (by (with_reducible repeat (first | apply Kd.V_alloc | apply Kd.V_drewN | apply Kd.V_drew)); exact HO0_3.out) gb101 (Nat.le_of_eq hg.symm)) hb); have n1_ := Aside0.mk (below_step (by repeat (first | (with_reducible first | exact HB.out | apply below_alloc | apply pw_below_drewN | apply below_drew1) | exact HB.out)) hb); have n2_ := Aside0.mk (hbox); have n3_ := Aside0.mk ((by rw [hg]; exact (below_size (by repeat (first | (with_reducible first | exact HB.out | apply below_alloc | apply pw_below_drewN | apply below_drew1) | exact HB.out))) : w.heap.size ≤ gb101)); have n4_ := Aside0.mk ((by rw [hg]; exact (below_size (by repeat (first | (with_reducible first | exact HB.out | apply below_alloc | apply pw_below_drewN | apply below_drew1) | exact HB.out))) : w.heap.size ≤ gb101)); clear HO0_3; clear HB; have HO0_3 := n0_; have HB := n1_; have BK101 := n2_; have GW101 := n3_; have GE101 := n4_; clear n0_ n1_ n2_ n3_ n4_; clear hb hbox hg; have hcz4_0 : w3.cell? ⟨gb101, 0, none⟩ = some (.int .i64 a0_0) := (blk_cell BK101.out 0).trans rfl; have hcz4_1 : w3.cell? ⟨gb101, 1, none⟩ = some (.string a0_1) := (blk_cell BK101.out 1).trans rfl; have hcz4_2 : w3.cell? ⟨gb101, 2, none⟩ = some (.string a0_2) := (blk_cell BK101.out 2).trans rfl; have hcz4_3 : w3.cell? ⟨gb101, 3, none⟩ = some (.slice A0_3 l0_3.length c0_3) := (blk_cell BK101.out 3).trans rfl; have hfz4_0 := blk_frozen BK101.out 0; have hfz4_1 := blk_frozen BK101.out 1; have hfz4_2 := blk_frozen BK101.out 2; have hfz4_3 := blk_frozen BK101.out 3) | ((with_reducible refine gate_dst (N := 8) rfl ?_); (try (refine gate_guard (by rfl) ?_; dsimp only)); refine Kd.N_lit k24 _ 24 ?hg (N' := 8) ?hd (xs := ([(⟨a0_0, a0_1, a0_2, l0_3⟩ : S24)] : List (S24))) (inner := [.int .i64 a0_0, .string a0_1, .string a0_2, .slice A0_3 l0_3.length c0_3]) (ok := (fun k_ => (P0_3_ k_ ∨ w.heap.size ≤ k_) ∧ k_ ≠ gb101)) (okp := (fun k_ => (P0_3_ k_ ∨ w.heap.size ≤ k_) ∧ k_ ≠ gb101)) ?hr ?hp (fun _ hk => hk) ((show ∀ k_, w3.heap.size ≤ k_ → (fun k_ => (P0_3_ k_ ∨ w.heap.size ≤ k_) ∧ k_ ≠ gb101) k_ from fun k_ hk => ⟨(.inr (Nat.le_trans (below_size (by repeat (first | (with_reducible first | exact HB.out | apply below_alloc | apply pw_below_drewN | apply below_drew1 | refine below_set ?_ GE101.out) | exact HB.out))) hk)), Kd.freshB (g := gb101) (o := .cells #[.int .i64 a0_0, .string a0_1, .string a0_2, .slice A0_3 l0_3.length c0_3] 24 (0, 0)) (by (with_reducible repeat (first | refine blk_drewN ?_ _ | refine blk_drew ?_ | refine blk_alloc ?_ _)); exact BK101.out) k_ hk⟩) _ (Nat.le_refl _)) (Below.refl _ _) (Nat.le_refl _) (by simp) ?_; (case hd => rfl); (case hg => rfl); (case hr => first | (go_simp; done) | (go_simp; rfl)); (case hp => exact (Reps.c4 (show Kd.FK k24 _ _ (⟨a0_0, a0_1, a0_2, l0_3⟩ : S24) [.int .i64 a0_0, .string a0_1, .string a0_2, .slice A0_3 l0_3.length c0_3] from (k24_mkF _ _ (⟨a0_0, a0_1, a0_2, l0_3⟩ : S24) (Kd.V_reads' (Kd.V_mono (ok' := (fun k_ => (P0_3_ k_ ∨ w.heap.size ≤ k_) ∧ k_ ≠ gb101)) (HO0_3.out) (fun k_ hk => ⟨hk.1, hk.2⟩))).2.1 (Kd.V_F (Kd.V_mono (ok' := (fun k_ => (P0_3_ k_ ∨ w.heap.size ≤ k_) ∧ k_ ≠ gb101)) (HO0_3.out) (fun k_ hk => ⟨hk.1, hk.2⟩))))) (Reps.none _ _))); intro v103 w5 ho6 hb hg_ hnew_; clear hg_ hnew_; (first | rw [← Ny102.out] at ho6 | (simp only [Int.reduceToNat] at ho6; rw [← Ny102.out] at ho6)); have n0_ := Aside0.mk (Kd.V_elder' (by (with_reducible repeat (first | apply Kd.V_alloc | apply Kd.V_drewN | apply Kd.V_drew)); exact HO0_3.out) (Kd.N_base ho6) hb); have n1_ := Aside0.mk (Kd.N_lower ho6 (below_size (by repeat (first | (with_reducible first | exact HB.out | apply below_alloc | apply pw_below_drewN | apply below_drew1 | refine below_set ?_ GE101.out) | exact HB.out)))); have n2_ := Aside0.mk (blk_below (g := gb101) (o := .cells #[.int .i64 a0_0, .string a0_1, .string a0_2, .slice A0_3 l0_3.length c0_3] 24 (0, 0)) (by (with_reducible repeat (first | refine blk_drewN ?_ _ | refine blk_drew ?_ | refine blk_alloc ?_ _)); exact BK101.out) hb); have n3_ := Aside0.mk (below_step (by repeat (first | (with_reducible first | exact HB.out | apply below_alloc | apply pw_below_drewN | apply below_drew1 | refine below_set ?_ GE101.out) | exact HB.out)) hb); clear HO0_3; clear BK101; clear HB; have HO0_3 := n0_; have HO104 := n1_; have BK101 := n2_; have HB := n3_; clear n0_ n1_ n2_ n3_; clear hb ho6))
 go_loopg [5, 6] k (fun kq v5 v6 w' => ∃ (x5_1 : List (S24)) (x6_1 : Int), v6 = .int .i64 x6_1 ∧ Aside0 (scarfref05_Nodes.l0 kq a1 x5_1 x6_1 a0_0 a0_1 a0_2 l0_3 = some r) ∧ Aside0 (kq ≤ k) ∧ Aside0 (Kd.N k24 24 w' w.heap.size (fun k_ => (P0_3_ k_ ∨ w.heap.size ≤ k_) ∧ k_ ≠ gb101) v5 x5_1) ∧ Aside0 (Kd.V k24 24 w' w.heap.size (fun k_ => (P0_3_ k_ ∨ w.heap.size ≤ k_) ∧ some k_ ≠ (v5 : Value).ownBlock ∧ k_ ≠ gb101) (.slice A0_3 l0_3.length c0_3) l0_3) ∧ Aside0 (w'.heap[gb101]? = some (.cells #[.int .i64 a0_0, .string a0_1, .string a0_2, (.slice A0_3 l0_3.length c0_3)] 24 (0, 0))) ∧ Aside0 (Below w.heap.size w w'))
 case atStart => exact ⟨(y102), (0), (by first | rfl | (simp; done) | (simp [*]; done)), H', ⟨Nat.le_refl _⟩, ⟨by (with_reducible repeat (first | apply Kd.N_alloc | apply Kd.N_drewN | apply Kd.N_drew)); exact HO104.out⟩, ⟨by (with_reducible repeat (first | apply Kd.V_alloc | apply Kd.V_drewN | apply Kd.V_drew)); exact Kd.V_mono HO0_3.out (fun _ hk => ⟨hk.1.1, ⟨hk.2, hk.1.2⟩⟩)⟩, ⟨by (with_reducible repeat (first | refine blk_drewN ?_ _ | refine blk_drew ?_ | refine blk_alloc ?_ _)); exact BK101.out⟩, ⟨by repeat (first | (with_reducible first | exact HB.out | apply below_alloc | apply pw_below_drewN | apply below_drew1 | refine below_set ?_ GE101.out) | exact HB.out)⟩⟩
 case round =>
  clear H'
  try clear c1
  try clear p2
  try clear c4
  try clear hcz4_0
  try clear hcz4_1
  try clear hcz4_2
  try clear hcz4_3
  try clear hfz4_0
  try clear hfz4_1
  try clear hfz4_2
  try clear hfz4_3
  obtain ⟨x5_1, x6_1, rfl, HA, HK1, HO_5, HO_102003, BK101, HB⟩ := hrel
  cases gk with
  | zero => exact absurd HA.out (by simp [scarfref05_Nodes.l0])
  | succ k1 =>
   have H := HA.out
   clear HA
   simp only [scarfref05_Nodes.l0] at H
   by_cases c7 : x6_1 < (l0_3.length : Int)
   ·rw [if_pos c7] at H
    have c7b0 : decide (x6_1 < (l0_3.length : Int)) = true := decide_eq_true c7
    clear c7
    by_cases c8 : (x5_1.length : Int) < a1
    ·rw [if_pos c8] at H
     have c8b0 : decide ((x5_1.length : Int) < a1) = true := decide_eq_true c8
     clear c8
     by_cases c9 : 0 ≤ x6_1
     ·rw [if_pos c9] at H
      have c9b0 : decide (0 ≤ x6_1) = true := decide_eq_true c9
      clear c9
      replace H := Option.bind_eq_some_iff.mp H
      obtain ⟨t106, A100, H⟩ := H
      replace H : (if x5_1.length + t106.length < 2199023255552 then (scarfref05_Nodes.l0 k1 a1 (x5_1 ++ t106) (wrap64 (x6_1 + 1)) a0_0 a0_1 a0_2 l0_3) else (none)) = some r := H
      have A10 := Aside0.mk A100
      clear A100
      by_cases c11 : x5_1.length + t106.length < 2199023255552
      ·rw [if_pos c11] at H
       have LMc11 := Aside0.mk c11
       clear c11
       obtain ⟨y109, hy109⟩ : ∃ y_ : List (S24), y_ = (x5_1 ++ t106) := ⟨_, rfl⟩
       replace H : (scarfref05_Nodes.l0 k1 a1 y109 (wrap64 (x6_1 + 1)) a0_0 a0_1 a0_2 l0_3) = some r := by first | (rw [hy109]; with_reducible exact H) | (have H2_ := (Option.bind_some _ _).symm.trans H; rw [hy109]; with_reducible exact H2_) | (have H2_ := (Option.bind_some _ _).symm.trans H; with_reducible exact H2_) | with_reducible exact H | (rw [hy109]; exact H) | exact H
       have Ny109 := Aside0.mk hy109
       clear hy109
       have H' := Aside0.mk H
       clear H
       have hcz12_0 : wr.cell? ⟨gb101, 0, none⟩ = some (.int .i64 a0_0) := (blk_cell BK101.out 0).trans rfl
       have hcz12_1 : wr.cell? ⟨gb101, 1, none⟩ = some (.string a0_1) := (blk_cell BK101.out 1).trans rfl
       have hcz12_2 : wr.cell? ⟨gb101, 2, none⟩ = some (.string a0_2) := (blk_cell BK101.out 2).trans rfl
       have hcz12_3 : wr.cell? ⟨gb101, 3, none⟩ = some (.slice A0_3 l0_3.length c0_3) := (blk_cell BK101.out 3).trans rfl
       have hfz12_0 := blk_frozen BK101.out 0
       have hfz12_1 := blk_frozen BK101.out 1
       have hfz12_2 := blk_frozen BK101.out 2
       have hfz12_3 := blk_frozen BK101.out 3
       obtain ⟨Ao13, co13, eo13⟩ := Kd.N_slice HO_5.out
       subst eo13
       have p105 : 0 ≤ (x6_1 : Int) := of_decide_eq_true (by first | (with_reducible assumption) | assumption)
       have q105 : x6_1 < (l0_3.length : Int) := of_decide_eq_true (by first | (with_reducible assumption) | assumption)
       obtain ⟨ad105, A105_3, c105_3, e105, hx105_0, hx105_1, hx105_2, hx105_3, hl105_3, hi105_3⟩ := at_T24 (Kd.V_reads' HO_102003.out).2.2 x6_1 p105 q105
       cases e105
       obtain ⟨ce105, hce105, hMe105, hcc105⟩ := Kd.V_get HO_102003.out z24 x6_1 p105 (by first | exact q105 | exact of_decide_eq_true (by first | (with_reducible assumption) | assumption) | (have e_ := (Kd.V_reads' HO_102003.out).1; omega))
       obtain ⟨ua105_3, uc105_3, rfl, ul105_3, ge105_3⟩ := k24_openF hMe105
       have hv105_3 := hcc105 3 _ rfl
       rw [add_field _ _ 3 (by omega)] at hv105_3
       replace hv105_3 := Option.some.inj (hv105_3.symm.trans hx105_3)
       injection hv105_3 with hva_ hvn_ hvc_
       rw [hva_] at ge105_3
       rw [hvc_] at ul105_3
       have HL105_3 := Aside0.mk (show Kd.V k24 24 _ w.heap.size _ _ ((rd_T24 l0_3 x6_1).f3) from Kd.V_mk ul105_3 ge105_3)
       clear hva_ hvn_ hvc_ ge105_3 ul105_3
       clear hcc105 hce105
       have HR105_3 := Aside0.mk hi105_3
       have HC105_3 := Aside0.mk hl105_3
       clear hi105_3 hl105_3
       replace p105 := eq_true p105
       replace q105 := eq_true q105
       go_wp2_with (first | ((with_reducible refine gate_callee (f := 17) rfl ?_); refine goesL_ (some 32) rfl rfl Tryd.func17 (by kernel_rfl) rfl #[.agg #[.int .i64 ((rd_T24 l0_3 x6_1).f0), .string ((rd_T24 l0_3 x6_1).f1), .string ((rd_T24 l0_3 x6_1).f2), .slice A105_3 ((rd_T24 l0_3 x6_1).f3).length c105_3], .int .i64 (wrap64 (a1 - (x5_1.length : Int)))] rfl (by (try simp only [List.map_toArray, List.map_cons, List.map_nil]); first | done | rfl | (simp only [List.length_drop, List.length_take]; rfl)) ?_; (with_reducible refine (ih k1 (by have := HK1.out; omega) ((rd_T24 l0_3 x6_1).f0) ((rd_T24 l0_3 x6_1).f1) ((rd_T24 l0_3 x6_1).f2) (fun k_ => ((P0_3_ k_ ∨ w.heap.size ≤ k_) ∧ (some k_ ≠ (.slice Ao13 x5_1.length co13 : Value).ownBlock ∧ k_ ≠ gb101))) _ _ ((rd_T24 l0_3 x6_1).f3) (wrap64 (a1 - (x5_1.length : Int))) t106 _ ?side1 A10.out).mono ?_); (case side1 => exact HL105_3.out); rintro e w14 ⟨v107, rfl, ho0, hb⟩; refine ⟨_, rfl, ?_⟩; have n0_ := Aside0.mk (Kd.N_elder' (by (with_reducible repeat (first | apply Kd.N_alloc | apply Kd.N_drewN | apply Kd.N_drew)); exact HO_5.out) (Kd.N_base ho0) hb); have n1_ := Aside0.mk (Kd.V_elder' (by (with_reducible repeat (first | apply Kd.V_alloc | apply Kd.V_drewN | apply Kd.V_drew)); exact HO_102003.out) (Kd.N_base ho0) hb); have n2_ := Aside0.mk (Kd.V_elder' (by (with_reducible repeat (first | apply Kd.V_alloc | apply Kd.V_drewN | apply Kd.V_drew)); exact HL105_3.out) (Kd.N_base ho0) hb); have n3_ := Aside0.mk (Kd.N_lower (Kd.N_mono (ok' := fun k_ => (P0_3_ k_ ∨ w.heap.size ≤ k_) ∧ some k_ ≠ (.slice Ao13 x5_1.length co13 : Value).ownBlock ∧ k_ ≠ gb101) ho0 (fun k_ hk_ => ⟨Or.elim hk_ (fun hs_ => hs_.1) (fun hn_ => (.inr (Nat.le_trans (below_size (by repeat (first | (with_reducible first | exact HB.out | apply below_alloc | apply pw_below_drewN | apply below_drew1 | refine below_set ?_ GE101.out) | exact HB.out))) hn_))), Or.elim hk_ (fun hs_ => hs_.2.1) (fun hn_ => (Kd.fresh' (Kd.N_lt (by (with_reducible repeat (first | apply Kd.N_alloc | apply Kd.N_drewN | apply Kd.N_drew)); exact HO_5.out)) k_ hn_)), Or.elim hk_ (fun hs_ => hs_.2.2) (fun hn_ => (Kd.freshB (g := gb101) (o := .cells #[.int .i64 a0_0, .string a0_1, .string a0_2, .slice (some ad105) l0_3.length c0_3] 24 (0, 0)) (by (with_reducible repeat (first | refine blk_drewN ?_ _ | refine blk_drew ?_ | refine blk_alloc ?_ _)); exact BK101.out) k_ hn_))⟩)) (below_size (by repeat (first | (with_reducible first | exact HB.out | apply below_alloc | apply pw_below_drewN | apply below_drew1 | refine below_set ?_ GE101.out) | exact HB.out)))); have n4_ := Aside0.mk (blk_below (g := gb101) (o := .cells #[.int .i64 a0_0, .string a0_1, .string a0_2, .slice (some ad105) l0_3.length c0_3] 24 (0, 0)) (by (with_reducible repeat (first | refine blk_drewN ?_ _ | refine blk_drew ?_ | refine blk_alloc ?_ _)); exact BK101.out) hb); have n5_ := Aside0.mk (Kd.C_below (by repeat (first | (with_reducible exact HR105_3.out) | (with_reducible refine Kd.C_alloc ?_ _) | (with_reducible refine Kd.C_drewN ?_ _) | (with_reducible refine Kd.C_drew ?_) | exact HR105_3.out)) hb); have n6_ := Aside0.mk (below_step (by repeat (first | (with_reducible first | exact HB.out | apply below_alloc | apply pw_below_drewN | apply below_drew1 | refine below_set ?_ GE101.out) | exact HB.out)) hb); clear HO_5; clear HO_102003; clear HL105_3; clear BK101; clear HR105_3; clear HB; have HO_5 := n0_; have HO_102003 := n1_; have HL105_3 := n2_; have HO108 := n3_; have BK101 := n4_; have HR105_3 := n5_; have HB := n6_; clear n0_ n1_ n2_ n3_ n4_ n5_ n6_; (try clear hb); (try clear hb2); (try clear hk); (try clear hi); (try clear ho0); obtain ⟨Ao16, co16, eo16⟩ := Kd.N_slice HO108.out; subst eo16) | ((with_reducible refine gate_builtin (b := .append) (xs := #[.tmp 22, .tmp 32]) rfl ?_); (try (refine gate_guard (by rfl) ?_; dsimp only)); at_builtin; refine Kd.N_append_rows k24 (w0 := w) w.heap.size rfl (.tmp 22) (.tmp 32) 22 24 (.agg #[(.int .i64 0), (.string ⟨#[]⟩), (.string ⟨#[]⟩), (.slice none 0 0)]) 64 rfl Tryd.underlying22 info24 rfl (by decide) (by omega) (.slice Ao13 x5_1.length co13) x5_1 t106 _ _ _ (fun k_ => (P0_3_ k_ ∨ w.heap.size ≤ k_) ∧ k_ ≠ gb101) (fun k_ => ((fun k_ => (P0_3_ k_ ∨ w.heap.size ≤ k_) ∧ k_ ≠ gb101)) k_ ∧ some k_ ≠ (.slice Ao13 x5_1.length co13 : Value).ownBlock) rfl rfl ?aO ?aR (fun _ hk => hk) ?aF ?aB ?aS ?aL ?_; (case aR => exact (by skip; exact Kd.N_F (Kd.N_mono (ok' := (fun k_ => ((fun k_ => (P0_3_ k_ ∨ w.heap.size ≤ k_) ∧ k_ ≠ gb101)) k_ ∧ some k_ ≠ (.slice Ao13 x5_1.length co13 : Value).ownBlock)) (HO108.out) (fun k_ hk => ⟨⟨hk.1, hk.2.2⟩, hk.2.1⟩)))); (case aB => exact (by repeat (first | (with_reducible first | exact HB.out | apply below_alloc | apply pw_below_drewN | apply below_drew1 | refine below_set ?_ GE101.out) | exact HB.out))); (case aF => exact (fun k_ hk => ⟨(.inr (Nat.le_trans (below_size (by repeat (first | (with_reducible first | exact HB.out | apply below_alloc | apply pw_below_drewN | apply below_drew1 | refine below_set ?_ GE101.out) | exact HB.out))) hk)), Kd.freshB (g := gb101) (o := .cells #[.int .i64 a0_0, .string a0_1, .string a0_2, .slice (some ad105) l0_3.length c0_3] 24 (0, 0)) (by (with_reducible repeat (first | refine blk_drewN ?_ _ | refine blk_drew ?_ | refine blk_alloc ?_ _)); exact BK101.out) k_ hk⟩)); (case aO => exact (by (with_reducible repeat (first | apply Kd.N_alloc | apply Kd.N_drewN | apply Kd.N_drew)); exact Kd.N_mono HO_5.out (fun _ hk => ⟨hk.1.1, hk.1.2⟩))); (case aS => exact (below_size (by repeat (first | (with_reducible first | exact HB.out | apply below_alloc | apply pw_below_drewN | apply below_drew1 | refine below_set ?_ GE101.out) | exact HB.out)))); (case aL => have := LMc11.out; omega); intro v110 w15 ho hb hg hat; rw [← Ny109.out] at ho; have n0_ := Aside0.mk (Kd.V_afterv (ok := (fun k_ => (P0_3_ k_ ∨ w.heap.size ≤ k_) ∧ some k_ ≠ (.slice Ao16 t106.length co16 : Value).ownBlock ∧ k_ ≠ gb101)) (by (with_reducible repeat (first | apply Kd.V_alloc | apply Kd.V_drewN | apply Kd.V_drew)); exact Kd.V_mono HO_102003.out (fun _ hk => ⟨⟨hk.1.1, ⟨hk.2, hk.1.2.2⟩⟩, hk.1.2.1⟩)) hg hat); have n1_ := Aside0.mk (blk_grown (g := gb101) (o := .cells #[.int .i64 a0_0, .string a0_1, .string a0_2, .slice (some ad105) l0_3.length c0_3] 24 (0, 0)) (by (with_reducible repeat (first | refine blk_drewN ?_ _ | refine blk_drew ?_ | refine blk_alloc ?_ _)); exact BK101.out) hg (Kd.N_away HO_5.out (fun _ hk => hk.1.2))); have n2_ := Aside0.mk (Kd.V_afterv (ok := (fun k_ => (P0_3_ k_ ∨ w.heap.size ≤ k_) ∧ some k_ ≠ (.slice Ao16 t106.length co16 : Value).ownBlock ∧ k_ ≠ gb101)) (by (with_reducible repeat (first | apply Kd.V_alloc | apply Kd.V_drewN | apply Kd.V_drew)); exact Kd.V_mono HL105_3.out (fun _ hk => ⟨⟨hk.1.1, ⟨hk.2, hk.1.2.2⟩⟩, hk.1.2.1⟩)) hg hat); have n3_ := Aside0.mk (Kd.N_afterv (ok := (fun k_ => (P0_3_ k_ ∨ w.heap.size ≤ k_) ∧ k_ ≠ gb101)) (by (with_reducible repeat (first | apply Kd.N_alloc | apply Kd.N_drewN | apply Kd.N_drew)); exact Kd.N_mono HO108.out (fun _ hk => ⟨⟨hk.1, hk.2.2⟩, hk.2.1⟩)) hg hat); have n4_ := Aside0.mk (hb); have n5_ := Aside0.mk (ho); clear HO_102003; clear BK101; clear HL105_3; clear HO108; clear HB; clear HO_5; have HO_102003 := n0_; have BK101 := n1_; have HL105_3 := n2_; have HO108 := n3_; have HB := n4_; have HO111 := n5_; clear n0_ n1_ n2_ n3_ n4_ n5_; clear ho hb hg hat))
       go_roundg k1
       case measure => have := HK1.out; omega
       case rel => exact ⟨(y109), (wrap64 (x6_1 + 1)), (by first | rfl | (simp; done) | (simp [*]; done)), H', ⟨by have := HK1.out; omega⟩, ⟨by (with_reducible repeat (first | apply Kd.N_alloc | apply Kd.N_drewN | apply Kd.N_drew)); exact HO111.out⟩, ⟨by (with_reducible repeat (first | apply Kd.V_alloc | apply Kd.V_drewN | apply Kd.V_drew)); exact Kd.V_mono HO_102003.out (fun _ hk => ⟨hk.1.1, ⟨hk.2, hk.1.2.2⟩⟩)⟩, ⟨by (with_reducible repeat (first | refine blk_drewN ?_ _ | refine blk_drew ?_ | refine blk_alloc ?_ _)); exact BK101.out⟩, ⟨by repeat (first | (with_reducible first | exact HB.out | apply below_alloc | apply pw_below_drewN | apply below_drew1 | refine below_set ?_ GE101.out) | exact HB.out)⟩⟩
      ·rw [if_neg c11] at H
       exact absurd H (by simp)
     ·rw [if_neg c9] at H
      exact absurd H (by simp)
    ·rw [if_neg c8] at H
     have c8b0 : decide ((x5_1.length : Int) < a1) = false := decide_eq_false c8
     clear c8
     obtain rfl := Option.some.inj H
     have hcz17_0 : wr.cell? ⟨gb101, 0, none⟩ = some (.int .i64 a0_0) := (blk_cell BK101.out 0).trans rfl
     have hcz17_1 : wr.cell? ⟨gb101, 1, none⟩ = some (.string a0_1) := (blk_cell BK101.out 1).trans rfl
     have hcz17_2 : wr.cell? ⟨gb101, 2, none⟩ = some (.string a0_2) := (blk_cell BK101.out 2).trans rfl
     have hcz17_3 : wr.cell? ⟨gb101, 3, none⟩ = some (.slice A0_3 l0_3.length c0_3) := (blk_cell BK101.out 3).trans rfl
     have hfz17_0 := blk_frozen BK101.out 0
     have hfz17_1 := blk_frozen BK101.out 1
     have hfz17_2 := blk_frozen BK101.out 2
     have hfz17_3 := blk_frozen BK101.out 3
     obtain ⟨Ao18, co18, eo18⟩ := Kd.N_slice HO_5.out
     subst eo18
     go_wp2
     go_ret
     exact ⟨_, by first | rfl | (simp [errW_none, errW_some] <;> rfl) | (simp [*, errW_none, errW_some] <;> rfl), by (with_reducible repeat (first | apply Kd.N_alloc | apply Kd.N_drewN | apply Kd.N_drew)); exact Kd.N_mono HO_5.out (fun _ hk => hk.1), by repeat (first | (with_reducible first | exact HB.out | apply below_alloc | apply pw_below_drewN | apply below_drew1 | refine below_set ?_ GE101.out) | exact HB.out)⟩
   ·rw [if_neg c7] at H
    have c7b0 : decide (x6_1 < (l0_3.length : Int)) = false := decide_eq_false c7
    clear c7
    obtain rfl := Option.some.inj H
    have hcz19_0 : wr.cell? ⟨gb101, 0, none⟩ = some (.int .i64 a0_0) := (blk_cell BK101.out 0).trans rfl
    have hcz19_1 : wr.cell? ⟨gb101, 1, none⟩ = some (.string a0_1) := (blk_cell BK101.out 1).trans rfl
    have hcz19_2 : wr.cell? ⟨gb101, 2, none⟩ = some (.string a0_2) := (blk_cell BK101.out 2).trans rfl
    have hcz19_3 : wr.cell? ⟨gb101, 3, none⟩ = some (.slice A0_3 l0_3.length c0_3) := (blk_cell BK101.out 3).trans rfl
    have hfz19_0 := blk_frozen BK101.out 0
    have hfz19_1 := blk_frozen BK101.out 1
    have hfz19_2 := blk_frozen BK101.out 2
    have hfz19_3 := blk_frozen BK101.out 3
    go_wp2
    go_ret
    exact ⟨_, by first | rfl | (simp [errW_none, errW_some] <;> rfl) | (simp [*, errW_none, errW_some] <;> rfl), by (with_reducible repeat (first | apply Kd.N_alloc | apply Kd.N_drewN | apply Kd.N_drew)); exact Kd.N_mono HO_5.out (fun _ hk => hk.1), by repeat (first | (with_reducible first | exact HB.out | apply below_alloc | apply pw_below_drewN | apply below_drew1 | refine below_set ?_ GE101.out) | exact HB.out)⟩

/-! ### scarflaw05_Few: function 19 -/
def scarflaw05_Few.l0 : Nat → List (S24) → Int → Int → Option (Bool)
 | 0, _, _, _ => none
 | k + 1, x3, x4, x5 => if x5 < (x3.length : Int) then (if 0 ≤ x5 then (if (wrap64 ((wrap64 (x4 + (mn (((rd_T24 x3 x5).f1).size : Int) 100000))) + (mn (((rd_T24 x3 x5).f2).size : Int) 100000))) > 50000 then (some false) else (scarflaw05_Few.l0 k x3 (wrap64 ((wrap64 (x4 + (mn (((rd_T24 x3 x5).f1).size : Int) 100000))) + (mn (((rd_T24 x3 x5).f2).size : Int) 100000))) (wrap64 (x5 + 1)))) else (none)) else (some (decide ((x3.length : Int) ≤ 2000)))
def scarflaw05_Few.f (k : Nat) (a0_0 : Int) (a0_1 : ByteArray) (a0_2 : ByteArray) (l0_3 : List (S24)) : Option (Bool) := (scarfref05_Nodes.f k a0_0 a0_1 a0_2 l0_3 2001).bind fun t113 => (scarflaw05_Few.l0 k t113 0 0)
theorem scarflaw05_Few.mono_l : ∀ k, (∀ y0 y1 y2, LeO (scarflaw05_Few.l0 k y0 y1 y2) (scarflaw05_Few.l0 (k + 1) y0 y1 y2))
 | 0 => fun _ _ _ r h => by simp [scarflaw05_Few.l0] at h
 | k + 1 => by
  have ih0 := scarflaw05_Few.mono_l k
  ·intro y0 y1 y2
   unfold scarflaw05_Few.l0
   repeat' first
   | (with_reducible exact ih0 _ _ _)
   | (with_reducible exact scarfref05_Nodes.mono _ _ _ _ _ _)
   | (with_reducible exact LeO.refl _)
   | (with_reducible exact LeO.none _)
   | (with_reducible refine LeO.ite ?_ ?_)
   | (with_reducible refine LeO.bind ?_ (fun _ => ?_))
   | exact ih0 _ _ _
   | exact scarfref05_Nodes.mono _ _ _ _ _ _
   | exact LeO.none _
   | refine LeO.ite ?_ ?_
   | refine LeO.bind ?_ (fun _ => ?_)
theorem scarflaw05_Few.mono : ∀ a0 a1 a2 a3 k, LeO (scarflaw05_Few.f k a0 a1 a2 a3) (scarflaw05_Few.f (k + 1) a0 a1 a2 a3) := by
 intro a0 a1 a2 a3 k
 have ih0 := scarflaw05_Few.mono_l k
 unfold scarflaw05_Few.f
 repeat' first
   | (with_reducible exact ih0 _ _ _)
   | (with_reducible exact scarfref05_Nodes.mono _ _ _ _ _ _)
   | (with_reducible exact LeO.refl _)
   | (with_reducible exact LeO.none _)
   | (with_reducible refine LeO.ite ?_ ?_)
   | (with_reducible refine LeO.bind ?_ (fun _ => ?_))
   | exact ih0 _ _ _
   | exact scarfref05_Nodes.mono _ _ _ _ _ _
   | exact LeO.none _
   | refine LeO.ite ?_ ?_
   | refine LeO.bind ?_ (fun _ => ?_)
set_option maxHeartbeats 8000000 in
set_option maxRecDepth 100000 in
theorem scarflaw05_Few.calls (k : Nat) (a0_0 : Int) (a0_1 : ByteArray) (a0_2 : ByteArray) (A0_3 : Option Addr) (c0_3 : Nat) (l0_3 : List (S24)) (r : Bool) (w : World) (hr0_3 : Kd.C k24 w A0_3 l0_3.length l0_3) (hc0_3 : l0_3.length ≤ c0_3) (h : scarflaw05_Few.f k a0_0 a0_1 a0_2 l0_3 = some r) :
  Calls Tryd.prog 19 #[.agg #[.int .i64 a0_0, .string a0_1, .string a0_2, .slice A0_3 l0_3.length c0_3]] w fun e w' => e = .returned (.bool r) ∧ Below w.heap.size w w' := by
 have hu24 := Tryd.underlying24
 have HR0_3 := Aside0.mk hr0_3
 have HC0_3 := Aside0.mk hc0_3
 clear hr0_3 hc0_3
 have HB := Aside0.mk (Below.refl w.heap.size w)
 have H : ((scarfref05_Nodes.f k a0_0 a0_1 a0_2 l0_3 2001).bind fun t113 => (scarflaw05_Few.l0 k t113 0 0)) = some r := h
 clear h
 replace H := Option.bind_eq_some_iff.mp H
 obtain ⟨t113, A20, H⟩ := H
 replace H : (scarflaw05_Few.l0 k t113 0 0) = some r := H
 have A2 := Aside0.mk A20
 clear A20
 have H' := Aside0.mk H
 clear H
 go_enter Tryd.func19, Tryd.ntmps19
 go_wp2_with (first | ((with_reducible refine gate_dst (N := 1) rfl ?_); refine box_event ?hg (N := 1) ?hd (cs := #[.int .i64 a0_0, .string a0_1, .string a0_2, .slice A0_3 l0_3.length c0_3]) (t := 24) ?hr ?_; (case hd => rfl); (case hg => rfl); (case hr => first | (go_simp; done) | (go_simp; rfl)); intro gb112 hg w3 hbox hb; have n0_ := Aside0.mk (below_step (by repeat (first | (with_reducible first | exact HB.out | apply below_alloc | apply pw_below_drewN | apply below_drew1) | exact HB.out)) hb); have n1_ := Aside0.mk (hbox); have n2_ := Aside0.mk ((by rw [hg]; exact (below_size (by repeat (first | (with_reducible first | exact HB.out | apply below_alloc | apply pw_below_drewN | apply below_drew1) | exact HB.out))) : w.heap.size ≤ gb112)); have n3_ := Aside0.mk ((by rw [hg]; exact (below_size (by repeat (first | (with_reducible first | exact HB.out | apply below_alloc | apply pw_below_drewN | apply below_drew1) | exact HB.out))) : w.heap.size ≤ gb112)); clear HB; have HB := n0_; have BK112 := n1_; have GW112 := n2_; have GE112 := n3_; clear n0_ n1_ n2_ n3_; clear hb hbox hg; have hcz4_0 : w3.cell? ⟨gb112, 0, none⟩ = some (.int .i64 a0_0) := (blk_cell BK112.out 0).trans rfl; have hcz4_1 : w3.cell? ⟨gb112, 1, none⟩ = some (.string a0_1) := (blk_cell BK112.out 1).trans rfl; have hcz4_2 : w3.cell? ⟨gb112, 2, none⟩ = some (.string a0_2) := (blk_cell BK112.out 2).trans rfl; have hcz4_3 : w3.cell? ⟨gb112, 3, none⟩ = some (.slice A0_3 l0_3.length c0_3) := (blk_cell BK112.out 3).trans rfl; have hfz4_0 := blk_frozen BK112.out 0; have hfz4_1 := blk_frozen BK112.out 1; have hfz4_2 := blk_frozen BK112.out 2; have hfz4_3 := blk_frozen BK112.out 3) | (go_at_call 17; (with_reducible refine (scarfref05_Nodes.calls k a0_0 a0_1 a0_2 (fun k_ => k_ < w.heap.size) _ _ l0_3 2001 t113 _ ?side1 A2.out).mono ?_); (case side1 => exact Kd.V_mk HC0_3.out (Kd.F_below (Kd.C_F k24_heap HR0_3.out) (by repeat (first | (with_reducible first | exact HB.out | apply below_alloc | apply pw_below_drewN | apply below_drew1 | refine below_set ?_ GE112.out) | exact HB.out)))); rintro e w5 ⟨v114, rfl, ho0, hb⟩; have n0_ := Aside0.mk (Kd.N_lower (Kd.N_mono (ok' := fun k_ => k_ ≠ gb112) ho0 (fun k_ hk_ => Or.elim hk_ (fun hs_ => fun e_ => Nat.not_le.2 hs_ (by rw [e_]; exact GW112.out)) (fun hn_ => (Kd.freshB (g := gb112) (o := .cells #[.int .i64 a0_0, .string a0_1, .string a0_2, .slice A0_3 l0_3.length c0_3] 24 (0, 0)) (by (with_reducible repeat (first | refine blk_drewN ?_ _ | refine blk_drew ?_ | refine blk_alloc ?_ _)); exact BK112.out) k_ hn_)))) (below_size (by repeat (first | (with_reducible first | exact HB.out | apply below_alloc | apply pw_below_drewN | apply below_drew1 | refine below_set ?_ GE112.out) | exact HB.out)))); have n1_ := Aside0.mk (blk_below (g := gb112) (o := .cells #[.int .i64 a0_0, .string a0_1, .string a0_2, .slice A0_3 l0_3.length c0_3] 24 (0, 0)) (by (with_reducible repeat (first | refine blk_drewN ?_ _ | refine blk_drew ?_ | refine blk_alloc ?_ _)); exact BK112.out) hb); have n2_ := Aside0.mk (below_step (by repeat (first | (with_reducible first | exact HB.out | apply below_alloc | apply pw_below_drewN | apply below_drew1 | refine below_set ?_ GE112.out) | exact HB.out)) hb); clear BK112; clear HB; have HO115 := n0_; have BK112 := n1_; have HB := n2_; clear n0_ n1_ n2_; (try clear hb); (try clear hb2); (try clear hk); (try clear hi); (try clear ho0)))
 repeat (go_quiet (first | ((with_reducible refine gate_dst (N := 1) rfl ?_); refine box_event ?hg (N := 1) ?hd (cs := #[.int .i64 a0_0, .string a0_1, .string a0_2, .slice A0_3 l0_3.length c0_3]) (t := 24) ?hr ?_; (case hd => rfl); (case hg => rfl); (case hr => first | (go_simp; done) | (go_simp; rfl)); intro gb112 hg w3 hbox hb; have n0_ := Aside0.mk (below_step (by repeat (first | (with_reducible first | exact HB.out | apply below_alloc | apply pw_below_drewN | apply below_drew1) | exact HB.out)) hb); have n1_ := Aside0.mk (hbox); have n2_ := Aside0.mk ((by rw [hg]; exact (below_size (by repeat (first | (with_reducible first | exact HB.out | apply below_alloc | apply pw_below_drewN | apply below_drew1) | exact HB.out))) : w.heap.size ≤ gb112)); have n3_ := Aside0.mk ((by rw [hg]; exact (below_size (by repeat (first | (with_reducible first | exact HB.out | apply below_alloc | apply pw_below_drewN | apply below_drew1) | exact HB.out))) : w.heap.size ≤ gb112)); clear HB; have HB := n0_; have BK112 := n1_; have GW112 := n2_; have GE112 := n3_; clear n0_ n1_ n2_ n3_; clear hb hbox hg; have hcz4_0 : w3.cell? ⟨gb112, 0, none⟩ = some (.int .i64 a0_0) := (blk_cell BK112.out 0).trans rfl; have hcz4_1 : w3.cell? ⟨gb112, 1, none⟩ = some (.string a0_1) := (blk_cell BK112.out 1).trans rfl; have hcz4_2 : w3.cell? ⟨gb112, 2, none⟩ = some (.string a0_2) := (blk_cell BK112.out 2).trans rfl; have hcz4_3 : w3.cell? ⟨gb112, 3, none⟩ = some (.slice A0_3 l0_3.length c0_3) := (blk_cell BK112.out 3).trans rfl; have hfz4_0 := blk_frozen BK112.out 0; have hfz4_1 := blk_frozen BK112.out 1; have hfz4_2 := blk_frozen BK112.out 2; have hfz4_3 := blk_frozen BK112.out 3) | (go_at_call 17; (with_reducible refine (scarfref05_Nodes.calls k a0_0 a0_1 a0_2 (fun k_ => k_ < w.heap.size) _ _ l0_3 2001 t113 _ ?side1 A2.out).mono ?_); (case side1 => exact Kd.V_mk HC0_3.out (Kd.F_below (Kd.C_F k24_heap HR0_3.out) (by repeat (first | (with_reducible first | exact HB.out | apply below_alloc | apply pw_below_drewN | apply below_drew1 | refine below_set ?_ GE112.out) | exact HB.out)))); rintro e w5 ⟨v114, rfl, ho0, hb⟩; have n0_ := Aside0.mk (Kd.N_lower (Kd.N_mono (ok' := fun k_ => k_ ≠ gb112) ho0 (fun k_ hk_ => Or.elim hk_ (fun hs_ => fun e_ => Nat.not_le.2 hs_ (by rw [e_]; exact GW112.out)) (fun hn_ => (Kd.freshB (g := gb112) (o := .cells #[.int .i64 a0_0, .string a0_1, .string a0_2, .slice A0_3 l0_3.length c0_3] 24 (0, 0)) (by (with_reducible repeat (first | refine blk_drewN ?_ _ | refine blk_drew ?_ | refine blk_alloc ?_ _)); exact BK112.out) k_ hn_)))) (below_size (by repeat (first | (with_reducible first | exact HB.out | apply below_alloc | apply pw_below_drewN | apply below_drew1 | refine below_set ?_ GE112.out) | exact HB.out)))); have n1_ := Aside0.mk (blk_below (g := gb112) (o := .cells #[.int .i64 a0_0, .string a0_1, .string a0_2, .slice A0_3 l0_3.length c0_3] 24 (0, 0)) (by (with_reducible repeat (first | refine blk_drewN ?_ _ | refine blk_drew ?_ | refine blk_alloc ?_ _)); exact BK112.out) hb); have n2_ := Aside0.mk (below_step (by repeat (first | (with_reducible first | exact HB.out | apply below_alloc | apply pw_below_drewN | apply below_drew1 | refine below_set ?_ GE112.out) | exact HB.out)) hb); clear BK112; clear HB; have HO115 := n0_; have BK112 := n1_; have HB := n2_; clear n0_ n1_ n2_; (try clear hb); (try clear hb2); (try clear hk); (try clear hi); (try clear ho0))); try go_wp2_with (first | ((with_reducible refine gate_dst (N := 1) rfl ?_); refine box_event ?hg (N := 1) ?hd (cs := #[.int .i64 a0_0, .string a0_1, .string a0_2, .slice A0_3 l0_3.length c0_3]) (t := 24) ?hr ?_; (case hd => rfl); (case hg => rfl); (case hr => first | (go_simp; done) | (go_simp; rfl)); intro gb112 hg w3 hbox hb; have n0_ := Aside0.mk (below_step (by repeat (first | (with_reducible first | exact HB.out | apply below_alloc | apply pw_below_drewN | apply below_drew1) | exact HB.out)) hb); have n1_ := Aside0.mk (hbox); have n2_ := Aside0.mk ((by rw [hg]; exact (below_size (by repeat (first | (with_reducible first | exact HB.out | apply below_alloc | apply pw_below_drewN | apply below_drew1) | exact HB.out))) : w.heap.size ≤ gb112)); have n3_ := Aside0.mk ((by rw [hg]; exact (below_size (by repeat (first | (with_reducible first | exact HB.out | apply below_alloc | apply pw_below_drewN | apply below_drew1) | exact HB.out))) : w.heap.size ≤ gb112)); clear HB; have HB := n0_; have BK112 := n1_; have GW112 := n2_; have GE112 := n3_; clear n0_ n1_ n2_ n3_; clear hb hbox hg; have hcz4_0 : w3.cell? ⟨gb112, 0, none⟩ = some (.int .i64 a0_0) := (blk_cell BK112.out 0).trans rfl; have hcz4_1 : w3.cell? ⟨gb112, 1, none⟩ = some (.string a0_1) := (blk_cell BK112.out 1).trans rfl; have hcz4_2 : w3.cell? ⟨gb112, 2, none⟩ = some (.string a0_2) := (blk_cell BK112.out 2).trans rfl; have hcz4_3 : w3.cell? ⟨gb112, 3, none⟩ = some (.slice A0_3 l0_3.length c0_3) := (blk_cell BK112.out 3).trans rfl; have hfz4_0 := blk_frozen BK112.out 0; have hfz4_1 := blk_frozen BK112.out 1; have hfz4_2 := blk_frozen BK112.out 2; have hfz4_3 := blk_frozen BK112.out 3) | (go_at_call 17; (with_reducible refine (scarfref05_Nodes.calls k a0_0 a0_1 a0_2 (fun k_ => k_ < w.heap.size) _ _ l0_3 2001 t113 _ ?side1 A2.out).mono ?_); (case side1 => exact Kd.V_mk HC0_3.out (Kd.F_below (Kd.C_F k24_heap HR0_3.out) (by repeat (first | (with_reducible first | exact HB.out | apply below_alloc | apply pw_below_drewN | apply below_drew1 | refine below_set ?_ GE112.out) | exact HB.out)))); rintro e w5 ⟨v114, rfl, ho0, hb⟩; have n0_ := Aside0.mk (Kd.N_lower (Kd.N_mono (ok' := fun k_ => k_ ≠ gb112) ho0 (fun k_ hk_ => Or.elim hk_ (fun hs_ => fun e_ => Nat.not_le.2 hs_ (by rw [e_]; exact GW112.out)) (fun hn_ => (Kd.freshB (g := gb112) (o := .cells #[.int .i64 a0_0, .string a0_1, .string a0_2, .slice A0_3 l0_3.length c0_3] 24 (0, 0)) (by (with_reducible repeat (first | refine blk_drewN ?_ _ | refine blk_drew ?_ | refine blk_alloc ?_ _)); exact BK112.out) k_ hn_)))) (below_size (by repeat (first | (with_reducible first | exact HB.out | apply below_alloc | apply pw_below_drewN | apply below_drew1 | refine below_set ?_ GE112.out) | exact HB.out)))); have n1_ := Aside0.mk (blk_below (g := gb112) (o := .cells #[.int .i64 a0_0, .string a0_1, .string a0_2, .slice A0_3 l0_3.length c0_3] 24 (0, 0)) (by (with_reducible repeat (first | refine blk_drewN ?_ _ | refine blk_drew ?_ | refine blk_alloc ?_ _)); exact BK112.out) hb); have n2_ := Aside0.mk (below_step (by repeat (first | (with_reducible first | exact HB.out | apply below_alloc | apply pw_below_drewN | apply below_drew1 | refine below_set ?_ GE112.out) | exact HB.out)) hb); clear BK112; clear HB; have HO115 := n0_; have BK112 := n1_; have HB := n2_; clear n0_ n1_ n2_; (try clear hb); (try clear hb2); (try clear hk); (try clear hi); (try clear ho0))))
 go_loopg [4, 5] k (fun kq v4 v5 w' => ∃ (x4_1 : Int) (x5_1 : Int), v4 = .int .i64 x4_1 ∧ v5 = .int .i64 x5_1 ∧ Aside0 (scarflaw05_Few.l0 kq t113 x4_1 x5_1 = some r) ∧ Aside0 (kq ≤ k) ∧ Aside0 (Kd.N k24 24 w' w.heap.size (fun k_ => k_ ≠ gb112) v114 t113) ∧ Aside0 (w'.heap[gb112]? = some (.cells #[.int .i64 a0_0, .string a0_1, .string a0_2, (.slice A0_3 l0_3.length c0_3)] 24 (0, 0))) ∧ Aside0 (Below w.heap.size w w'))
 case atStart => exact ⟨(0), (0), (by first | rfl | (simp; done) | (simp [*]; done)), (by first | rfl | (simp; done) | (simp [*]; done)), H', ⟨Nat.le_refl _⟩, ⟨by (with_reducible repeat (first | apply Kd.N_alloc | apply Kd.N_drewN | apply Kd.N_drew)); exact HO115.out⟩, ⟨by (with_reducible repeat (first | refine blk_drewN ?_ _ | refine blk_drew ?_ | refine blk_alloc ?_ _)); exact BK112.out⟩, ⟨by repeat (first | (with_reducible first | exact HB.out | apply below_alloc | apply pw_below_drewN | apply below_drew1 | refine below_set ?_ GE112.out) | exact HB.out)⟩⟩
 case round =>
  clear H'
  try clear c1
  try clear p2
  try clear hcz4_0
  try clear hcz4_1
  try clear hcz4_2
  try clear hcz4_3
  try clear hfz4_0
  try clear hfz4_1
  try clear hfz4_2
  try clear hfz4_3
  obtain ⟨x4_1, x5_1, rfl, rfl, HA, HK1, HO_3, BK112, HB⟩ := hrel
  cases gk with
  | zero => exact absurd HA.out (by simp [scarflaw05_Few.l0])
  | succ k1 =>
   have H := HA.out
   clear HA
   simp only [scarflaw05_Few.l0] at H
   by_cases c6 : x5_1 < (t113.length : Int)
   ·rw [if_pos c6] at H
    have c6b0 : decide (x5_1 < (t113.length : Int)) = true := decide_eq_true c6
    clear c6
    by_cases c7 : 0 ≤ x5_1
    ·rw [if_pos c7] at H
     have c7b0 : decide (0 ≤ x5_1) = true := decide_eq_true c7
     clear c7
     obtain ⟨ji8, hji8⟩ : ∃ j_ : Int, (mn (((rd_T24 t113 x5_1).f1).size : Int) 100000) = j_ := ⟨_, rfl⟩
     replace H : (if (wrap64 ((wrap64 (x4_1 + (ji8))) + (mn (((rd_T24 t113 x5_1).f2).size : Int) 100000))) > 50000 then (some false) else (scarflaw05_Few.l0 k1 t113 (wrap64 ((wrap64 (x4_1 + (ji8))) + (mn (((rd_T24 t113 x5_1).f2).size : Int) 100000))) (wrap64 (x5_1 + 1)))) = some r := by first | (rw [hji8] at H; exact H) | (simp only [hji8] at H ⊢; exact H)
     have hji8_ : (if 100000 < (((rd_T24 t113 x5_1).f1).size : Int) then 100000 else (((rd_T24 t113 x5_1).f1).size : Int)) = ji8 := hji8
     obtain ⟨ji9, hji9⟩ : ∃ j_ : Int, (mn (((rd_T24 t113 x5_1).f2).size : Int) 100000) = j_ := ⟨_, rfl⟩
     replace H : (if (wrap64 ((wrap64 (x4_1 + (ji8))) + (ji9))) > 50000 then (some false) else (scarflaw05_Few.l0 k1 t113 (wrap64 ((wrap64 (x4_1 + (ji8))) + (ji9))) (wrap64 (x5_1 + 1)))) = some r := by first | (rw [hji9] at H; exact H) | (simp only [hji9] at H ⊢; exact H)
     have hji9_ : (if 100000 < (((rd_T24 t113 x5_1).f2).size : Int) then 100000 else (((rd_T24 t113 x5_1).f2).size : Int)) = ji9 := hji9
     by_cases c10 : (wrap64 ((wrap64 (x4_1 + (ji8))) + (ji9))) > 50000
     ·rw [if_pos c10] at H
      have c10b0 : decide (50000 < (wrap64 ((wrap64 (x4_1 + (ji8))) + (ji9)))) = true := decide_eq_true c10
      clear c10
      obtain rfl := Option.some.inj H
      obtain ⟨Ao11, co11, eo11⟩ := Kd.N_slice HO_3.out
      subst eo11
      have p116 : 0 ≤ (x5_1 : Int) := of_decide_eq_true (by first | (with_reducible assumption) | assumption)
      have q116 : x5_1 < (t113.length : Int) := of_decide_eq_true (by first | (with_reducible assumption) | assumption)
      obtain ⟨ad116, A116_3, c116_3, e116, hx116_0, hx116_1, hx116_2, hx116_3, hl116_3, hi116_3⟩ := at_T24 (Kd.N_reads' HO_3.out).2.2 x5_1 p116 q116
      cases e116
      obtain ⟨ce116, hce116, hMe116, hcc116⟩ := Kd.N_get HO_3.out z24 x5_1 p116 (by first | exact q116 | exact of_decide_eq_true (by first | (with_reducible assumption) | assumption) | (have e_ := (Kd.N_reads' HO_3.out).1; omega))
      obtain ⟨ua116_3, uc116_3, rfl, ul116_3, ge116_3⟩ := k24_openF hMe116
      have hv116_3 := hcc116 3 _ rfl
      rw [add_field _ _ 3 (by omega)] at hv116_3
      replace hv116_3 := Option.some.inj (hv116_3.symm.trans hx116_3)
      injection hv116_3 with hva_ hvn_ hvc_
      rw [hva_] at ge116_3
      rw [hvc_] at ul116_3
      have HL116_3 := Aside0.mk (show Kd.V k24 24 _ w.heap.size _ _ ((rd_T24 t113 x5_1).f3) from Kd.V_mk ul116_3 ge116_3)
      clear hva_ hvn_ hvc_ ge116_3 ul116_3
      clear hcc116 hce116
      have HR116_3 := Aside0.mk hi116_3
      have HC116_3 := Aside0.mk hl116_3
      clear hi116_3 hl116_3
      replace p116 := eq_true p116
      replace q116 := eq_true q116
      have p117 : 0 ≤ (x5_1 : Int) := of_decide_eq_true (by first | (with_reducible assumption) | assumption)
      have q117 : x5_1 < (t113.length : Int) := of_decide_eq_true (by first | (with_reducible assumption) | assumption)
      obtain ⟨ad117, A117_3, c117_3, e117, hx117_0, hx117_1, hx117_2, hx117_3, hl117_3, hi117_3⟩ := at_T24 (Kd.N_reads' HO_3.out).2.2 x5_1 p117 q117
      obtain rfl : ad116 = ad117 := (by injection e117)
      obtain ⟨ce117, hce117, hMe117, hcc117⟩ := Kd.N_get HO_3.out z24 x5_1 p117 (by first | exact q117 | exact of_decide_eq_true (by first | (with_reducible assumption) | assumption) | (have e_ := (Kd.N_reads' HO_3.out).1; omega))
      obtain ⟨ua117_3, uc117_3, rfl, ul117_3, ge117_3⟩ := k24_openF hMe117
      have hv117_3 := hcc117 3 _ rfl
      rw [add_field _ _ 3 (by omega)] at hv117_3
      replace hv117_3 := Option.some.inj (hv117_3.symm.trans hx117_3)
      injection hv117_3 with hva_ hvn_ hvc_
      rw [hva_] at ge117_3
      rw [hvc_] at ul117_3
      have HL117_3 := Aside0.mk (show Kd.V k24 24 _ w.heap.size _ _ ((rd_T24 t113 x5_1).f3) from Kd.V_mk ul117_3 ge117_3)
      clear hva_ hvn_ hvc_ ge117_3 ul117_3
      clear hcc117 hce117
      have HR117_3 := Aside0.mk hi117_3
      have HC117_3 := Aside0.mk hl117_3
      clear hi117_3 hl117_3
      replace p117 := eq_true p117
      replace q117 := eq_true q117
      have ea_ := Option.some.inj (hx116_3.symm.trans hx117_3)
      injection ea_ with ea_ en_ ec_
      subst ea_
      subst ec_
      clear en_
      go_wp2
      repeat (go_quiet (fail); try go_wp2)
      go_ret
      exact ⟨by first | rfl | (simp [errW_none, errW_some] <;> rfl) | (simp only [← hji8, ← hji9]; first | rfl | (simp [errW_none, errW_some] <;> rfl)) | (simp [*, errW_none, errW_some] <;> rfl), by repeat (first | (with_reducible first | exact HB.out | apply below_alloc | apply pw_below_drewN | apply below_drew1 | refine below_set ?_ GE112.out) | exact HB.out)⟩
     ·rw [if_neg c10] at H
      have c10b0 : decide (50000 < (wrap64 ((wrap64 (x4_1 + (ji8))) + (ji9)))) = false := decide_eq_false c10
      clear c10
      have H' := Aside0.mk H
      clear H
      obtain ⟨Ao12, co12, eo12⟩ := Kd.N_slice HO_3.out
      subst eo12
      (try clear hx116_0)
      (try clear hx116_1)
      (try clear hx116_2)
      (try clear hx116_3)
      (repeat (first | clear HS0_ | clear HS1_ | clear HS2_ | clear HS3_ | clear HS4_ | clear HS5_ | clear HS6_ | clear HS7_ | clear HS8_ | clear HS9_ | clear HS10_ | clear HS11_ | clear HS12_ | clear HS13_ | clear HS14_ | clear HS15_ | clear HS16_ | clear HS17_ | clear HS18_ | clear HS19_ | clear HS20_ | clear HS21_ | clear HS22_ | clear HS23_))
      (try clear hHeld)
      have p116 : 0 ≤ (x5_1 : Int) := of_decide_eq_true (by first | (with_reducible assumption) | assumption)
      have q116 : x5_1 < (t113.length : Int) := of_decide_eq_true (by first | (with_reducible assumption) | assumption)
      obtain ⟨ad116, A116_3, c116_3, e116, hx116_0, hx116_1, hx116_2, hx116_3, hl116_3, hi116_3⟩ := at_T24 (Kd.N_reads' HO_3.out).2.2 x5_1 p116 q116
      cases e116
      obtain ⟨ce116, hce116, hMe116, hcc116⟩ := Kd.N_get HO_3.out z24 x5_1 p116 (by first | exact q116 | exact of_decide_eq_true (by first | (with_reducible assumption) | assumption) | (have e_ := (Kd.N_reads' HO_3.out).1; omega))
      obtain ⟨ua116_3, uc116_3, rfl, ul116_3, ge116_3⟩ := k24_openF hMe116
      have hv116_3 := hcc116 3 _ rfl
      rw [add_field _ _ 3 (by omega)] at hv116_3
      replace hv116_3 := Option.some.inj (hv116_3.symm.trans hx116_3)
      injection hv116_3 with hva_ hvn_ hvc_
      rw [hva_] at ge116_3
      rw [hvc_] at ul116_3
      have HL116_3 := Aside0.mk (show Kd.V k24 24 _ w.heap.size _ _ ((rd_T24 t113 x5_1).f3) from Kd.V_mk ul116_3 ge116_3)
      clear hva_ hvn_ hvc_ ge116_3 ul116_3
      clear hcc116 hce116
      have HR116_3 := Aside0.mk hi116_3
      have HC116_3 := Aside0.mk hl116_3
      clear hi116_3 hl116_3
      replace p116 := eq_true p116
      replace q116 := eq_true q116
      have p117 : 0 ≤ (x5_1 : Int) := of_decide_eq_true (by first | (with_reducible assumption) | assumption)
      have q117 : x5_1 < (t113.length : Int) := of_decide_eq_true (by first | (with_reducible assumption) | assumption)
      obtain ⟨ad117, A117_3, c117_3, e117, hx117_0, hx117_1, hx117_2, hx117_3, hl117_3, hi117_3⟩ := at_T24 (Kd.N_reads' HO_3.out).2.2 x5_1 p117 q117
      obtain rfl : ad116 = ad117 := (by injection e117)
      obtain ⟨ce117, hce117, hMe117, hcc117⟩ := Kd.N_get HO_3.out z24 x5_1 p117 (by first | exact q117 | exact of_decide_eq_true (by first | (with_reducible assumption) | assumption) | (have e_ := (Kd.N_reads' HO_3.out).1; omega))
      obtain ⟨ua117_3, uc117_3, rfl, ul117_3, ge117_3⟩ := k24_openF hMe117
      have hv117_3 := hcc117 3 _ rfl
      rw [add_field _ _ 3 (by omega)] at hv117_3
      replace hv117_3 := Option.some.inj (hv117_3.symm.trans hx117_3)
      injection hv117_3 with hva_ hvn_ hvc_
      rw [hva_] at ge117_3
      rw [hvc_] at ul117_3
      have HL117_3 := Aside0.mk (show Kd.V k24 24 _ w.heap.size _ _ ((rd_T24 t113 x5_1).f3) from Kd.V_mk ul117_3 ge117_3)
      clear hva_ hvn_ hvc_ ge117_3 ul117_3
      clear hcc117 hce117
      have HR117_3 := Aside0.mk hi117_3
      have HC117_3 := Aside0.mk hl117_3
      clear hi117_3 hl117_3
      replace p117 := eq_true p117
      replace q117 := eq_true q117
      have ea_ := Option.some.inj (hx116_3.symm.trans hx117_3)
      injection ea_ with ea_ en_ ec_
      subst ea_
      subst ec_
      clear en_
      go_wp2
      repeat (go_quiet (fail); try go_wp2)
      go_roundg k1
      case measure => have := HK1.out; omega
      case rel => exact ⟨(wrap64 ((wrap64 (x4_1 + (ji8))) + (ji9))), (wrap64 (x5_1 + 1)), (by first | rfl | (simp; done) | (simp only [← hji8, ← hji9] <;> (first | rfl | simp)) | (simp [*]; done)), (by first | rfl | (simp; done) | (simp [*]; done)), H', ⟨by have := HK1.out; omega⟩, ⟨by (with_reducible repeat (first | apply Kd.N_alloc | apply Kd.N_drewN | apply Kd.N_drew)); exact HO_3.out⟩, ⟨by (with_reducible repeat (first | refine blk_drewN ?_ _ | refine blk_drew ?_ | refine blk_alloc ?_ _)); exact BK112.out⟩, ⟨by repeat (first | (with_reducible first | exact HB.out | apply below_alloc | apply pw_below_drewN | apply below_drew1 | refine below_set ?_ GE112.out) | exact HB.out)⟩⟩
    ·rw [if_neg c7] at H
     exact absurd H (by simp)
   ·rw [if_neg c6] at H
    have c6b0 : decide (x5_1 < (t113.length : Int)) = false := decide_eq_false c6
    clear c6
    obtain rfl := Option.some.inj H
    obtain ⟨Ao13, co13, eo13⟩ := Kd.N_slice HO_3.out
    subst eo13
    go_wp2
    repeat (go_quiet (fail); try go_wp2)
    go_ret
    exact ⟨by first | rfl | (simp [errW_none, errW_some] <;> rfl) | (simp [*, errW_none, errW_some] <;> rfl), by repeat (first | (with_reducible first | exact HB.out | apply below_alloc | apply pw_below_drewN | apply below_drew1 | refine below_set ?_ GE112.out) | exact HB.out)⟩

/-! ### scarfref05_Size: function 20 -/
def scarfref05_Size.f (k : Nat) (a0_0 : Int) (a0_1 : ByteArray) (a0_2 : ByteArray) (l0_3 : List (S24)) (a1 : Int) : Option (Int) := (scarfref05_Nodes.f k a0_0 a0_1 a0_2 l0_3 a1).bind fun t119 => (some (t119.length : Int))
theorem scarfref05_Size.mono : ∀ a0 a1 a2 a3 a4 k, LeO (scarfref05_Size.f k a0 a1 a2 a3 a4) (scarfref05_Size.f (k + 1) a0 a1 a2 a3 a4) := by
 intro a0 a1 a2 a3 a4 k
 unfold scarfref05_Size.f
 repeat' first
   | (with_reducible exact scarfref05_Nodes.mono _ _ _ _ _ _)
   | (with_reducible exact LeO.refl _)
   | (with_reducible exact LeO.none _)
   | (with_reducible refine LeO.ite ?_ ?_)
   | (with_reducible refine LeO.bind ?_ (fun _ => ?_))
   | exact scarfref05_Nodes.mono _ _ _ _ _ _
   | exact LeO.none _
   | refine LeO.ite ?_ ?_
   | refine LeO.bind ?_ (fun _ => ?_)
set_option maxHeartbeats 8000000 in
set_option maxRecDepth 100000 in
theorem scarfref05_Size.calls (k : Nat) (a0_0 : Int) (a0_1 : ByteArray) (a0_2 : ByteArray) (A0_3 : Option Addr) (c0_3 : Nat) (l0_3 : List (S24)) (a1 : Int) (r : Int) (w : World) (hr0_3 : Kd.C k24 w A0_3 l0_3.length l0_3) (hc0_3 : l0_3.length ≤ c0_3) (h : scarfref05_Size.f k a0_0 a0_1 a0_2 l0_3 a1 = some r) :
  Calls Tryd.prog 20 #[.agg #[.int .i64 a0_0, .string a0_1, .string a0_2, .slice A0_3 l0_3.length c0_3], .int .i64 a1] w fun e w' => e = .returned (.int .i64 r) ∧ Below w.heap.size w w' := by
 have hu24 := Tryd.underlying24
 have HR0_3 := Aside0.mk hr0_3
 have HC0_3 := Aside0.mk hc0_3
 clear hr0_3 hc0_3
 have HB := Aside0.mk (Below.refl w.heap.size w)
 have H : ((scarfref05_Nodes.f k a0_0 a0_1 a0_2 l0_3 a1).bind fun t119 => (some (t119.length : Int))) = some r := h
 clear h
 replace H := Option.bind_eq_some_iff.mp H
 obtain ⟨t119, A30, H⟩ := H
 replace H : (some (t119.length : Int)) = some r := H
 have A3 := Aside0.mk A30
 clear A30
 obtain rfl := Option.some.inj H
 go_enter Tryd.func20, Tryd.ntmps20
 go_wp2_with (first | ((with_reducible refine gate_dst (N := 2) rfl ?_); refine box_event ?hg (N := 2) ?hd (cs := #[.int .i64 a0_0, .string a0_1, .string a0_2, .slice A0_3 l0_3.length c0_3]) (t := 24) ?hr ?_; (case hd => rfl); (case hg => rfl); (case hr => first | (go_simp; done) | (go_simp; rfl)); intro gb118 hg w4 hbox hb; have n0_ := Aside0.mk (below_step (by repeat (first | (with_reducible first | exact HB.out | apply below_alloc | apply pw_below_drewN | apply below_drew1) | exact HB.out)) hb); have n1_ := Aside0.mk (hbox); have n2_ := Aside0.mk ((by rw [hg]; exact (below_size (by repeat (first | (with_reducible first | exact HB.out | apply below_alloc | apply pw_below_drewN | apply below_drew1) | exact HB.out))) : w.heap.size ≤ gb118)); have n3_ := Aside0.mk ((by rw [hg]; exact (below_size (by repeat (first | (with_reducible first | exact HB.out | apply below_alloc | apply pw_below_drewN | apply below_drew1) | exact HB.out))) : w.heap.size ≤ gb118)); clear HB; have HB := n0_; have BK118 := n1_; have GW118 := n2_; have GE118 := n3_; clear n0_ n1_ n2_ n3_; clear hb hbox hg; have hcz5_0 : w4.cell? ⟨gb118, 0, none⟩ = some (.int .i64 a0_0) := (blk_cell BK118.out 0).trans rfl; have hcz5_1 : w4.cell? ⟨gb118, 1, none⟩ = some (.string a0_1) := (blk_cell BK118.out 1).trans rfl; have hcz5_2 : w4.cell? ⟨gb118, 2, none⟩ = some (.string a0_2) := (blk_cell BK118.out 2).trans rfl; have hcz5_3 : w4.cell? ⟨gb118, 3, none⟩ = some (.slice A0_3 l0_3.length c0_3) := (blk_cell BK118.out 3).trans rfl; have hfz5_0 := blk_frozen BK118.out 0; have hfz5_1 := blk_frozen BK118.out 1; have hfz5_2 := blk_frozen BK118.out 2; have hfz5_3 := blk_frozen BK118.out 3) | ((with_reducible refine gate_callee (f := 17) rfl ?_); refine goesL_ (some 7) rfl rfl Tryd.func17 (by kernel_rfl) rfl #[.agg #[.int .i64 a0_0, .string a0_1, .string a0_2, .slice A0_3 l0_3.length c0_3], .int .i64 a1] rfl (by (try simp only [List.map_toArray, List.map_cons, List.map_nil]); first | done | rfl | (simp only [List.length_drop, List.length_take]; rfl)) ?_; (with_reducible refine (scarfref05_Nodes.calls k a0_0 a0_1 a0_2 (fun k_ => k_ < w.heap.size) _ _ l0_3 a1 t119 _ ?side1 A3.out).mono ?_); (case side1 => exact Kd.V_mk HC0_3.out (Kd.F_below (Kd.C_F k24_heap HR0_3.out) (by repeat (first | (with_reducible first | exact HB.out | apply below_alloc | apply pw_below_drewN | apply below_drew1 | refine below_set ?_ GE118.out) | exact HB.out)))); rintro e w6 ⟨v120, rfl, ho0, hb⟩; refine ⟨_, rfl, ?_⟩; have n0_ := Aside0.mk (Kd.N_lower (Kd.N_mono (ok' := fun k_ => k_ ≠ gb118) ho0 (fun k_ hk_ => Or.elim hk_ (fun hs_ => fun e_ => Nat.not_le.2 hs_ (by rw [e_]; exact GW118.out)) (fun hn_ => (Kd.freshB (g := gb118) (o := .cells #[.int .i64 a0_0, .string a0_1, .string a0_2, .slice A0_3 l0_3.length c0_3] 24 (0, 0)) (by (with_reducible repeat (first | refine blk_drewN ?_ _ | refine blk_drew ?_ | refine blk_alloc ?_ _)); exact BK118.out) k_ hn_)))) (below_size (by repeat (first | (with_reducible first | exact HB.out | apply below_alloc | apply pw_below_drewN | apply below_drew1 | refine below_set ?_ GE118.out) | exact HB.out)))); have n1_ := Aside0.mk (blk_below (g := gb118) (o := .cells #[.int .i64 a0_0, .string a0_1, .string a0_2, .slice A0_3 l0_3.length c0_3] 24 (0, 0)) (by (with_reducible repeat (first | refine blk_drewN ?_ _ | refine blk_drew ?_ | refine blk_alloc ?_ _)); exact BK118.out) hb); have n2_ := Aside0.mk (below_step (by repeat (first | (with_reducible first | exact HB.out | apply below_alloc | apply pw_below_drewN | apply below_drew1 | refine below_set ?_ GE118.out) | exact HB.out)) hb); clear BK118; clear HB; have HO121 := n0_; have BK118 := n1_; have HB := n2_; clear n0_ n1_ n2_; (try clear hb); (try clear hb2); (try clear hk); (try clear hi); (try clear ho0); obtain ⟨Ao7, co7, eo7⟩ := Kd.N_slice HO121.out; subst eo7))
 go_ret
 exact ⟨by first | rfl | (simp [errW_none, errW_some] <;> rfl) | (simp [*, errW_none, errW_some] <;> rfl), by repeat (first | (with_reducible first | exact HB.out | apply below_alloc | apply pw_below_drewN | apply below_drew1 | refine below_set ?_ GE118.out) | exact HB.out)⟩

/-! ### scarflaw10_few: function 8 -/
def scarflaw10_few.f (k : Nat) (a0_0 : Int) (a0_1 : ByteArray) (a0_2 : ByteArray) (l0_3 : List (S24)) (a1 : Int) : Option (Bool) := (scarflaw05_Few.f k a0_0 a0_1 a0_2 l0_3).bind fun t123 => (if t123 = true then ((scarfref05_Size.f k a0_0 a0_1 a0_2 l0_3 (wrap64 (a1 + 1))).bind fun t124 => (some (decide (t124 ≤ a1)))) else (some false))
theorem scarflaw10_few.mono : ∀ a0 a1 a2 a3 a4 k, LeO (scarflaw10_few.f k a0 a1 a2 a3 a4) (scarflaw10_few.f (k + 1) a0 a1 a2 a3 a4) := by
 intro a0 a1 a2 a3 a4 k
 unfold scarflaw10_few.f
 repeat' first
   | (with_reducible exact scarflaw05_Few.mono _ _ _ _ _)
   | (with_reducible exact scarfref05_Size.mono _ _ _ _ _ _)
   | (with_reducible exact LeO.refl _)
   | (with_reducible exact LeO.none _)
   | (with_reducible refine LeO.ite ?_ ?_)
   | (with_reducible refine LeO.bind ?_ (fun _ => ?_))
   | exact scarflaw05_Few.mono _ _ _ _ _
   | exact scarfref05_Size.mono _ _ _ _ _ _
   | exact LeO.none _
   | refine LeO.ite ?_ ?_
   | refine LeO.bind ?_ (fun _ => ?_)
set_option maxHeartbeats 8000000 in
set_option maxRecDepth 100000 in
theorem scarflaw10_few.calls (k : Nat) (a0_0 : Int) (a0_1 : ByteArray) (a0_2 : ByteArray) (A0_3 : Option Addr) (c0_3 : Nat) (l0_3 : List (S24)) (a1 : Int) (r : Bool) (w : World) (hr0_3 : Kd.C k24 w A0_3 l0_3.length l0_3) (hc0_3 : l0_3.length ≤ c0_3) (h : scarflaw10_few.f k a0_0 a0_1 a0_2 l0_3 a1 = some r) :
  Calls Tryd.prog 8 #[.agg #[.int .i64 a0_0, .string a0_1, .string a0_2, .slice A0_3 l0_3.length c0_3], .int .i64 a1] w fun e w' => e = .returned (.bool r) ∧ Below w.heap.size w w' := by
 have hu24 := Tryd.underlying24
 have HR0_3 := Aside0.mk hr0_3
 have HC0_3 := Aside0.mk hc0_3
 clear hr0_3 hc0_3
 have HB := Aside0.mk (Below.refl w.heap.size w)
 have H : ((scarflaw05_Few.f k a0_0 a0_1 a0_2 l0_3).bind fun t123 => (if t123 = true then ((scarfref05_Size.f k a0_0 a0_1 a0_2 l0_3 (wrap64 (a1 + 1))).bind fun t124 => (some (decide (t124 ≤ a1)))) else (some false))) = some r := h
 clear h
 replace H := Option.bind_eq_some_iff.mp H
 obtain ⟨t123, A30, H⟩ := H
 replace H : (if t123 = true then ((scarfref05_Size.f k a0_0 a0_1 a0_2 l0_3 (wrap64 (a1 + 1))).bind fun t124 => (some (decide (t124 ≤ a1)))) else (some false)) = some r := H
 have A3 := Aside0.mk A30
 clear A30
 by_cases c4 : t123 = true
 ·subst c4
  have H1 : ((scarfref05_Size.f k a0_0 a0_1 a0_2 l0_3 (wrap64 (a1 + 1))).bind fun t124 => (some (decide (t124 ≤ a1)))) = some r := by rw [if_pos rfl] at H; exact H
  clear H
  have H := H1
  clear H1
  replace H := Option.bind_eq_some_iff.mp H
  obtain ⟨t124, A50, H⟩ := H
  replace H : (some (decide (t124 ≤ a1))) = some r := H
  have A5 := Aside0.mk A50
  clear A50
  obtain rfl := Option.some.inj H
  go_enter Tryd.func8, Tryd.ntmps8
  go_wp2_with (first | ((with_reducible refine gate_dst (N := 2) rfl ?_); refine box_event ?hg (N := 2) ?hd (cs := #[.int .i64 a0_0, .string a0_1, .string a0_2, .slice A0_3 l0_3.length c0_3]) (t := 24) ?hr ?_; (case hd => rfl); (case hg => rfl); (case hr => first | (go_simp; done) | (go_simp; rfl)); intro gb122 hg w6 hbox hb; have n0_ := Aside0.mk (below_step (by repeat (first | (with_reducible first | exact HB.out | apply below_alloc | apply pw_below_drewN | apply below_drew1) | exact HB.out)) hb); have n1_ := Aside0.mk (hbox); have n2_ := Aside0.mk ((by rw [hg]; exact (below_size (by repeat (first | (with_reducible first | exact HB.out | apply below_alloc | apply pw_below_drewN | apply below_drew1) | exact HB.out))) : w.heap.size ≤ gb122)); have n3_ := Aside0.mk ((by rw [hg]; exact (below_size (by repeat (first | (with_reducible first | exact HB.out | apply below_alloc | apply pw_below_drewN | apply below_drew1) | exact HB.out))) : w.heap.size ≤ gb122)); clear HB; have HB := n0_; have BK122 := n1_; have GW122 := n2_; have GE122 := n3_; clear n0_ n1_ n2_ n3_; clear hb hbox hg; have hcz7_0 : w6.cell? ⟨gb122, 0, none⟩ = some (.int .i64 a0_0) := (blk_cell BK122.out 0).trans rfl; have hcz7_1 : w6.cell? ⟨gb122, 1, none⟩ = some (.string a0_1) := (blk_cell BK122.out 1).trans rfl; have hcz7_2 : w6.cell? ⟨gb122, 2, none⟩ = some (.string a0_2) := (blk_cell BK122.out 2).trans rfl; have hcz7_3 : w6.cell? ⟨gb122, 3, none⟩ = some (.slice A0_3 l0_3.length c0_3) := (blk_cell BK122.out 3).trans rfl; have hfz7_0 := blk_frozen BK122.out 0; have hfz7_1 := blk_frozen BK122.out 1; have hfz7_2 := blk_frozen BK122.out 2; have hfz7_3 := blk_frozen BK122.out 3) | ((with_reducible refine gate_callee (f := 19) rfl ?_); refine goesL_ (some 6) rfl rfl Tryd.func19 (by kernel_rfl) rfl #[.agg #[.int .i64 a0_0, .string a0_1, .string a0_2, .slice A0_3 l0_3.length c0_3]] rfl (by (try simp only [List.map_toArray, List.map_cons, List.map_nil]); first | done | rfl | (simp only [List.length_drop, List.length_take]; rfl)) ?_; (with_reducible refine (scarflaw05_Few.calls k a0_0 a0_1 a0_2 _ _ l0_3 true _ ?side1 ?side2 A3.out).mono ?_); (case side1 => repeat (first | exact (Kd.C_below HR0_3.out HB.out) | (with_reducible refine Kd.C_alloc ?_ _) | (with_reducible refine Kd.C_drewN ?_ _) | (with_reducible refine Kd.C_drew ?_))); (case side2 => exact HC0_3.out); rintro e w8 ⟨rfl, hb⟩; refine ⟨_, rfl, ?_⟩; have n0_ := Aside0.mk (blk_below (g := gb122) (o := .cells #[.int .i64 a0_0, .string a0_1, .string a0_2, .slice A0_3 l0_3.length c0_3] 24 (0, 0)) (by (with_reducible repeat (first | refine blk_drewN ?_ _ | refine blk_drew ?_ | refine blk_alloc ?_ _)); exact BK122.out) hb); have n1_ := Aside0.mk (below_step (by repeat (first | (with_reducible first | exact HB.out | apply below_alloc | apply pw_below_drewN | apply below_drew1 | refine below_set ?_ GE122.out) | exact HB.out)) hb); clear BK122; clear HB; have BK122 := n0_; have HB := n1_; clear n0_ n1_; (try clear hb); (try clear hb2); (try clear hk); (try clear hi); have hcz9_0 : w8.cell? ⟨gb122, 0, none⟩ = some (.int .i64 a0_0) := (blk_cell BK122.out 0).trans rfl; have hcz9_1 : w8.cell? ⟨gb122, 1, none⟩ = some (.string a0_1) := (blk_cell BK122.out 1).trans rfl; have hcz9_2 : w8.cell? ⟨gb122, 2, none⟩ = some (.string a0_2) := (blk_cell BK122.out 2).trans rfl; have hcz9_3 : w8.cell? ⟨gb122, 3, none⟩ = some (.slice A0_3 l0_3.length c0_3) := (blk_cell BK122.out 3).trans rfl; have hfz9_0 := blk_frozen BK122.out 0; have hfz9_1 := blk_frozen BK122.out 1; have hfz9_2 := blk_frozen BK122.out 2; have hfz9_3 := blk_frozen BK122.out 3) | (go_at_call 20; (with_reducible refine (scarfref05_Size.calls k a0_0 a0_1 a0_2 _ _ l0_3 (wrap64 (a1 + 1)) t124 _ ?side1 ?side2 A5.out).mono ?_); (case side1 => repeat (first | exact (Kd.C_below HR0_3.out HB.out) | (with_reducible refine Kd.C_alloc ?_ _) | (with_reducible refine Kd.C_drewN ?_ _) | (with_reducible refine Kd.C_drew ?_))); (case side2 => exact HC0_3.out); rintro e w10 ⟨rfl, hb⟩; have n0_ := Aside0.mk (blk_below (g := gb122) (o := .cells #[.int .i64 a0_0, .string a0_1, .string a0_2, .slice A0_3 l0_3.length c0_3] 24 (0, 0)) (by (with_reducible repeat (first | refine blk_drewN ?_ _ | refine blk_drew ?_ | refine blk_alloc ?_ _)); exact BK122.out) hb); have n1_ := Aside0.mk (below_step (by repeat (first | (with_reducible first | exact HB.out | apply below_alloc | apply pw_below_drewN | apply below_drew1 | refine below_set ?_ GE122.out) | exact HB.out)) hb); clear BK122; clear HB; have BK122 := n0_; have HB := n1_; clear n0_ n1_; (try clear hb); (try clear hb2); (try clear hk); (try clear hi)))
  go_ret
  exact ⟨by first | rfl | (simp [errW_none, errW_some] <;> rfl) | (simp [*, errW_none, errW_some] <;> rfl), by repeat (first | (with_reducible first | exact HB.out | apply below_alloc | apply pw_below_drewN | apply below_drew1 | refine below_set ?_ GE122.out) | exact HB.out)⟩
 ·replace c4 := Bool.eq_false_iff.mpr c4
  subst c4
  have H1 : (some false) = some r := by rw [if_neg (show ¬ (false = true) by decide)] at H; exact H
  clear H
  have H := H1
  clear H1
  obtain rfl := Option.some.inj H
  go_enter Tryd.func8, Tryd.ntmps8
  go_wp2_with (first | ((with_reducible refine gate_dst (N := 2) rfl ?_); refine box_event ?hg (N := 2) ?hd (cs := #[.int .i64 a0_0, .string a0_1, .string a0_2, .slice A0_3 l0_3.length c0_3]) (t := 24) ?hr ?_; (case hd => rfl); (case hg => rfl); (case hr => first | (go_simp; done) | (go_simp; rfl)); intro gb122 hg w11 hbox hb; have n0_ := Aside0.mk (below_step (by repeat (first | (with_reducible first | exact HB.out | apply below_alloc | apply pw_below_drewN | apply below_drew1) | exact HB.out)) hb); have n1_ := Aside0.mk (hbox); have n2_ := Aside0.mk ((by rw [hg]; exact (below_size (by repeat (first | (with_reducible first | exact HB.out | apply below_alloc | apply pw_below_drewN | apply below_drew1) | exact HB.out))) : w.heap.size ≤ gb122)); have n3_ := Aside0.mk ((by rw [hg]; exact (below_size (by repeat (first | (with_reducible first | exact HB.out | apply below_alloc | apply pw_below_drewN | apply below_drew1) | exact HB.out))) : w.heap.size ≤ gb122)); clear HB; have HB := n0_; have BK122 := n1_; have GW122 := n2_; have GE122 := n3_; clear n0_ n1_ n2_ n3_; clear hb hbox hg; have hcz12_0 : w11.cell? ⟨gb122, 0, none⟩ = some (.int .i64 a0_0) := (blk_cell BK122.out 0).trans rfl; have hcz12_1 : w11.cell? ⟨gb122, 1, none⟩ = some (.string a0_1) := (blk_cell BK122.out 1).trans rfl; have hcz12_2 : w11.cell? ⟨gb122, 2, none⟩ = some (.string a0_2) := (blk_cell BK122.out 2).trans rfl; have hcz12_3 : w11.cell? ⟨gb122, 3, none⟩ = some (.slice A0_3 l0_3.length c0_3) := (blk_cell BK122.out 3).trans rfl; have hfz12_0 := blk_frozen BK122.out 0; have hfz12_1 := blk_frozen BK122.out 1; have hfz12_2 := blk_frozen BK122.out 2; have hfz12_3 := blk_frozen BK122.out 3) | ((with_reducible refine gate_callee (f := 19) rfl ?_); refine goesL_ (some 6) rfl rfl Tryd.func19 (by kernel_rfl) rfl #[.agg #[.int .i64 a0_0, .string a0_1, .string a0_2, .slice A0_3 l0_3.length c0_3]] rfl (by (try simp only [List.map_toArray, List.map_cons, List.map_nil]); first | done | rfl | (simp only [List.length_drop, List.length_take]; rfl)) ?_; (with_reducible refine (scarflaw05_Few.calls k a0_0 a0_1 a0_2 _ _ l0_3 false _ ?side1 ?side2 A3.out).mono ?_); (case side1 => repeat (first | exact (Kd.C_below HR0_3.out HB.out) | (with_reducible refine Kd.C_alloc ?_ _) | (with_reducible refine Kd.C_drewN ?_ _) | (with_reducible refine Kd.C_drew ?_))); (case side2 => exact HC0_3.out); rintro e w13 ⟨rfl, hb⟩; refine ⟨_, rfl, ?_⟩; have n0_ := Aside0.mk (blk_below (g := gb122) (o := .cells #[.int .i64 a0_0, .string a0_1, .string a0_2, .slice A0_3 l0_3.length c0_3] 24 (0, 0)) (by (with_reducible repeat (first | refine blk_drewN ?_ _ | refine blk_drew ?_ | refine blk_alloc ?_ _)); exact BK122.out) hb); have n1_ := Aside0.mk (below_step (by repeat (first | (with_reducible first | exact HB.out | apply below_alloc | apply pw_below_drewN | apply below_drew1 | refine below_set ?_ GE122.out) | exact HB.out)) hb); clear BK122; clear HB; have BK122 := n0_; have HB := n1_; clear n0_ n1_; (try clear hb); (try clear hb2); (try clear hk); (try clear hi)))
  go_ret
  exact ⟨by first | rfl | (simp [errW_none, errW_some] <;> rfl) | (simp [*, errW_none, errW_some] <;> rfl), by repeat (first | (with_reducible first | exact HB.out | apply below_alloc | apply pw_below_drewN | apply below_drew1 | refine below_set ?_ GE122.out) | exact HB.out)⟩

/-! ### scarfref03_Same: function 12 -/
def scarfref03_Same.l0 : Nat → List Int → List Int → Int → Option (Bool)
 | 0, _, _, _ => none
 | k + 1, x0, x1, x5 => if x5 < (x0.length : Int) then (if 0 ≤ x5 then (if x5 < (x1.length : Int) then (if (rd x0 x5) = (rd x1 x5) then (scarfref03_Same.l0 k x0 x1 (wrap64 (x5 + 1))) else (some false)) else (none)) else (none)) else (some true)
def scarfref03_Same.f (k : Nat) (l0 : List Int) (l1 : List Int) : Option (Bool) := if (l0.length : Int) = (l1.length : Int) then (scarfref03_Same.l0 k l0 l1 0) else (some false)
theorem scarfref03_Same.mono_l : ∀ k, (∀ y0 y1 y2, LeO (scarfref03_Same.l0 k y0 y1 y2) (scarfref03_Same.l0 (k + 1) y0 y1 y2))
 | 0 => fun _ _ _ r h => by simp [scarfref03_Same.l0] at h
 | k + 1 => by
  have ih0 := scarfref03_Same.mono_l k
  ·intro y0 y1 y2
   unfold scarfref03_Same.l0
   repeat' first
   | (with_reducible exact ih0 _ _ _)
   | (with_reducible exact LeO.refl _)
   | (with_reducible exact LeO.none _)
   | (with_reducible refine LeO.ite ?_ ?_)
   | (with_reducible refine LeO.bind ?_ (fun _ => ?_))
   | exact ih0 _ _ _
   | exact LeO.none _
   | refine LeO.ite ?_ ?_
   | refine LeO.bind ?_ (fun _ => ?_)
theorem scarfref03_Same.mono : ∀ a0 a1 k, LeO (scarfref03_Same.f k a0 a1) (scarfref03_Same.f (k + 1) a0 a1) := by
 intro a0 a1 k
 have ih0 := scarfref03_Same.mono_l k
 unfold scarfref03_Same.f
 repeat' first
   | (with_reducible exact ih0 _ _ _)
   | (with_reducible exact LeO.refl _)
   | (with_reducible exact LeO.none _)
   | (with_reducible refine LeO.ite ?_ ?_)
   | (with_reducible refine LeO.bind ?_ (fun _ => ?_))
   | exact ih0 _ _ _
   | exact LeO.none _
   | refine LeO.ite ?_ ?_
   | refine LeO.bind ?_ (fun _ => ?_)
set_option maxHeartbeats 8000000 in
set_option maxRecDepth 100000 in
theorem scarfref03_Same.calls (k : Nat) (A0 : Option Addr) (c0 : Nat) (l0 : List Int) (A1 : Option Addr) (c1 : Nat) (l1 : List Int) (r : Bool) (w : World) (hr0 : Kd.C (Kd.int .i64) w A0 l0.length l0) (hc0 : l0.length ≤ c0) (hr1 : Kd.C (Kd.int .i64) w A1 l1.length l1) (hc1 : l1.length ≤ c1) (h : scarfref03_Same.f k l0 l1 = some r) :
  Calls Tryd.prog 12 #[.slice A0 l0.length c0, .slice A1 l1.length c1] w fun e w' => e = .returned (.bool r) ∧ Drawn0 w w' := by
 have HR0 := Aside0.mk hr0
 have HC0 := Aside0.mk hc0
 clear hr0 hc0
 have HR1 := Aside0.mk hr1
 have HC1 := Aside0.mk hc1
 clear hr1 hc1
 have H : (if (l0.length : Int) = (l1.length : Int) then (scarfref03_Same.l0 k l0 l1 0) else (some false)) = some r := h
 clear h
 by_cases c3 : (l0.length : Int) = (l1.length : Int)
 ·rw [if_pos c3] at H
  have c3b0 : ((l0.length : Int) == (l1.length : Int)) = true := beq_iff_eq.mpr c3
  have c3b1 : ((l0.length : Int) != (l1.length : Int)) = false := bne_eq_false_iff_eq.mpr c3
  have c3b2 : (l0.length == l1.length) = true := by first | simpa using c3 | (simp at c3 ⊢; omega)
  clear c3
  have H' := Aside0.mk H
  clear H
  go_enter Tryd.func12, Tryd.ntmps12
  go_wp2
  repeat (go_quiet (fail); try go_wp2)
  go_loopg [5] k (fun kq v5 w' => ∃ (x5_1 : Int), v5 = .int .i64 x5_1 ∧ Aside0 (scarfref03_Same.l0 kq l0 l1 x5_1 = some r) ∧ Aside0 (kq ≤ k) ∧ Drawn0 w w')
  case atStart => exact ⟨(0), (by first | rfl | (simp; done) | (simp [*]; done)), H', ⟨Nat.le_refl _⟩, by repeat (first | exact Drawn0.refl _ | apply Drawn0.step)⟩
  case round =>
   clear H'
   try clear c1
   try clear p2
   try clear c3
   try clear c3b0
   try clear c3b1
   try clear c3b2
   obtain ⟨x5_1, rfl, HA, HK1, ⟨m1, rfl⟩⟩ := hrel
   cases gk with
   | zero => exact absurd HA.out (by simp [scarfref03_Same.l0])
   | succ k1 =>
    have H := HA.out
    clear HA
    simp only [scarfref03_Same.l0] at H
    by_cases c4 : x5_1 < (l0.length : Int)
    ·rw [if_pos c4] at H
     have c4b0 : decide (x5_1 < (l0.length : Int)) = true := decide_eq_true c4
     clear c4
     by_cases c5 : 0 ≤ x5_1
     ·rw [if_pos c5] at H
      have c5b0 : decide (0 ≤ x5_1) = true := decide_eq_true c5
      clear c5
      by_cases c6 : x5_1 < (l1.length : Int)
      ·rw [if_pos c6] at H
       have c6b0 : decide (x5_1 < (l1.length : Int)) = true := decide_eq_true c6
       clear c6
       by_cases c7 : (rd l0 x5_1) = (rd l1 x5_1)
       ·rw [if_pos c7] at H
        have c7b0 : ((rd l0 x5_1) == (rd l1 x5_1)) = true := beq_iff_eq.mpr c7
        have c7b1 : ((rd l0 x5_1) != (rd l1 x5_1)) = false := bne_eq_false_iff_eq.mpr c7
        clear c7
        have H' := Aside0.mk H
        clear H
        have p125 : 0 ≤ (x5_1 : Int) := of_decide_eq_true (by first | (with_reducible assumption) | assumption)
        have q125 : x5_1 < (l0.length : Int) := of_decide_eq_true (by first | (with_reducible assumption) | assumption)
        obtain ⟨ad125, e125, hx125_0⟩ := Kd.at_int HR0.out x5_1 p125 q125
        cases e125
        replace p125 := eq_true p125
        replace q125 := eq_true q125
        have p126 : 0 ≤ (x5_1 : Int) := of_decide_eq_true (by first | (with_reducible assumption) | assumption)
        have q126 : x5_1 < (l1.length : Int) := of_decide_eq_true (by first | (with_reducible assumption) | assumption)
        obtain ⟨ad126, e126, hx126_0⟩ := Kd.at_int HR1.out x5_1 p126 q126
        cases e126
        replace p126 := eq_true p126
        replace q126 := eq_true q126
        go_wp2
        repeat (go_quiet (fail); try go_wp2)
        go_roundg k1
        case measure => have := HK1.out; omega
        case rel => exact ⟨(wrap64 (x5_1 + 1)), (by first | rfl | (simp; done) | (simp [*]; done)), H', ⟨by have := HK1.out; omega⟩, by repeat (first | exact Drawn0.refl _ | apply Drawn0.step)⟩
       ·rw [if_neg c7] at H
        have c7b0 : ((rd l0 x5_1) == (rd l1 x5_1)) = false := beq_eq_false_iff_ne.mpr c7
        have c7b1 : ((rd l0 x5_1) != (rd l1 x5_1)) = true := bne_iff_ne.mpr c7
        obtain rfl := Option.some.inj H
        have p125 : 0 ≤ (x5_1 : Int) := of_decide_eq_true (by first | (with_reducible assumption) | assumption)
        have q125 : x5_1 < (l0.length : Int) := of_decide_eq_true (by first | (with_reducible assumption) | assumption)
        obtain ⟨ad125, e125, hx125_0⟩ := Kd.at_int HR0.out x5_1 p125 q125
        cases e125
        replace p125 := eq_true p125
        replace q125 := eq_true q125
        have p126 : 0 ≤ (x5_1 : Int) := of_decide_eq_true (by first | (with_reducible assumption) | assumption)
        have q126 : x5_1 < (l1.length : Int) := of_decide_eq_true (by first | (with_reducible assumption) | assumption)
        obtain ⟨ad126, e126, hx126_0⟩ := Kd.at_int HR1.out x5_1 p126 q126
        cases e126
        replace p126 := eq_true p126
        replace q126 := eq_true q126
        go_wp2
        repeat (go_quiet (fail); try go_wp2)
        go_ret
        exact ⟨by first | rfl | (simp; done) | (simp [*]; done), by repeat (first | exact Drawn0.refl _ | apply Drawn0.step)⟩
      ·rw [if_neg c6] at H
       exact absurd H (by simp)
     ·rw [if_neg c5] at H
      exact absurd H (by simp)
    ·rw [if_neg c4] at H
     have c4b0 : decide (x5_1 < (l0.length : Int)) = false := decide_eq_false c4
     clear c4
     obtain rfl := Option.some.inj H
     go_wp2
     repeat (go_quiet (fail); try go_wp2)
     go_ret
     exact ⟨by first | rfl | (simp; done) | (simp [*]; done), by repeat (first | exact Drawn0.refl _ | apply Drawn0.step)⟩
 ·rw [if_neg c3] at H
  have c3b0 : ((l0.length : Int) == (l1.length : Int)) = false := beq_eq_false_iff_ne.mpr c3
  have c3b1 : ((l0.length : Int) != (l1.length : Int)) = true := bne_iff_ne.mpr c3
  have c3b2 : (l0.length == l1.length) = false := by first | simpa using c3 | (simp at c3 ⊢; omega)
  obtain rfl := Option.some.inj H
  go_enter Tryd.func12, Tryd.ntmps12
  go_wp2
  repeat (go_quiet (fail); try go_wp2)
  go_ret
  exact ⟨by first | rfl | (simp; done) | (simp [*]; done), by repeat (first | exact Drawn0.refl _ | apply Drawn0.step)⟩

end Go.Proofs.YtfmlpkeaiohknaaDoor.Q
