-- Written by a program of this session (wip/mkprint.py, wip/pr.sh) for this claim; Lean checks it.
import Derived.Test.YtfmlpkeaiohknaaDoorMKnown
import Derived.Test.YtfmlpkeaiohknaaDoorQx0
import Derived.Test.YtfmlpkeaiohknaaDoorQx1
import Derived.Test.YtfmlpkeaiohknaaDoorQx3
import Derived.Test.YtfmlpkeaiohknaaDoorQx4
import Derived.Test.YtfmlpkeaiohknaaDoorQx7
import Derived.Test.YtfmlpkeaiohknaaDoorMMk0
namespace Go.Proofs.YtfmlpkeaiohknaaDoor.Q
open Go.RowKit Go.Proofs.YtfmlpkeaiohknaaDoorW.PrintWords Go.Proofs.YtfmlpkeaiohknaaDoorW.PrintLast Go.Proofs.YtfmlpkeaiohknaaDoorW.PrintMore
attribute [local go_sem] max2_int min2_int max_two min_two max_three min_three max_four min_four   -- for this text's walks alone
set_option linter.unusedVariables false
set_option linter.unusedSimpArgs false

/-! ### scarflaw10_ShapeMarks: function 4 -/
def scarflaw10_ShapeMarks.j0 : Nat → Bool → Int → ByteArray → ByteArray → List (S24) → Int → ByteArray → ByteArray → List (S24) → Int → ByteArray → ByteArray → List (S24) → Option (Bool)
 | 0, _, _, _, _, _, _, _, _, _, _, _, _, _ => none
 | k + 1, x21, x330000, x330001, x330002, x330003, x331000, x331001, x331002, x331003, x332000, x332001, x332002, x332003 => if x21 = true then ((scarflaw10_known.f k).bind fun t335 => (if t335 = true then (some true) else (some false))) else ((shape_Marks.f (([(⟨x330000, x330001, x330002, x330003⟩ : S24), (⟨x331000, x331001, x331002, x331003⟩ : S24), (⟨x332000, x332001, x332002, x332003⟩ : S24)] : List (S24)))).bind fun t339 => ((scarfref10_Marks.f k (([(⟨x330000, x330001, x330002, x330003⟩ : S24), (⟨x331000, x331001, x331002, x331003⟩ : S24), (⟨x332000, x332001, x332002, x332003⟩ : S24)] : List (S24))) 151).bind fun t345 => ((scarflaw10_known.f k).bind fun t348 => (if t348 = true then (if (t339.length : Int) = 3 then (if 0 < (t339.length : Int) then (if 0 < (t345.length : Int) then ((scarfref03_Same.f k (rd_L3 t339 0) (rd_L3 t345 0)).bind fun t351 => (if t351 = true then (if 1 < (t339.length : Int) then (if 1 < (t345.length : Int) then ((scarfref03_Same.f k (rd_L3 t339 1) (rd_L3 t345 1)).bind fun t354 => (if t354 = true then (if 2 < (t339.length : Int) then (if 2 < (t345.length : Int) then ((scarfref03_Same.f k (rd_L3 t339 2) (rd_L3 t345 2)).bind fun t357 => (if t357 = true then (some true) else (some false))) else (none)) else (none)) else (some false))) else (none)) else (none)) else (some false))) else (none)) else (none)) else (some false)) else (some false)))))
def scarflaw10_ShapeMarks.f (k : Nat) (a0_0 : Int) (a0_1 : ByteArray) (a0_2 : ByteArray) (l0_3 : List (S24)) (a1_0 : Int) (a1_1 : ByteArray) (a1_2 : ByteArray) (l1_3 : List (S24)) (a2_0 : Int) (a2_1 : ByteArray) (a2_2 : ByteArray) (l2_3 : List (S24)) : Option (Bool) := (scarflaw10_few.f k a0_0 a0_1 a0_2 l0_3 150).bind fun t332 => (if t332 = true then ((scarflaw10_few.f k a1_0 a1_1 a1_2 l1_3 150).bind fun t333 => (if t333 = true then ((scarflaw10_few.f k a2_0 a2_1 a2_2 l2_3 150).bind fun t334 => (scarflaw10_ShapeMarks.j0 k (!t334) a0_0 a0_1 a0_2 l0_3 a1_0 a1_1 a1_2 l1_3 a2_0 a2_1 a2_2 l2_3)) else (scarflaw10_ShapeMarks.j0 k true a0_0 a0_1 a0_2 l0_3 a1_0 a1_1 a1_2 l1_3 a2_0 a2_1 a2_2 l2_3))) else (scarflaw10_ShapeMarks.j0 k true a0_0 a0_1 a0_2 l0_3 a1_0 a1_1 a1_2 l1_3 a2_0 a2_1 a2_2 l2_3))
theorem scarflaw10_ShapeMarks.mono_l : ∀ k, (∀ y0 y1 y2 y3 y4 y5 y6 y7 y8 y9 y10 y11 y12, LeO (scarflaw10_ShapeMarks.j0 k y0 y1 y2 y3 y4 y5 y6 y7 y8 y9 y10 y11 y12) (scarflaw10_ShapeMarks.j0 (k + 1) y0 y1 y2 y3 y4 y5 y6 y7 y8 y9 y10 y11 y12))
 | 0 => fun _ _ _ _ _ _ _ _ _ _ _ _ _ r h => by simp [scarflaw10_ShapeMarks.j0] at h
 | k + 1 => by
  have ih0 := scarflaw10_ShapeMarks.mono_l k
  ·intro y0 y1 y2 y3 y4 y5 y6 y7 y8 y9 y10 y11 y12
   unfold scarflaw10_ShapeMarks.j0
   repeat' first
   | (with_reducible exact ih0 _ _ _ _ _ _ _ _ _ _ _ _ _)
   | (with_reducible exact scarflaw10_few.mono _ _ _ _ _ _)
   | (with_reducible exact scarflaw10_known.mono _)
   | (with_reducible exact scarfref03_Same.mono _ _ _)
   | (with_reducible exact scarfref10_Marks.mono _ _ _)
   | (with_reducible exact LeO.refl _)
   | (with_reducible exact LeO.none _)
   | (with_reducible refine LeO.ite ?_ ?_)
   | (with_reducible refine LeO.bind ?_ (fun _ => ?_))
   | exact ih0 _ _ _ _ _ _ _ _ _ _ _ _ _
   | exact scarflaw10_few.mono _ _ _ _ _ _
   | exact scarflaw10_known.mono _
   | exact scarfref03_Same.mono _ _ _
   | exact scarfref10_Marks.mono _ _ _
   | exact LeO.none _
   | refine LeO.ite ?_ ?_
   | refine LeO.bind ?_ (fun _ => ?_)
theorem scarflaw10_ShapeMarks.mono : ∀ a0 a1 a2 a3 a4 a5 a6 a7 a8 a9 a10 a11 k, LeO (scarflaw10_ShapeMarks.f k a0 a1 a2 a3 a4 a5 a6 a7 a8 a9 a10 a11) (scarflaw10_ShapeMarks.f (k + 1) a0 a1 a2 a3 a4 a5 a6 a7 a8 a9 a10 a11) := by
 intro a0 a1 a2 a3 a4 a5 a6 a7 a8 a9 a10 a11 k
 have ih0 := scarflaw10_ShapeMarks.mono_l k
 unfold scarflaw10_ShapeMarks.f
 repeat' first
   | (with_reducible exact ih0 _ _ _ _ _ _ _ _ _ _ _ _ _)
   | (with_reducible exact scarflaw10_few.mono _ _ _ _ _ _)
   | (with_reducible exact scarflaw10_known.mono _)
   | (with_reducible exact scarfref03_Same.mono _ _ _)
   | (with_reducible exact scarfref10_Marks.mono _ _ _)
   | (with_reducible exact LeO.refl _)
   | (with_reducible exact LeO.none _)
   | (with_reducible refine LeO.ite ?_ ?_)
   | (with_reducible refine LeO.bind ?_ (fun _ => ?_))
   | exact ih0 _ _ _ _ _ _ _ _ _ _ _ _ _
   | exact scarflaw10_few.mono _ _ _ _ _ _
   | exact scarflaw10_known.mono _
   | exact scarfref03_Same.mono _ _ _
   | exact scarfref10_Marks.mono _ _ _
   | exact LeO.none _
   | refine LeO.ite ?_ ?_
   | refine LeO.bind ?_ (fun _ => ?_)
def scarflaw10_ShapeMarks.T3 : Bool × List (List Nat × List Nat) := (true, [([], []), ([], []), ([], []), ([0, 1, 2], [0, 1, 2]), ([3], [3]), ([], []), ([], []), ([], []), ([5, 6, 7], [5, 6, 7]), ([8, 4], [8]), ([4, 9, 0, 1, 2, 3, 4], [4]), ([9, 10, 0, 1, 2, 3, 4, 5, 6, 7, 8, 9, 10], [9])])
def scarflaw10_ShapeMarks.B3 : List Nat := [0, 0, 0, 7, 15, 0, 0, 0, 224, 511, 1023, 2047]
theorem scarflaw10_ShapeMarks.tab3 : rtab .any (opsOf Tryd.f4 3) = scarflaw10_ShapeMarks.T3 := by kernel_rfl
theorem scarflaw10_ShapeMarks.bits3 : waitsOk scarflaw10_ShapeMarks.T3.2 scarflaw10_ShapeMarks.B3 = true := by kernel_rfl
def scarflaw10_ShapeMarks.T4 : Bool × List (List Nat × List Nat) := (true, [([], []), ([0, 0], [0]), ([1], [1]), ([2, 1], [1, 2]), ([3, 1], [1, 3]), ([1, 4], [1, 4]), ([5, 1], [5]), ([6], [6]), ([7, 6], [6, 7]), ([8, 6], [6, 8]), ([6], [6]), ([10, 6], [6, 10]), ([11, 6], [6, 11]), ([9, 12, 6, 6], [6, 9, 12]), ([6, 13], [6, 13]), ([14, 13], [14]), ([15], [15]), ([16, 15], [15, 16]), ([17, 15], [15, 17]), ([15], [15]), ([19, 15], [15, 19]), ([20, 15], [15, 20]), ([18, 21, 15, 15], [15, 18, 21]), ([15, 22], [15, 22]), ([23, 22], [23]), ([24], [24]), ([25, 24], [24, 25]), ([26, 24], [24, 26]), ([24], [24]), ([28, 24], [24, 28]), ([29, 24], [24, 29]), ([27, 30, 24, 24], [24, 27, 30]), ([24, 31], [24, 31]), ([32, 31, 0, 1, 2, 3, 4, 5, 6, 7, 8, 9, 10, 11, 12, 13, 14, 15, 16, 17, 18, 19, 20, 21, 22, 23, 24, 25, 26, 27, 28, 29, 30, 31, 32], [32])])
def scarflaw10_ShapeMarks.B4 : List Nat := [0, 1, 3, 7, 15, 31, 63, 127, 255, 511, 127, 1151, 3199, 8191, 16383, 32767, 65535, 131071, 262143, 65535, 589823, 1638399, 4194303, 8388607, 16777215, 33554431, 67108863, 134217727, 33554431, 301989887, 838860799, 2147483647, 4294967295, 8589934591]
theorem scarflaw10_ShapeMarks.tab4 : rtab .any (opsOf Tryd.f4 4) = scarflaw10_ShapeMarks.T4 := by kernel_rfl
theorem scarflaw10_ShapeMarks.bits4 : waitsOk scarflaw10_ShapeMarks.T4.2 scarflaw10_ShapeMarks.B4 = true := by kernel_rfl
set_option maxHeartbeats 8000000 in
set_option maxRecDepth 100000 in
theorem scarflaw10_ShapeMarks.calls (k : Nat) (a0_0 : Int) (a0_1 : ByteArray) (a0_2 : ByteArray) (P0_3_ : Nat → Prop) (A0_3 : Option Addr) (c0_3 : Nat) (l0_3 : List (S24)) (a1_0 : Int) (a1_1 : ByteArray) (a1_2 : ByteArray) (P1_3_ : Nat → Prop) (A1_3 : Option Addr) (c1_3 : Nat) (l1_3 : List (S24)) (a2_0 : Int) (a2_1 : ByteArray) (a2_2 : ByteArray) (P2_3_ : Nat → Prop) (A2_3 : Option Addr) (c2_3 : Nat) (l2_3 : List (S24)) (r : Bool) (w : World) (htab : TabOk w) (hs0_3 : Kd.V k24 24 w w.heap.size (fun k_ => P0_3_ k_) (.slice A0_3 l0_3.length c0_3) l0_3) (hs1_3 : Kd.V k24 24 w w.heap.size (fun k_ => P1_3_ k_) (.slice A1_3 l1_3.length c1_3) l1_3) (hs2_3 : Kd.V k24 24 w w.heap.size (fun k_ => P2_3_ k_) (.slice A2_3 l2_3.length c2_3) l2_3) (h : scarflaw10_ShapeMarks.f k a0_0 a0_1 a0_2 l0_3 a1_0 a1_1 a1_2 l1_3 a2_0 a2_1 a2_2 l2_3 = some r) (hr_ : r = true := by rfl) :
  Calls Tryd.prog 4 #[.agg #[.int .i64 a0_0, .string a0_1, .string a0_2, .slice A0_3 l0_3.length c0_3], .agg #[.int .i64 a1_0, .string a1_1, .string a1_2, .slice A1_3 l1_3.length c1_3], .agg #[.int .i64 a2_0, .string a2_1, .string a2_2, .slice A2_3 l2_3.length c2_3]] w fun e w' => e = .returned (.bool r) ∧ Below w.heap.size w w' := by
 subst hr_
 have hu24 := Tryd.underlying24
 have HO0_3 := Aside0.mk (show Kd.V k24 24 w w.heap.size (fun k_ => ((P0_3_ k_ ∨ P1_3_ k_ ∨ P2_3_ k_) ∨ w.heap.size ≤ k_)) (.slice A0_3 l0_3.length c0_3) l0_3 from Kd.V_mono hs0_3 (fun k_ hk => .inl (.inl hk)))
 have HO1_3 := Aside0.mk (show Kd.V k24 24 w w.heap.size (fun k_ => ((P0_3_ k_ ∨ P1_3_ k_ ∨ P2_3_ k_) ∨ w.heap.size ≤ k_)) (.slice A1_3 l1_3.length c1_3) l1_3 from Kd.V_mono hs1_3 (fun k_ hk => .inl (.inr (.inl hk))))
 have HO2_3 := Aside0.mk (show Kd.V k24 24 w w.heap.size (fun k_ => ((P0_3_ k_ ∨ P1_3_ k_ ∨ P2_3_ k_) ∨ w.heap.size ≤ k_)) (.slice A2_3 l2_3.length c2_3) l2_3 from Kd.V_mono hs2_3 (fun k_ hk => .inl (.inr (.inr hk))))
 have HB := Aside0.mk (Below.refl w.heap.size w)
 have HTAB := Aside0.mk htab
 clear htab
 have H : ((scarflaw10_few.f k a0_0 a0_1 a0_2 l0_3 150).bind fun t332 => (if t332 = true then ((scarflaw10_few.f k a1_0 a1_1 a1_2 l1_3 150).bind fun t333 => (if t333 = true then ((scarflaw10_few.f k a2_0 a2_1 a2_2 l2_3 150).bind fun t334 => (scarflaw10_ShapeMarks.j0 k (!t334) a0_0 a0_1 a0_2 l0_3 a1_0 a1_1 a1_2 l1_3 a2_0 a2_1 a2_2 l2_3)) else (scarflaw10_ShapeMarks.j0 k true a0_0 a0_1 a0_2 l0_3 a1_0 a1_1 a1_2 l1_3 a2_0 a2_1 a2_2 l2_3))) else (scarflaw10_ShapeMarks.j0 k true a0_0 a0_1 a0_2 l0_3 a1_0 a1_1 a1_2 l1_3 a2_0 a2_1 a2_2 l2_3))) = some true := h
 clear h
 have HC4 := Aside0.mk H
 clear H
 go_enter Tryd.func4, Tryd.ntmps4
 go_upto_region 1 with (first | ((with_reducible refine gate_dst (N := 3) rfl ?_); (try (refine gate_guard (by rfl) ?_; dsimp only)); refine box_event ?hg (N := 3) ?hd (cs := #[.int .i64 a0_0, .string a0_1, .string a0_2, .slice A0_3 l0_3.length c0_3]) (t := 24) ?hr ?_; (case hd => rfl); (case hg => rfl); (case hr => first | (go_simp; done) | (go_simp; rfl)); intro gb329 hg w5 hbox hb; have n0_ := Aside0.mk (Kd.V_below (Kd.V_elderB (by (with_reducible repeat (first | apply Kd.V_alloc | apply Kd.V_drewN | apply Kd.V_drew)); exact HO0_3.out) gb329 (Nat.le_of_eq hg.symm)) hb); have n1_ := Aside0.mk (Kd.V_below (Kd.V_elderB (by (with_reducible repeat (first | apply Kd.V_alloc | apply Kd.V_drewN | apply Kd.V_drew)); exact HO1_3.out) gb329 (Nat.le_of_eq hg.symm)) hb); have n2_ := Aside0.mk (Kd.V_below (Kd.V_elderB (by (with_reducible repeat (first | apply Kd.V_alloc | apply Kd.V_drewN | apply Kd.V_drew)); exact HO2_3.out) gb329 (Nat.le_of_eq hg.symm)) hb); have n3_ := Aside0.mk (below_step (by repeat (first | (with_reducible first | exact HB.out | apply below_alloc | apply pw_below_drewN | apply below_drew1) | exact HB.out)) hb); have n4_ := Aside0.mk (hbox); have n5_ := Aside0.mk ((by rw [hg]; exact (below_size (by repeat (first | (with_reducible first | exact HB.out | apply below_alloc | apply pw_below_drewN | apply below_drew1) | exact HB.out))) : w.heap.size ≤ gb329)); have n6_ := Aside0.mk ((by rw [hg]; exact (below_size (by repeat (first | (with_reducible first | exact HB.out | apply below_alloc | apply pw_below_drewN | apply below_drew1) | exact HB.out))) : w.heap.size ≤ gb329)); clear HO0_3; clear HO1_3; clear HO2_3; clear HB; have HO0_3 := n0_; have HO1_3 := n1_; have HO2_3 := n2_; have HB := n3_; have BK329 := n4_; have GW329 := n5_; have GE329 := n6_; clear n0_ n1_ n2_ n3_ n4_ n5_ n6_; clear hb hbox hg) | ((with_reducible refine gate_dst (N := 4) rfl ?_); (try (refine gate_guard (by rfl) ?_; dsimp only)); refine box_event ?hg (N := 4) ?hd (cs := #[.int .i64 a1_0, .string a1_1, .string a1_2, .slice A1_3 l1_3.length c1_3]) (t := 24) ?hr ?_; (case hd => rfl); (case hg => rfl); (case hr => first | (go_simp; done) | (go_simp; rfl)); intro gb330 hg w6 hbox hb; have n0_ := Aside0.mk (Kd.V_below (Kd.V_elderB (by (with_reducible repeat (first | apply Kd.V_alloc | apply Kd.V_drewN | apply Kd.V_drew)); exact HO0_3.out) gb330 (Nat.le_of_eq hg.symm)) hb); have n1_ := Aside0.mk (Kd.V_below (Kd.V_elderB (by (with_reducible repeat (first | apply Kd.V_alloc | apply Kd.V_drewN | apply Kd.V_drew)); exact HO1_3.out) gb330 (Nat.le_of_eq hg.symm)) hb); have n2_ := Aside0.mk (Kd.V_below (Kd.V_elderB (by (with_reducible repeat (first | apply Kd.V_alloc | apply Kd.V_drewN | apply Kd.V_drew)); exact HO2_3.out) gb330 (Nat.le_of_eq hg.symm)) hb); have n3_ := Aside0.mk (blk_below (g := gb329) (o := .cells #[.int .i64 a0_0, .string a0_1, .string a0_2, .slice A0_3 l0_3.length c0_3] 24 (0, 0)) (by (with_reducible repeat (first | refine blk_drewN ?_ _ | refine blk_drew ?_ | refine blk_alloc ?_ _)); exact BK329.out) hb); have n4_ := Aside0.mk (below_step (by repeat (first | (with_reducible first | exact HB.out | apply below_alloc | apply pw_below_drewN | apply below_drew1 | refine below_set ?_ GE329.out) | exact HB.out)) hb); have n5_ := Aside0.mk (hbox); have n6_ := Aside0.mk ((by rw [hg]; exact (below_size (by repeat (first | (with_reducible first | exact HB.out | apply below_alloc | apply pw_below_drewN | apply below_drew1 | refine below_set ?_ GE329.out) | exact HB.out))) : w.heap.size ≤ gb330)); have n7_ := Aside0.mk ((by rw [hg]; exact (below_size (by repeat (first | (with_reducible first | exact HB.out | apply below_alloc | apply pw_below_drewN | apply below_drew1 | refine below_set ?_ GE329.out) | exact HB.out))) : w.heap.size ≤ gb330)); have n8_ := Aside0.mk ((by rw [hg]; exact Nat.ne_of_lt (blk_lt (g := gb329) (o := .cells #[.int .i64 a0_0, .string a0_1, .string a0_2, .slice A0_3 l0_3.length c0_3] 24 (0, 0)) (by (with_reducible repeat (first | refine blk_drewN ?_ _ | refine blk_drew ?_ | refine blk_alloc ?_ _)); exact BK329.out)) : gb329 ≠ gb330)); have n9_ := Aside0.mk ((by rw [hg]; exact Nat.ne_of_gt (blk_lt (g := gb329) (o := .cells #[.int .i64 a0_0, .string a0_1, .string a0_2, .slice A0_3 l0_3.length c0_3] 24 (0, 0)) (by (with_reducible repeat (first | refine blk_drewN ?_ _ | refine blk_drew ?_ | refine blk_alloc ?_ _)); exact BK329.out)) : gb330 ≠ gb329)); clear HO0_3; clear HO1_3; clear HO2_3; clear BK329; clear HB; have HO0_3 := n0_; have HO1_3 := n1_; have HO2_3 := n2_; have BK329 := n3_; have HB := n4_; have BK330 := n5_; have GW330 := n6_; have GE330 := n7_; have NB329_330 := n8_; have NB330_329 := n9_; clear n0_ n1_ n2_ n3_ n4_ n5_ n6_ n7_ n8_ n9_; clear hb hbox hg) | ((with_reducible refine gate_dst (N := 5) rfl ?_); (try (refine gate_guard (by rfl) ?_; dsimp only)); refine box_event ?hg (N := 5) ?hd (cs := #[.int .i64 a2_0, .string a2_1, .string a2_2, .slice A2_3 l2_3.length c2_3]) (t := 24) ?hr ?_; (case hd => rfl); (case hg => rfl); (case hr => first | (go_simp; done) | (go_simp; rfl)); intro gb331 hg w7 hbox hb; have n0_ := Aside0.mk (Kd.V_below (Kd.V_elderB (by (with_reducible repeat (first | apply Kd.V_alloc | apply Kd.V_drewN | apply Kd.V_drew)); exact HO0_3.out) gb331 (Nat.le_of_eq hg.symm)) hb); have n1_ := Aside0.mk (Kd.V_below (Kd.V_elderB (by (with_reducible repeat (first | apply Kd.V_alloc | apply Kd.V_drewN | apply Kd.V_drew)); exact HO1_3.out) gb331 (Nat.le_of_eq hg.symm)) hb); have n2_ := Aside0.mk (Kd.V_below (Kd.V_elderB (by (with_reducible repeat (first | apply Kd.V_alloc | apply Kd.V_drewN | apply Kd.V_drew)); exact HO2_3.out) gb331 (Nat.le_of_eq hg.symm)) hb); have n3_ := Aside0.mk (blk_below (g := gb329) (o := .cells #[.int .i64 a0_0, .string a0_1, .string a0_2, .slice A0_3 l0_3.length c0_3] 24 (0, 0)) (by (with_reducible repeat (first | refine blk_drewN ?_ _ | refine blk_drew ?_ | refine blk_alloc ?_ _)); exact BK329.out) hb); have n4_ := Aside0.mk (blk_below (g := gb330) (o := .cells #[.int .i64 a1_0, .string a1_1, .string a1_2, .slice A1_3 l1_3.length c1_3] 24 (0, 0)) (by (with_reducible repeat (first | refine blk_drewN ?_ _ | refine blk_drew ?_ | refine blk_alloc ?_ _)); exact BK330.out) hb); have n5_ := Aside0.mk (below_step (by repeat (first | (with_reducible first | exact HB.out | apply below_alloc | apply pw_below_drewN | apply below_drew1 | refine below_set ?_ GE329.out | refine below_set ?_ GE330.out) | exact HB.out)) hb); have n6_ := Aside0.mk (hbox); have n7_ := Aside0.mk ((by rw [hg]; exact (below_size (by repeat (first | (with_reducible first | exact HB.out | apply below_alloc | apply pw_below_drewN | apply below_drew1 | refine below_set ?_ GE329.out | refine below_set ?_ GE330.out) | exact HB.out))) : w.heap.size ≤ gb331)); have n8_ := Aside0.mk ((by rw [hg]; exact (below_size (by repeat (first | (with_reducible first | exact HB.out | apply below_alloc | apply pw_below_drewN | apply below_drew1 | refine below_set ?_ GE329.out | refine below_set ?_ GE330.out) | exact HB.out))) : w.heap.size ≤ gb331)); have n9_ := Aside0.mk ((by rw [hg]; exact Nat.ne_of_lt (blk_lt (g := gb329) (o := .cells #[.int .i64 a0_0, .string a0_1, .string a0_2, .slice A0_3 l0_3.length c0_3] 24 (0, 0)) (by (with_reducible repeat (first | refine blk_drewN ?_ _ | refine blk_drew ?_ | refine blk_alloc ?_ _)); exact BK329.out)) : gb329 ≠ gb331)); have n10_ := Aside0.mk ((by rw [hg]; exact Nat.ne_of_gt (blk_lt (g := gb329) (o := .cells #[.int .i64 a0_0, .string a0_1, .string a0_2, .slice A0_3 l0_3.length c0_3] 24 (0, 0)) (by (with_reducible repeat (first | refine blk_drewN ?_ _ | refine blk_drew ?_ | refine blk_alloc ?_ _)); exact BK329.out)) : gb331 ≠ gb329)); have n11_ := Aside0.mk ((by rw [hg]; exact Nat.ne_of_lt (blk_lt (g := gb330) (o := .cells #[.int .i64 a1_0, .string a1_1, .string a1_2, .slice A1_3 l1_3.length c1_3] 24 (0, 0)) (by (with_reducible repeat (first | refine blk_drewN ?_ _ | refine blk_drew ?_ | refine blk_alloc ?_ _)); exact BK330.out)) : gb330 ≠ gb331)); have n12_ := Aside0.mk ((by rw [hg]; exact Nat.ne_of_gt (blk_lt (g := gb330) (o := .cells #[.int .i64 a1_0, .string a1_1, .string a1_2, .slice A1_3 l1_3.length c1_3] 24 (0, 0)) (by (with_reducible repeat (first | refine blk_drewN ?_ _ | refine blk_drew ?_ | refine blk_alloc ?_ _)); exact BK330.out)) : gb331 ≠ gb330)); clear HO0_3; clear HO1_3; clear HO2_3; clear BK329; clear BK330; clear HB; have HO0_3 := n0_; have HO1_3 := n1_; have HO2_3 := n2_; have BK329 := n3_; have BK330 := n4_; have HB := n5_; have BK331 := n6_; have GW331 := n7_; have GE331 := n8_; have NB329_331 := n9_; have NB331_329 := n10_; have NB330_331 := n11_; have NB331_330 := n12_; clear n0_ n1_ n2_ n3_ n4_ n5_ n6_ n7_ n8_ n9_ n10_ n11_ n12_; clear hb hbox hg))
 (try simp only [Act.put, List.setIfInBounds_toArray, List.set_cons_zero, List.set_cons_succ])
 go_cut [21] (fun v21 wc => ∃ (kq : Nat) (x21_3 : Bool), v21 = .bool x21_3 ∧ Aside0 (scarflaw10_ShapeMarks.j0 kq x21_3 a0_0 a0_1 a0_2 l0_3 a1_0 a1_1 a1_2 l1_3 a2_0 a2_1 a2_2 l2_3 = some true) ∧ Aside0 (kq ≤ k) ∧ Aside0 (Kd.V k24 24 wc w.heap.size (fun k_ => ((P0_3_ k_ ∨ P1_3_ k_ ∨ P2_3_ k_) ∨ w.heap.size ≤ k_) ∧ k_ ≠ gb329 ∧ k_ ≠ gb330 ∧ k_ ≠ gb331) (.slice A0_3 l0_3.length c0_3) l0_3) ∧ Aside0 (Kd.V k24 24 wc w.heap.size (fun k_ => ((P0_3_ k_ ∨ P1_3_ k_ ∨ P2_3_ k_) ∨ w.heap.size ≤ k_) ∧ k_ ≠ gb329 ∧ k_ ≠ gb330 ∧ k_ ≠ gb331) (.slice A1_3 l1_3.length c1_3) l1_3) ∧ Aside0 (Kd.V k24 24 wc w.heap.size (fun k_ => ((P0_3_ k_ ∨ P1_3_ k_ ∨ P2_3_ k_) ∨ w.heap.size ≤ k_) ∧ k_ ≠ gb329 ∧ k_ ≠ gb330 ∧ k_ ≠ gb331) (.slice A2_3 l2_3.length c2_3) l2_3) ∧ Aside0 (wc.heap[gb329]? = some (.cells #[.int .i64 a0_0, .string a0_1, .string a0_2, (.slice A0_3 l0_3.length c0_3)] 24 (0, 0))) ∧ Aside0 (wc.heap[gb330]? = some (.cells #[.int .i64 a1_0, .string a1_1, .string a1_2, (.slice A1_3 l1_3.length c1_3)] 24 (0, 0))) ∧ Aside0 (wc.heap[gb331]? = some (.cells #[.int .i64 a2_0, .string a2_1, .string a2_2, (.slice A2_3 l2_3.length c2_3)] 24 (0, 0))) ∧ Aside0 (Below w.heap.size w wc))
 case first =>
  have H := HC4.out
  clear HC4
  replace H := Option.bind_eq_some_iff.mp H
  obtain ⟨t332, A80, H⟩ := H
  replace H : (if t332 = true then ((scarflaw10_few.f k a1_0 a1_1 a1_2 l1_3 150).bind fun t333 => (if t333 = true then ((scarflaw10_few.f k a2_0 a2_1 a2_2 l2_3 150).bind fun t334 => (scarflaw10_ShapeMarks.j0 k (!t334) a0_0 a0_1 a0_2 l0_3 a1_0 a1_1 a1_2 l1_3 a2_0 a2_1 a2_2 l2_3)) else (scarflaw10_ShapeMarks.j0 k true a0_0 a0_1 a0_2 l0_3 a1_0 a1_1 a1_2 l1_3 a2_0 a2_1 a2_2 l2_3))) else (scarflaw10_ShapeMarks.j0 k true a0_0 a0_1 a0_2 l0_3 a1_0 a1_1 a1_2 l1_3 a2_0 a2_1 a2_2 l2_3)) = some true := H
  have A8 := Aside0.mk A80
  clear A80
  by_cases c9 : t332 = true
  ·subst c9
   have H1 : ((scarflaw10_few.f k a1_0 a1_1 a1_2 l1_3 150).bind fun t333 => (if t333 = true then ((scarflaw10_few.f k a2_0 a2_1 a2_2 l2_3 150).bind fun t334 => (scarflaw10_ShapeMarks.j0 k (!t334) a0_0 a0_1 a0_2 l0_3 a1_0 a1_1 a1_2 l1_3 a2_0 a2_1 a2_2 l2_3)) else (scarflaw10_ShapeMarks.j0 k true a0_0 a0_1 a0_2 l0_3 a1_0 a1_1 a1_2 l1_3 a2_0 a2_1 a2_2 l2_3))) = some true := by first | with_reducible rfl | (rw [if_pos rfl] at H; exact H)
   clear H
   have H := H1
   clear H1
   replace H := Option.bind_eq_some_iff.mp H
   obtain ⟨t333, A100, H⟩ := H
   replace H : (if t333 = true then ((scarflaw10_few.f k a2_0 a2_1 a2_2 l2_3 150).bind fun t334 => (scarflaw10_ShapeMarks.j0 k (!t334) a0_0 a0_1 a0_2 l0_3 a1_0 a1_1 a1_2 l1_3 a2_0 a2_1 a2_2 l2_3)) else (scarflaw10_ShapeMarks.j0 k true a0_0 a0_1 a0_2 l0_3 a1_0 a1_1 a1_2 l1_3 a2_0 a2_1 a2_2 l2_3)) = some true := H
   have A10 := Aside0.mk A100
   clear A100
   by_cases c11 : t333 = true
   ·subst c11
    have H1 : ((scarflaw10_few.f k a2_0 a2_1 a2_2 l2_3 150).bind fun t334 => (scarflaw10_ShapeMarks.j0 k (!t334) a0_0 a0_1 a0_2 l0_3 a1_0 a1_1 a1_2 l1_3 a2_0 a2_1 a2_2 l2_3)) = some true := by first | with_reducible rfl | (rw [if_pos rfl] at H; exact H)
    clear H
    have H := H1
    clear H1
    replace H := Option.bind_eq_some_iff.mp H
    obtain ⟨t334, A120, H⟩ := H
    replace H : (scarflaw10_ShapeMarks.j0 k (!t334) a0_0 a0_1 a0_2 l0_3 a1_0 a1_1 a1_2 l1_3 a2_0 a2_1 a2_2 l2_3) = some true := H
    have A12 := Aside0.mk A120
    clear A120
    have H' := Aside0.mk H
    clear H
    have hnb13 := NB329_330.out
    have hnc13 := NB330_329.out
    have hnb14 := NB329_331.out
    have hnc14 := NB331_329.out
    have hcz15_0 : w7.cell? ⟨gb329, 0, none⟩ = some (.int .i64 a0_0) := (blk_cell BK329.out 0).trans rfl
    have hcz15_1 : w7.cell? ⟨gb329, 1, none⟩ = some (.string a0_1) := (blk_cell BK329.out 1).trans rfl
    have hcz15_2 : w7.cell? ⟨gb329, 2, none⟩ = some (.string a0_2) := (blk_cell BK329.out 2).trans rfl
    have hcz15_3 : w7.cell? ⟨gb329, 3, none⟩ = some (.slice A0_3 l0_3.length c0_3) := (blk_cell BK329.out 3).trans rfl
    have hfz15_0 := blk_frozen BK329.out 0
    have hfz15_1 := blk_frozen BK329.out 1
    have hfz15_2 := blk_frozen BK329.out 2
    have hfz15_3 := blk_frozen BK329.out 3
    go_wp2_with (first | ((with_reducible refine gate_callee (f := 8) rfl ?_); refine goesL_ (some 10) rfl rfl Tryd.func8 (by kernel_rfl) rfl #[.agg #[.int .i64 a0_0, .string a0_1, .string a0_2, .slice A0_3 l0_3.length c0_3], .int .i64 150] rfl (by (try simp only [List.map_toArray, List.map_cons, List.map_nil]); first | done | rfl | (simp only [List.length_drop, List.length_take]; rfl)) ?_; (with_reducible refine (scarflaw10_few.calls k a0_0 a0_1 a0_2 _ _ l0_3 150 true _ ?side1 ?side2 A8.out).mono ?_); (case side1 => repeat (first | exact (Kd.V_reads' HO0_3.out).2.2 | (with_reducible refine Kd.C_alloc ?_ _) | (with_reducible refine Kd.C_drewN ?_ _) | (with_reducible refine Kd.C_drew ?_))); (case side2 => exact (Kd.V_reads' HO0_3.out).2.1); rintro e w16 ⟨rfl, hb⟩; refine ⟨_, rfl, ?_⟩; have n0_ := Aside0.mk (Kd.V_below (by (with_reducible repeat (first | apply Kd.V_alloc | apply Kd.V_drewN | apply Kd.V_drew)); exact HO0_3.out) hb); have n1_ := Aside0.mk (Kd.V_below (by (with_reducible repeat (first | apply Kd.V_alloc | apply Kd.V_drewN | apply Kd.V_drew)); exact HO1_3.out) hb); have n2_ := Aside0.mk (Kd.V_below (by (with_reducible repeat (first | apply Kd.V_alloc | apply Kd.V_drewN | apply Kd.V_drew)); exact HO2_3.out) hb); have n3_ := Aside0.mk (blk_below (g := gb329) (o := .cells #[.int .i64 a0_0, .string a0_1, .string a0_2, .slice A0_3 l0_3.length c0_3] 24 (0, 0)) (by (with_reducible repeat (first | refine blk_drewN ?_ _ | refine blk_drew ?_ | refine blk_alloc ?_ _)); exact BK329.out) hb); have n4_ := Aside0.mk (blk_below (g := gb330) (o := .cells #[.int .i64 a1_0, .string a1_1, .string a1_2, .slice A1_3 l1_3.length c1_3] 24 (0, 0)) (by (with_reducible repeat (first | refine blk_drewN ?_ _ | refine blk_drew ?_ | refine blk_alloc ?_ _)); exact BK330.out) hb); have n5_ := Aside0.mk (blk_below (g := gb331) (o := .cells #[.int .i64 a2_0, .string a2_1, .string a2_2, .slice A2_3 l2_3.length c2_3] 24 (0, 0)) (by (with_reducible repeat (first | refine blk_drewN ?_ _ | refine blk_drew ?_ | refine blk_alloc ?_ _)); exact BK331.out) hb); have n6_ := Aside0.mk (below_step (by repeat (first | (with_reducible first | exact HB.out | apply below_alloc | apply pw_below_drewN | apply below_drew1 | refine below_set ?_ GE329.out | refine below_set ?_ GE330.out | refine below_set ?_ GE331.out) | exact HB.out)) hb); clear HO0_3; clear HO1_3; clear HO2_3; clear BK329; clear BK330; clear BK331; clear HB; have HO0_3 := n0_; have HO1_3 := n1_; have HO2_3 := n2_; have BK329 := n3_; have BK330 := n4_; have BK331 := n5_; have HB := n6_; clear n0_ n1_ n2_ n3_ n4_ n5_ n6_; (try clear hb); (try clear hb2); (try clear hk); (try clear hi); have hnb17 := NB330_331.out; have hnc17 := NB331_330.out; have hcz18_0 : w16.cell? ⟨gb330, 0, none⟩ = some (.int .i64 a1_0) := (blk_cell BK330.out 0).trans rfl; have hcz18_1 : w16.cell? ⟨gb330, 1, none⟩ = some (.string a1_1) := (blk_cell BK330.out 1).trans rfl; have hcz18_2 : w16.cell? ⟨gb330, 2, none⟩ = some (.string a1_2) := (blk_cell BK330.out 2).trans rfl; have hcz18_3 : w16.cell? ⟨gb330, 3, none⟩ = some (.slice A1_3 l1_3.length c1_3) := (blk_cell BK330.out 3).trans rfl; have hfz18_0 := blk_frozen BK330.out 0; have hfz18_1 := blk_frozen BK330.out 1; have hfz18_2 := blk_frozen BK330.out 2; have hfz18_3 := blk_frozen BK330.out 3) | (go_at_call 8; (with_reducible refine (scarflaw10_few.calls k a1_0 a1_1 a1_2 _ _ l1_3 150 true _ ?side1 ?side2 A10.out).mono ?_); (case side1 => repeat (first | exact (Kd.V_reads' HO1_3.out).2.2 | (with_reducible refine Kd.C_alloc ?_ _) | (with_reducible refine Kd.C_drewN ?_ _) | (with_reducible refine Kd.C_drew ?_))); (case side2 => exact (Kd.V_reads' HO1_3.out).2.1); rintro e w19 ⟨rfl, hb⟩; have n0_ := Aside0.mk (Kd.V_below (by (with_reducible repeat (first | apply Kd.V_alloc | apply Kd.V_drewN | apply Kd.V_drew)); exact HO0_3.out) hb); have n1_ := Aside0.mk (Kd.V_below (by (with_reducible repeat (first | apply Kd.V_alloc | apply Kd.V_drewN | apply Kd.V_drew)); exact HO1_3.out) hb); have n2_ := Aside0.mk (Kd.V_below (by (with_reducible repeat (first | apply Kd.V_alloc | apply Kd.V_drewN | apply Kd.V_drew)); exact HO2_3.out) hb); have n3_ := Aside0.mk (blk_below (g := gb329) (o := .cells #[.int .i64 a0_0, .string a0_1, .string a0_2, .slice A0_3 l0_3.length c0_3] 24 (0, 0)) (by (with_reducible repeat (first | refine blk_drewN ?_ _ | refine blk_drew ?_ | refine blk_alloc ?_ _)); exact BK329.out) hb); have n4_ := Aside0.mk (blk_below (g := gb330) (o := .cells #[.int .i64 a1_0, .string a1_1, .string a1_2, .slice A1_3 l1_3.length c1_3] 24 (0, 0)) (by (with_reducible repeat (first | refine blk_drewN ?_ _ | refine blk_drew ?_ | refine blk_alloc ?_ _)); exact BK330.out) hb); have n5_ := Aside0.mk (blk_below (g := gb331) (o := .cells #[.int .i64 a2_0, .string a2_1, .string a2_2, .slice A2_3 l2_3.length c2_3] 24 (0, 0)) (by (with_reducible repeat (first | refine blk_drewN ?_ _ | refine blk_drew ?_ | refine blk_alloc ?_ _)); exact BK331.out) hb); have n6_ := Aside0.mk (below_step (by repeat (first | (with_reducible first | exact HB.out | apply below_alloc | apply pw_below_drewN | apply below_drew1 | refine below_set ?_ GE329.out | refine below_set ?_ GE330.out | refine below_set ?_ GE331.out) | exact HB.out)) hb); clear HO0_3; clear HO1_3; clear HO2_3; clear BK329; clear BK330; clear BK331; clear HB; have HO0_3 := n0_; have HO1_3 := n1_; have HO2_3 := n2_; have BK329 := n3_; have BK330 := n4_; have BK331 := n5_; have HB := n6_; clear n0_ n1_ n2_ n3_ n4_ n5_ n6_; (try clear hb); (try clear hb2); (try clear hk); (try clear hi); have hcz20_0 : w19.cell? ⟨gb331, 0, none⟩ = some (.int .i64 a2_0) := (blk_cell BK331.out 0).trans rfl; have hcz20_1 : w19.cell? ⟨gb331, 1, none⟩ = some (.string a2_1) := (blk_cell BK331.out 1).trans rfl; have hcz20_2 : w19.cell? ⟨gb331, 2, none⟩ = some (.string a2_2) := (blk_cell BK331.out 2).trans rfl; have hcz20_3 : w19.cell? ⟨gb331, 3, none⟩ = some (.slice A2_3 l2_3.length c2_3) := (blk_cell BK331.out 3).trans rfl; have hfz20_0 := blk_frozen BK331.out 0; have hfz20_1 := blk_frozen BK331.out 1; have hfz20_2 := blk_frozen BK331.out 2; have hfz20_3 := blk_frozen BK331.out 3) | (go_at_call 8; (with_reducible refine (scarflaw10_few.calls k a2_0 a2_1 a2_2 _ _ l2_3 150 t334 _ ?side1 ?side2 A12.out).mono ?_); (case side1 => repeat (first | exact (Kd.V_reads' HO2_3.out).2.2 | (with_reducible refine Kd.C_alloc ?_ _) | (with_reducible refine Kd.C_drewN ?_ _) | (with_reducible refine Kd.C_drew ?_))); (case side2 => exact (Kd.V_reads' HO2_3.out).2.1); rintro e w21 ⟨rfl, hb⟩; have n0_ := Aside0.mk (Kd.V_below (by (with_reducible repeat (first | apply Kd.V_alloc | apply Kd.V_drewN | apply Kd.V_drew)); exact HO0_3.out) hb); have n1_ := Aside0.mk (Kd.V_below (by (with_reducible repeat (first | apply Kd.V_alloc | apply Kd.V_drewN | apply Kd.V_drew)); exact HO1_3.out) hb); have n2_ := Aside0.mk (Kd.V_below (by (with_reducible repeat (first | apply Kd.V_alloc | apply Kd.V_drewN | apply Kd.V_drew)); exact HO2_3.out) hb); have n3_ := Aside0.mk (blk_below (g := gb329) (o := .cells #[.int .i64 a0_0, .string a0_1, .string a0_2, .slice A0_3 l0_3.length c0_3] 24 (0, 0)) (by (with_reducible repeat (first | refine blk_drewN ?_ _ | refine blk_drew ?_ | refine blk_alloc ?_ _)); exact BK329.out) hb); have n4_ := Aside0.mk (blk_below (g := gb330) (o := .cells #[.int .i64 a1_0, .string a1_1, .string a1_2, .slice A1_3 l1_3.length c1_3] 24 (0, 0)) (by (with_reducible repeat (first | refine blk_drewN ?_ _ | refine blk_drew ?_ | refine blk_alloc ?_ _)); exact BK330.out) hb); have n5_ := Aside0.mk (blk_below (g := gb331) (o := .cells #[.int .i64 a2_0, .string a2_1, .string a2_2, .slice A2_3 l2_3.length c2_3] 24 (0, 0)) (by (with_reducible repeat (first | refine blk_drewN ?_ _ | refine blk_drew ?_ | refine blk_alloc ?_ _)); exact BK331.out) hb); have n6_ := Aside0.mk (below_step (by repeat (first | (with_reducible first | exact HB.out | apply below_alloc | apply pw_below_drewN | apply below_drew1 | refine below_set ?_ GE329.out | refine below_set ?_ GE330.out | refine below_set ?_ GE331.out) | exact HB.out)) hb); clear HO0_3; clear HO1_3; clear HO2_3; clear BK329; clear BK330; clear BK331; clear HB; have HO0_3 := n0_; have HO1_3 := n1_; have HO2_3 := n2_; have BK329 := n3_; have BK330 := n4_; have BK331 := n5_; have HB := n6_; clear n0_ n1_ n2_ n3_ n4_ n5_ n6_; (try clear hb); (try clear hb2); (try clear hk); (try clear hi)))
    go_meet
    case rel => exact ⟨_, (!t334), (by first | rfl | (simp; done) | (simp [*]; done)), H', ⟨by first | omega | exact Nat.le_refl _⟩, ⟨by (with_reducible repeat (first | apply Kd.V_alloc | apply Kd.V_drewN | apply Kd.V_drew)); exact Kd.V_mono HO0_3.out (fun _ hk => ⟨hk.1.1.1, ⟨hk.1.1.2, ⟨hk.1.2, hk.2⟩⟩⟩)⟩, ⟨by (with_reducible repeat (first | apply Kd.V_alloc | apply Kd.V_drewN | apply Kd.V_drew)); exact Kd.V_mono HO1_3.out (fun _ hk => ⟨hk.1.1.1, ⟨hk.1.1.2, ⟨hk.1.2, hk.2⟩⟩⟩)⟩, ⟨by (with_reducible repeat (first | apply Kd.V_alloc | apply Kd.V_drewN | apply Kd.V_drew)); exact Kd.V_mono HO2_3.out (fun _ hk => ⟨hk.1.1.1, ⟨hk.1.1.2, ⟨hk.1.2, hk.2⟩⟩⟩)⟩, ⟨by (with_reducible repeat (first | refine blk_drewN ?_ _ | refine blk_drew ?_ | refine blk_alloc ?_ _)); exact BK329.out⟩, ⟨by (with_reducible repeat (first | refine blk_drewN ?_ _ | refine blk_drew ?_ | refine blk_alloc ?_ _)); exact BK330.out⟩, ⟨by (with_reducible repeat (first | refine blk_drewN ?_ _ | refine blk_drew ?_ | refine blk_alloc ?_ _)); exact BK331.out⟩, ⟨by repeat (first | (with_reducible first | exact HB.out | apply below_alloc | apply pw_below_drewN | apply below_drew1 | refine below_set ?_ GE329.out | refine below_set ?_ GE330.out | refine below_set ?_ GE331.out) | exact HB.out)⟩⟩
   ·replace c11 := Bool.eq_false_iff.mpr c11
    subst c11
    have H1 : (scarflaw10_ShapeMarks.j0 k true a0_0 a0_1 a0_2 l0_3 a1_0 a1_1 a1_2 l1_3 a2_0 a2_1 a2_2 l2_3) = some true := by first | with_reducible rfl | (rw [if_neg (show ¬ (false = true) by decide)] at H; exact H)
    clear H
    have H := H1
    clear H1
    have H' := Aside0.mk H
    clear H
    have hnb22 := NB329_330.out
    have hnc22 := NB330_329.out
    have hnb23 := NB329_331.out
    have hnc23 := NB331_329.out
    have hcz24_0 : w7.cell? ⟨gb329, 0, none⟩ = some (.int .i64 a0_0) := (blk_cell BK329.out 0).trans rfl
    have hcz24_1 : w7.cell? ⟨gb329, 1, none⟩ = some (.string a0_1) := (blk_cell BK329.out 1).trans rfl
    have hcz24_2 : w7.cell? ⟨gb329, 2, none⟩ = some (.string a0_2) := (blk_cell BK329.out 2).trans rfl
    have hcz24_3 : w7.cell? ⟨gb329, 3, none⟩ = some (.slice A0_3 l0_3.length c0_3) := (blk_cell BK329.out 3).trans rfl
    have hfz24_0 := blk_frozen BK329.out 0
    have hfz24_1 := blk_frozen BK329.out 1
    have hfz24_2 := blk_frozen BK329.out 2
    have hfz24_3 := blk_frozen BK329.out 3
    go_wp2_with (first | ((with_reducible refine gate_callee (f := 8) rfl ?_); refine goesL_ (some 10) rfl rfl Tryd.func8 (by kernel_rfl) rfl #[.agg #[.int .i64 a0_0, .string a0_1, .string a0_2, .slice A0_3 l0_3.length c0_3], .int .i64 150] rfl (by (try simp only [List.map_toArray, List.map_cons, List.map_nil]); first | done | rfl | (simp only [List.length_drop, List.length_take]; rfl)) ?_; (with_reducible refine (scarflaw10_few.calls k a0_0 a0_1 a0_2 _ _ l0_3 150 true _ ?side1 ?side2 A8.out).mono ?_); (case side1 => repeat (first | exact (Kd.V_reads' HO0_3.out).2.2 | (with_reducible refine Kd.C_alloc ?_ _) | (with_reducible refine Kd.C_drewN ?_ _) | (with_reducible refine Kd.C_drew ?_))); (case side2 => exact (Kd.V_reads' HO0_3.out).2.1); rintro e w25 ⟨rfl, hb⟩; refine ⟨_, rfl, ?_⟩; have n0_ := Aside0.mk (Kd.V_below (by (with_reducible repeat (first | apply Kd.V_alloc | apply Kd.V_drewN | apply Kd.V_drew)); exact HO0_3.out) hb); have n1_ := Aside0.mk (Kd.V_below (by (with_reducible repeat (first | apply Kd.V_alloc | apply Kd.V_drewN | apply Kd.V_drew)); exact HO1_3.out) hb); have n2_ := Aside0.mk (Kd.V_below (by (with_reducible repeat (first | apply Kd.V_alloc | apply Kd.V_drewN | apply Kd.V_drew)); exact HO2_3.out) hb); have n3_ := Aside0.mk (blk_below (g := gb329) (o := .cells #[.int .i64 a0_0, .string a0_1, .string a0_2, .slice A0_3 l0_3.length c0_3] 24 (0, 0)) (by (with_reducible repeat (first | refine blk_drewN ?_ _ | refine blk_drew ?_ | refine blk_alloc ?_ _)); exact BK329.out) hb); have n4_ := Aside0.mk (blk_below (g := gb330) (o := .cells #[.int .i64 a1_0, .string a1_1, .string a1_2, .slice A1_3 l1_3.length c1_3] 24 (0, 0)) (by (with_reducible repeat (first | refine blk_drewN ?_ _ | refine blk_drew ?_ | refine blk_alloc ?_ _)); exact BK330.out) hb); have n5_ := Aside0.mk (blk_below (g := gb331) (o := .cells #[.int .i64 a2_0, .string a2_1, .string a2_2, .slice A2_3 l2_3.length c2_3] 24 (0, 0)) (by (with_reducible repeat (first | refine blk_drewN ?_ _ | refine blk_drew ?_ | refine blk_alloc ?_ _)); exact BK331.out) hb); have n6_ := Aside0.mk (below_step (by repeat (first | (with_reducible first | exact HB.out | apply below_alloc | apply pw_below_drewN | apply below_drew1 | refine below_set ?_ GE329.out | refine below_set ?_ GE330.out | refine below_set ?_ GE331.out) | exact HB.out)) hb); clear HO0_3; clear HO1_3; clear HO2_3; clear BK329; clear BK330; clear BK331; clear HB; have HO0_3 := n0_; have HO1_3 := n1_; have HO2_3 := n2_; have BK329 := n3_; have BK330 := n4_; have BK331 := n5_; have HB := n6_; clear n0_ n1_ n2_ n3_ n4_ n5_ n6_; (try clear hb); (try clear hb2); (try clear hk); (try clear hi); have hnb26 := NB330_331.out; have hnc26 := NB331_330.out; have hcz27_0 : w25.cell? ⟨gb330, 0, none⟩ = some (.int .i64 a1_0) := (blk_cell BK330.out 0).trans rfl; have hcz27_1 : w25.cell? ⟨gb330, 1, none⟩ = some (.string a1_1) := (blk_cell BK330.out 1).trans rfl; have hcz27_2 : w25.cell? ⟨gb330, 2, none⟩ = some (.string a1_2) := (blk_cell BK330.out 2).trans rfl; have hcz27_3 : w25.cell? ⟨gb330, 3, none⟩ = some (.slice A1_3 l1_3.length c1_3) := (blk_cell BK330.out 3).trans rfl; have hfz27_0 := blk_frozen BK330.out 0; have hfz27_1 := blk_frozen BK330.out 1; have hfz27_2 := blk_frozen BK330.out 2; have hfz27_3 := blk_frozen BK330.out 3) | (go_at_call 8; (with_reducible refine (scarflaw10_few.calls k a1_0 a1_1 a1_2 _ _ l1_3 150 false _ ?side1 ?side2 A10.out).mono ?_); (case side1 => repeat (first | exact (Kd.V_reads' HO1_3.out).2.2 | (with_reducible refine Kd.C_alloc ?_ _) | (with_reducible refine Kd.C_drewN ?_ _) | (with_reducible refine Kd.C_drew ?_))); (case side2 => exact (Kd.V_reads' HO1_3.out).2.1); rintro e w28 ⟨rfl, hb⟩; have n0_ := Aside0.mk (Kd.V_below (by (with_reducible repeat (first | apply Kd.V_alloc | apply Kd.V_drewN | apply Kd.V_drew)); exact HO0_3.out) hb); have n1_ := Aside0.mk (Kd.V_below (by (with_reducible repeat (first | apply Kd.V_alloc | apply Kd.V_drewN | apply Kd.V_drew)); exact HO1_3.out) hb); have n2_ := Aside0.mk (Kd.V_below (by (with_reducible repeat (first | apply Kd.V_alloc | apply Kd.V_drewN | apply Kd.V_drew)); exact HO2_3.out) hb); have n3_ := Aside0.mk (blk_below (g := gb329) (o := .cells #[.int .i64 a0_0, .string a0_1, .string a0_2, .slice A0_3 l0_3.length c0_3] 24 (0, 0)) (by (with_reducible repeat (first | refine blk_drewN ?_ _ | refine blk_drew ?_ | refine blk_alloc ?_ _)); exact BK329.out) hb); have n4_ := Aside0.mk (blk_below (g := gb330) (o := .cells #[.int .i64 a1_0, .string a1_1, .string a1_2, .slice A1_3 l1_3.length c1_3] 24 (0, 0)) (by (with_reducible repeat (first | refine blk_drewN ?_ _ | refine blk_drew ?_ | refine blk_alloc ?_ _)); exact BK330.out) hb); have n5_ := Aside0.mk (blk_below (g := gb331) (o := .cells #[.int .i64 a2_0, .string a2_1, .string a2_2, .slice A2_3 l2_3.length c2_3] 24 (0, 0)) (by (with_reducible repeat (first | refine blk_drewN ?_ _ | refine blk_drew ?_ | refine blk_alloc ?_ _)); exact BK331.out) hb); have n6_ := Aside0.mk (below_step (by repeat (first | (with_reducible first | exact HB.out | apply below_alloc | apply pw_below_drewN | apply below_drew1 | refine below_set ?_ GE329.out | refine below_set ?_ GE330.out | refine below_set ?_ GE331.out) | exact HB.out)) hb); clear HO0_3; clear HO1_3; clear HO2_3; clear BK329; clear BK330; clear BK331; clear HB; have HO0_3 := n0_; have HO1_3 := n1_; have HO2_3 := n2_; have BK329 := n3_; have BK330 := n4_; have BK331 := n5_; have HB := n6_; clear n0_ n1_ n2_ n3_ n4_ n5_ n6_; (try clear hb); (try clear hb2); (try clear hk); (try clear hi)))
    go_meet
    case rel => exact ⟨_, (true), (by first | rfl | (simp; done) | (simp [*]; done)), H', ⟨by first | omega | exact Nat.le_refl _⟩, ⟨by (with_reducible repeat (first | apply Kd.V_alloc | apply Kd.V_drewN | apply Kd.V_drew)); exact Kd.V_mono HO0_3.out (fun _ hk => ⟨hk.1.1.1, ⟨hk.1.1.2, ⟨hk.1.2, hk.2⟩⟩⟩)⟩, ⟨by (with_reducible repeat (first | apply Kd.V_alloc | apply Kd.V_drewN | apply Kd.V_drew)); exact Kd.V_mono HO1_3.out (fun _ hk => ⟨hk.1.1.1, ⟨hk.1.1.2, ⟨hk.1.2, hk.2⟩⟩⟩)⟩, ⟨by (with_reducible repeat (first | apply Kd.V_alloc | apply Kd.V_drewN | apply Kd.V_drew)); exact Kd.V_mono HO2_3.out (fun _ hk => ⟨hk.1.1.1, ⟨hk.1.1.2, ⟨hk.1.2, hk.2⟩⟩⟩)⟩, ⟨by (with_reducible repeat (first | refine blk_drewN ?_ _ | refine blk_drew ?_ | refine blk_alloc ?_ _)); exact BK329.out⟩, ⟨by (with_reducible repeat (first | refine blk_drewN ?_ _ | refine blk_drew ?_ | refine blk_alloc ?_ _)); exact BK330.out⟩, ⟨by (with_reducible repeat (first | refine blk_drewN ?_ _ | refine blk_drew ?_ | refine blk_alloc ?_ _)); exact BK331.out⟩, ⟨by repeat (first | (with_reducible first | exact HB.out | apply below_alloc | apply pw_below_drewN | apply below_drew1 | refine below_set ?_ GE329.out | refine below_set ?_ GE330.out | refine below_set ?_ GE331.out) | exact HB.out)⟩⟩
  ·replace c9 := Bool.eq_false_iff.mpr c9
   subst c9
   have H1 : (scarflaw10_ShapeMarks.j0 k true a0_0 a0_1 a0_2 l0_3 a1_0 a1_1 a1_2 l1_3 a2_0 a2_1 a2_2 l2_3) = some true := by first | with_reducible rfl | (rw [if_neg (show ¬ (false = true) by decide)] at H; exact H)
   clear H
   have H := H1
   clear H1
   have H' := Aside0.mk H
   clear H
   have hnb29 := NB329_330.out
   have hnc29 := NB330_329.out
   have hnb30 := NB329_331.out
   have hnc30 := NB331_329.out
   have hcz31_0 : w7.cell? ⟨gb329, 0, none⟩ = some (.int .i64 a0_0) := (blk_cell BK329.out 0).trans rfl
   have hcz31_1 : w7.cell? ⟨gb329, 1, none⟩ = some (.string a0_1) := (blk_cell BK329.out 1).trans rfl
   have hcz31_2 : w7.cell? ⟨gb329, 2, none⟩ = some (.string a0_2) := (blk_cell BK329.out 2).trans rfl
   have hcz31_3 : w7.cell? ⟨gb329, 3, none⟩ = some (.slice A0_3 l0_3.length c0_3) := (blk_cell BK329.out 3).trans rfl
   have hfz31_0 := blk_frozen BK329.out 0
   have hfz31_1 := blk_frozen BK329.out 1
   have hfz31_2 := blk_frozen BK329.out 2
   have hfz31_3 := blk_frozen BK329.out 3
   go_wp2_with (first | ((with_reducible refine gate_callee (f := 8) rfl ?_); refine goesL_ (some 10) rfl rfl Tryd.func8 (by kernel_rfl) rfl #[.agg #[.int .i64 a0_0, .string a0_1, .string a0_2, .slice A0_3 l0_3.length c0_3], .int .i64 150] rfl (by (try simp only [List.map_toArray, List.map_cons, List.map_nil]); first | done | rfl | (simp only [List.length_drop, List.length_take]; rfl)) ?_; (with_reducible refine (scarflaw10_few.calls k a0_0 a0_1 a0_2 _ _ l0_3 150 false _ ?side1 ?side2 A8.out).mono ?_); (case side1 => repeat (first | exact (Kd.V_reads' HO0_3.out).2.2 | (with_reducible refine Kd.C_alloc ?_ _) | (with_reducible refine Kd.C_drewN ?_ _) | (with_reducible refine Kd.C_drew ?_))); (case side2 => exact (Kd.V_reads' HO0_3.out).2.1); rintro e w32 ⟨rfl, hb⟩; refine ⟨_, rfl, ?_⟩; have n0_ := Aside0.mk (Kd.V_below (by (with_reducible repeat (first | apply Kd.V_alloc | apply Kd.V_drewN | apply Kd.V_drew)); exact HO0_3.out) hb); have n1_ := Aside0.mk (Kd.V_below (by (with_reducible repeat (first | apply Kd.V_alloc | apply Kd.V_drewN | apply Kd.V_drew)); exact HO1_3.out) hb); have n2_ := Aside0.mk (Kd.V_below (by (with_reducible repeat (first | apply Kd.V_alloc | apply Kd.V_drewN | apply Kd.V_drew)); exact HO2_3.out) hb); have n3_ := Aside0.mk (blk_below (g := gb329) (o := .cells #[.int .i64 a0_0, .string a0_1, .string a0_2, .slice A0_3 l0_3.length c0_3] 24 (0, 0)) (by (with_reducible repeat (first | refine blk_drewN ?_ _ | refine blk_drew ?_ | refine blk_alloc ?_ _)); exact BK329.out) hb); have n4_ := Aside0.mk (blk_below (g := gb330) (o := .cells #[.int .i64 a1_0, .string a1_1, .string a1_2, .slice A1_3 l1_3.length c1_3] 24 (0, 0)) (by (with_reducible repeat (first | refine blk_drewN ?_ _ | refine blk_drew ?_ | refine blk_alloc ?_ _)); exact BK330.out) hb); have n5_ := Aside0.mk (blk_below (g := gb331) (o := .cells #[.int .i64 a2_0, .string a2_1, .string a2_2, .slice A2_3 l2_3.length c2_3] 24 (0, 0)) (by (with_reducible repeat (first | refine blk_drewN ?_ _ | refine blk_drew ?_ | refine blk_alloc ?_ _)); exact BK331.out) hb); have n6_ := Aside0.mk (below_step (by repeat (first | (with_reducible first | exact HB.out | apply below_alloc | apply pw_below_drewN | apply below_drew1 | refine below_set ?_ GE329.out | refine below_set ?_ GE330.out | refine below_set ?_ GE331.out) | exact HB.out)) hb); clear HO0_3; clear HO1_3; clear HO2_3; clear BK329; clear BK330; clear BK331; clear HB; have HO0_3 := n0_; have HO1_3 := n1_; have HO2_3 := n2_; have BK329 := n3_; have BK330 := n4_; have BK331 := n5_; have HB := n6_; clear n0_ n1_ n2_ n3_ n4_ n5_ n6_; (try clear hb); (try clear hb2); (try clear hk); (try clear hi)))
   go_meet
   case rel => exact ⟨_, (true), (by first | rfl | (simp; done) | (simp [*]; done)), H', ⟨by first | omega | exact Nat.le_refl _⟩, ⟨by (with_reducible repeat (first | apply Kd.V_alloc | apply Kd.V_drewN | apply Kd.V_drew)); exact Kd.V_mono HO0_3.out (fun _ hk => ⟨hk.1.1.1, ⟨hk.1.1.2, ⟨hk.1.2, hk.2⟩⟩⟩)⟩, ⟨by (with_reducible repeat (first | apply Kd.V_alloc | apply Kd.V_drewN | apply Kd.V_drew)); exact Kd.V_mono HO1_3.out (fun _ hk => ⟨hk.1.1.1, ⟨hk.1.1.2, ⟨hk.1.2, hk.2⟩⟩⟩)⟩, ⟨by (with_reducible repeat (first | apply Kd.V_alloc | apply Kd.V_drewN | apply Kd.V_drew)); exact Kd.V_mono HO2_3.out (fun _ hk => ⟨hk.1.1.1, ⟨hk.1.1.2, ⟨hk.1.2, hk.2⟩⟩⟩)⟩, ⟨by (with_reducible repeat (first | refine blk_drewN ?_ _ | refine blk_drew ?_ | refine blk_alloc ?_ _)); exact BK329.out⟩, ⟨by (with_reducible repeat (first | refine blk_drewN ?_ _ | refine blk_drew ?_ | refine blk_alloc ?_ _)); exact BK330.out⟩, ⟨by (with_reducible repeat (first | refine blk_drewN ?_ _ | refine blk_drew ?_ | refine blk_alloc ?_ _)); exact BK331.out⟩, ⟨by repeat (first | (with_reducible first | exact HB.out | apply below_alloc | apply pw_below_drewN | apply below_drew1 | refine below_set ?_ GE329.out | refine below_set ?_ GE330.out | refine below_set ?_ GE331.out) | exact HB.out)⟩⟩
 case rest =>
  clear HC4
  try clear c1
  try clear c2
  try clear p2
  try clear c3
  try clear c4
  try clear c8
  try clear c9
  try clear c11
  try clear c13
  try clear c14
  try clear c17
  try clear c22
  try clear c23
  try clear c26
  try clear c29
  try clear c30
  try clear hcz15_0
  try clear hcz15_1
  try clear hcz15_2
  try clear hcz15_3
  try clear hcz18_0
  try clear hcz18_1
  try clear hcz18_2
  try clear hcz18_3
  try clear hcz20_0
  try clear hcz20_1
  try clear hcz20_2
  try clear hcz20_3
  try clear hcz24_0
  try clear hcz24_1
  try clear hcz24_2
  try clear hcz24_3
  try clear hcz27_0
  try clear hcz27_1
  try clear hcz27_2
  try clear hcz27_3
  try clear hcz31_0
  try clear hcz31_1
  try clear hcz31_2
  try clear hcz31_3
  try clear hfz15_0
  try clear hfz15_1
  try clear hfz15_2
  try clear hfz15_3
  try clear hfz18_0
  try clear hfz18_1
  try clear hfz18_2
  try clear hfz18_3
  try clear hfz20_0
  try clear hfz20_1
  try clear hfz20_2
  try clear hfz20_3
  try clear hfz24_0
  try clear hfz24_1
  try clear hfz24_2
  try clear hfz24_3
  try clear hfz27_0
  try clear hfz27_1
  try clear hfz27_2
  try clear hfz27_3
  try clear hfz31_0
  try clear hfz31_1
  try clear hfz31_2
  try clear hfz31_3
  obtain ⟨kq, x21_3, rfl, HA, HJ3, HO_330003, HO_331003, HO_332003, BK329, BK330, BK331, HB⟩ := hcut
  cases kq with
  | zero => exact absurd HA.out (by simp [scarflaw10_ShapeMarks.j0])
  | succ kj3 =>
   have H := HA.out
   clear HA
   simp only [scarflaw10_ShapeMarks.j0] at H
   by_cases c33 : x21_3 = true
   ·subst c33
    have H1 : ((scarflaw10_known.f kj3).bind fun t335 => (if t335 = true then (some true) else (some false))) = some true := by first | with_reducible rfl | (rw [if_pos rfl] at H; exact H)
    clear H
    have H := H1
    clear H1
    replace H := Option.bind_eq_some_iff.mp H
    obtain ⟨t335, A340, H⟩ := H
    replace H : (if t335 = true then (some true) else (some false)) = some true := H
    have A34 := Aside0.mk A340
    clear A340
    by_cases c35 : t335 = true
    ·subst c35
     have H1 : (some true) = some true := by first | with_reducible rfl | (rw [if_pos rfl] at H; exact H)
     clear H
     have H := H1
     clear H1
     go_wp2_with (first | ((with_reducible refine gate_callee (f := 9) rfl ?_); refine goesL_ (some 22) rfl rfl Tryd.func9 (by kernel_rfl) rfl #[] rfl (by (try simp only [List.map_toArray, List.map_cons, List.map_nil]); first | done | rfl | (simp only [List.length_drop, List.length_take]; rfl)) ?_; (with_reducible refine (scarflaw10_known.callsA kj3  true _ (tab_below HTAB.out (by repeat (first | (with_reducible first | exact HB.out | apply below_alloc | apply pw_below_drewN | apply below_drew1 | refine below_set ?_ GE329.out | refine below_set ?_ GE330.out | refine below_set ?_ GE331.out) | exact HB.out))) A34.out).mono ?_); rintro e w36 ⟨rfl, hb⟩; refine ⟨_, rfl, ?_⟩; have n0_ := Aside0.mk (Kd.V_below (by (with_reducible repeat (first | apply Kd.V_alloc | apply Kd.V_drewN | apply Kd.V_drew)); exact HO_330003.out) hb); have n1_ := Aside0.mk (Kd.V_below (by (with_reducible repeat (first | apply Kd.V_alloc | apply Kd.V_drewN | apply Kd.V_drew)); exact HO_331003.out) hb); have n2_ := Aside0.mk (Kd.V_below (by (with_reducible repeat (first | apply Kd.V_alloc | apply Kd.V_drewN | apply Kd.V_drew)); exact HO_332003.out) hb); have n3_ := Aside0.mk (blk_below (g := gb329) (o := .cells #[.int .i64 a0_0, .string a0_1, .string a0_2, .slice A0_3 l0_3.length c0_3] 24 (0, 0)) (by (with_reducible repeat (first | refine blk_drewN ?_ _ | refine blk_drew ?_ | refine blk_alloc ?_ _)); exact BK329.out) hb); have n4_ := Aside0.mk (blk_below (g := gb330) (o := .cells #[.int .i64 a1_0, .string a1_1, .string a1_2, .slice A1_3 l1_3.length c1_3] 24 (0, 0)) (by (with_reducible repeat (first | refine blk_drewN ?_ _ | refine blk_drew ?_ | refine blk_alloc ?_ _)); exact BK330.out) hb); have n5_ := Aside0.mk (blk_below (g := gb331) (o := .cells #[.int .i64 a2_0, .string a2_1, .string a2_2, .slice A2_3 l2_3.length c2_3] 24 (0, 0)) (by (with_reducible repeat (first | refine blk_drewN ?_ _ | refine blk_drew ?_ | refine blk_alloc ?_ _)); exact BK331.out) hb); have n6_ := Aside0.mk (below_step (by repeat (first | (with_reducible first | exact HB.out | apply below_alloc | apply pw_below_drewN | apply below_drew1 | refine below_set ?_ GE329.out | refine below_set ?_ GE330.out | refine below_set ?_ GE331.out) | exact HB.out)) hb); clear HO_330003; clear HO_331003; clear HO_332003; clear BK329; clear BK330; clear BK331; clear HB; have HO_330003 := n0_; have HO_331003 := n1_; have HO_332003 := n2_; have BK329 := n3_; have BK330 := n4_; have BK331 := n5_; have HB := n6_; clear n0_ n1_ n2_ n3_ n4_ n5_ n6_; (try clear hb); (try clear hb2); (try clear hk); (try clear hi)))
     go_ret
     exact ⟨by first | rfl | (simp [errW_none, errW_some] <;> rfl) | (simp [*, errW_none, errW_some] <;> rfl), by repeat (first | (with_reducible first | exact HB.out | apply below_alloc | apply pw_below_drewN | apply below_drew1 | refine below_set ?_ GE329.out | refine below_set ?_ GE330.out | refine below_set ?_ GE331.out) | exact HB.out)⟩
    ·replace c35 := Bool.eq_false_iff.mpr c35
     subst c35
     have H1 : (some false) = some true := by first | with_reducible rfl | (rw [if_neg (show ¬ (false = true) by decide)] at H; exact H)
     clear H
     have H := H1
     clear H1
     exact absurd H (by simp)
   ·replace c33 := Bool.eq_false_iff.mpr c33
    subst c33
    have H1 : ((shape_Marks.f (([(⟨a0_0, a0_1, a0_2, l0_3⟩ : S24), (⟨a1_0, a1_1, a1_2, l1_3⟩ : S24), (⟨a2_0, a2_1, a2_2, l2_3⟩ : S24)] : List (S24)))).bind fun t339 => ((scarfref10_Marks.f kj3 (([(⟨a0_0, a0_1, a0_2, l0_3⟩ : S24), (⟨a1_0, a1_1, a1_2, l1_3⟩ : S24), (⟨a2_0, a2_1, a2_2, l2_3⟩ : S24)] : List (S24))) 151).bind fun t345 => ((scarflaw10_known.f kj3).bind fun t348 => (if t348 = true then (if (t339.length : Int) = 3 then (if 0 < (t339.length : Int) then (if 0 < (t345.length : Int) then ((scarfref03_Same.f kj3 (rd_L3 t339 0) (rd_L3 t345 0)).bind fun t351 => (if t351 = true then (if 1 < (t339.length : Int) then (if 1 < (t345.length : Int) then ((scarfref03_Same.f kj3 (rd_L3 t339 1) (rd_L3 t345 1)).bind fun t354 => (if t354 = true then (if 2 < (t339.length : Int) then (if 2 < (t345.length : Int) then ((scarfref03_Same.f kj3 (rd_L3 t339 2) (rd_L3 t345 2)).bind fun t357 => (if t357 = true then (some true) else (some false))) else (none)) else (none)) else (some false))) else (none)) else (none)) else (some false))) else (none)) else (none)) else (some false)) else (some false))))) = some true := by first | with_reducible rfl | (rw [if_neg (show ¬ (false = true) by decide)] at H; exact H)
    clear H
    have H := H1
    clear H1
    obtain ⟨y336, hy336⟩ : ∃ y_ : List (S24), y_ = (([(⟨a0_0, a0_1, a0_2, l0_3⟩ : S24), (⟨a1_0, a1_1, a1_2, l1_3⟩ : S24), (⟨a2_0, a2_1, a2_2, l2_3⟩ : S24)] : List (S24))) := ⟨_, rfl⟩
    replace H : ((shape_Marks.f y336).bind fun t339 => ((scarfref10_Marks.f kj3 (([(⟨a0_0, a0_1, a0_2, l0_3⟩ : S24), (⟨a1_0, a1_1, a1_2, l1_3⟩ : S24), (⟨a2_0, a2_1, a2_2, l2_3⟩ : S24)] : List (S24))) 151).bind fun t345 => ((scarflaw10_known.f kj3).bind fun t348 => (if t348 = true then (if (t339.length : Int) = 3 then (if 0 < (t339.length : Int) then (if 0 < (t345.length : Int) then ((scarfref03_Same.f kj3 (rd_L3 t339 0) (rd_L3 t345 0)).bind fun t351 => (if t351 = true then (if 1 < (t339.length : Int) then (if 1 < (t345.length : Int) then ((scarfref03_Same.f kj3 (rd_L3 t339 1) (rd_L3 t345 1)).bind fun t354 => (if t354 = true then (if 2 < (t339.length : Int) then (if 2 < (t345.length : Int) then ((scarfref03_Same.f kj3 (rd_L3 t339 2) (rd_L3 t345 2)).bind fun t357 => (if t357 = true then (some true) else (some false))) else (none)) else (none)) else (some false))) else (none)) else (none)) else (some false))) else (none)) else (none)) else (some false)) else (some false))))) = some true := by first | (rw [hy336]; with_reducible exact H) | (have H2_ := (Option.bind_some _ _).symm.trans H; rw [hy336]; with_reducible exact H2_) | (have H2_ := (Option.bind_some _ _).symm.trans H; with_reducible exact H2_) | with_reducible exact H | (rw [hy336]; exact H) | exact H
    have Ny336 := Aside0.mk hy336
    clear hy336
    replace H := Option.bind_eq_some_iff.mp H
    obtain ⟨t339, A370, H⟩ := H
    replace H : ((scarfref10_Marks.f kj3 (([(⟨a0_0, a0_1, a0_2, l0_3⟩ : S24), (⟨a1_0, a1_1, a1_2, l1_3⟩ : S24), (⟨a2_0, a2_1, a2_2, l2_3⟩ : S24)] : List (S24))) 151).bind fun t345 => ((scarflaw10_known.f kj3).bind fun t348 => (if t348 = true then (if (t339.length : Int) = 3 then (if 0 < (t339.length : Int) then (if 0 < (t345.length : Int) then ((scarfref03_Same.f kj3 (rd_L3 t339 0) (rd_L3 t345 0)).bind fun t351 => (if t351 = true then (if 1 < (t339.length : Int) then (if 1 < (t345.length : Int) then ((scarfref03_Same.f kj3 (rd_L3 t339 1) (rd_L3 t345 1)).bind fun t354 => (if t354 = true then (if 2 < (t339.length : Int) then (if 2 < (t345.length : Int) then ((scarfref03_Same.f kj3 (rd_L3 t339 2) (rd_L3 t345 2)).bind fun t357 => (if t357 = true then (some true) else (some false))) else (none)) else (none)) else (some false))) else (none)) else (none)) else (some false))) else (none)) else (none)) else (some false)) else (some false)))) = some true := H
    have A37 := Aside0.mk A370
    clear A370
    obtain ⟨y342, hy342⟩ : ∃ y_ : List (S24), y_ = (([(⟨a0_0, a0_1, a0_2, l0_3⟩ : S24), (⟨a1_0, a1_1, a1_2, l1_3⟩ : S24), (⟨a2_0, a2_1, a2_2, l2_3⟩ : S24)] : List (S24))) := ⟨_, rfl⟩
    replace H : ((scarfref10_Marks.f kj3 y342 151).bind fun t345 => ((scarflaw10_known.f kj3).bind fun t348 => (if t348 = true then (if (t339.length : Int) = 3 then (if 0 < (t339.length : Int) then (if 0 < (t345.length : Int) then ((scarfref03_Same.f kj3 (rd_L3 t339 0) (rd_L3 t345 0)).bind fun t351 => (if t351 = true then (if 1 < (t339.length : Int) then (if 1 < (t345.length : Int) then ((scarfref03_Same.f kj3 (rd_L3 t339 1) (rd_L3 t345 1)).bind fun t354 => (if t354 = true then (if 2 < (t339.length : Int) then (if 2 < (t345.length : Int) then ((scarfref03_Same.f kj3 (rd_L3 t339 2) (rd_L3 t345 2)).bind fun t357 => (if t357 = true then (some true) else (some false))) else (none)) else (none)) else (some false))) else (none)) else (none)) else (some false))) else (none)) else (none)) else (some false)) else (some false)))) = some true := by first | (rw [hy342]; with_reducible exact H) | (have H2_ := (Option.bind_some _ _).symm.trans H; rw [hy342]; with_reducible exact H2_) | (have H2_ := (Option.bind_some _ _).symm.trans H; with_reducible exact H2_) | with_reducible exact H | (rw [hy342]; exact H) | exact H
    have Ny342 := Aside0.mk hy342
    clear hy342
    replace H := Option.bind_eq_some_iff.mp H
    obtain ⟨t345, A380, H⟩ := H
    replace H : ((scarflaw10_known.f kj3).bind fun t348 => (if t348 = true then (if (t339.length : Int) = 3 then (if 0 < (t339.length : Int) then (if 0 < (t345.length : Int) then ((scarfref03_Same.f kj3 (rd_L3 t339 0) (rd_L3 t345 0)).bind fun t351 => (if t351 = true then (if 1 < (t339.length : Int) then (if 1 < (t345.length : Int) then ((scarfref03_Same.f kj3 (rd_L3 t339 1) (rd_L3 t345 1)).bind fun t354 => (if t354 = true then (if 2 < (t339.length : Int) then (if 2 < (t345.length : Int) then ((scarfref03_Same.f kj3 (rd_L3 t339 2) (rd_L3 t345 2)).bind fun t357 => (if t357 = true then (some true) else (some false))) else (none)) else (none)) else (some false))) else (none)) else (none)) else (some false))) else (none)) else (none)) else (some false)) else (some false))) = some true := H
    have A38 := Aside0.mk A380
    clear A380
    replace H := Option.bind_eq_some_iff.mp H
    obtain ⟨t348, A390, H⟩ := H
    replace H : (if t348 = true then (if (t339.length : Int) = 3 then (if 0 < (t339.length : Int) then (if 0 < (t345.length : Int) then ((scarfref03_Same.f kj3 (rd_L3 t339 0) (rd_L3 t345 0)).bind fun t351 => (if t351 = true then (if 1 < (t339.length : Int) then (if 1 < (t345.length : Int) then ((scarfref03_Same.f kj3 (rd_L3 t339 1) (rd_L3 t345 1)).bind fun t354 => (if t354 = true then (if 2 < (t339.length : Int) then (if 2 < (t345.length : Int) then ((scarfref03_Same.f kj3 (rd_L3 t339 2) (rd_L3 t345 2)).bind fun t357 => (if t357 = true then (some true) else (some false))) else (none)) else (none)) else (some false))) else (none)) else (none)) else (some false))) else (none)) else (none)) else (some false)) else (some false)) = some true := H
    have A39 := Aside0.mk A390
    clear A390
    by_cases c40 : t348 = true
    ·subst c40
     have H1 : (if (t339.length : Int) = 3 then (if 0 < (t339.length : Int) then (if 0 < (t345.length : Int) then ((scarfref03_Same.f kj3 (rd_L3 t339 0) (rd_L3 t345 0)).bind fun t351 => (if t351 = true then (if 1 < (t339.length : Int) then (if 1 < (t345.length : Int) then ((scarfref03_Same.f kj3 (rd_L3 t339 1) (rd_L3 t345 1)).bind fun t354 => (if t354 = true then (if 2 < (t339.length : Int) then (if 2 < (t345.length : Int) then ((scarfref03_Same.f kj3 (rd_L3 t339 2) (rd_L3 t345 2)).bind fun t357 => (if t357 = true then (some true) else (some false))) else (none)) else (none)) else (some false))) else (none)) else (none)) else (some false))) else (none)) else (none)) else (some false)) = some true := by first | with_reducible rfl | (rw [if_pos rfl] at H; exact H)
     clear H
     have H := H1
     clear H1
     by_cases c41 : (t339.length : Int) = 3
     ·rw [if_pos c41] at H
      have c41b0 : ((t339.length : Int) == 3) = true := beq_iff_eq.mpr c41
      have c41b1 : ((t339.length : Int) != 3) = false := bne_eq_false_iff_eq.mpr c41
      clear c41
      by_cases c42 : 0 < (t339.length : Int)
      ·rw [if_pos c42] at H
       have c42b0 : decide (0 < (t339.length : Int)) = true := decide_eq_true c42
       have c42b1 : decide (0 < t339.length) = true := decide_eq_true (by omega)
       clear c42
       by_cases c43 : 0 < (t345.length : Int)
       ·rw [if_pos c43] at H
        have c43b0 : decide (0 < (t345.length : Int)) = true := decide_eq_true c43
        have c43b1 : decide (0 < t345.length) = true := decide_eq_true (by omega)
        clear c43
        replace H := Option.bind_eq_some_iff.mp H
        obtain ⟨t351, A440, H⟩ := H
        replace H : (if t351 = true then (if 1 < (t339.length : Int) then (if 1 < (t345.length : Int) then ((scarfref03_Same.f kj3 (rd_L3 t339 1) (rd_L3 t345 1)).bind fun t354 => (if t354 = true then (if 2 < (t339.length : Int) then (if 2 < (t345.length : Int) then ((scarfref03_Same.f kj3 (rd_L3 t339 2) (rd_L3 t345 2)).bind fun t357 => (if t357 = true then (some true) else (some false))) else (none)) else (none)) else (some false))) else (none)) else (none)) else (some false)) = some true := H
        have A44 := Aside0.mk A440
        clear A440
        by_cases c45 : t351 = true
        ·subst c45
         have H1 : (if 1 < (t339.length : Int) then (if 1 < (t345.length : Int) then ((scarfref03_Same.f kj3 (rd_L3 t339 1) (rd_L3 t345 1)).bind fun t354 => (if t354 = true then (if 2 < (t339.length : Int) then (if 2 < (t345.length : Int) then ((scarfref03_Same.f kj3 (rd_L3 t339 2) (rd_L3 t345 2)).bind fun t357 => (if t357 = true then (some true) else (some false))) else (none)) else (none)) else (some false))) else (none)) else (none)) = some true := by first | with_reducible rfl | (rw [if_pos rfl] at H; exact H)
         clear H
         have H := H1
         clear H1
         by_cases c46 : 1 < (t339.length : Int)
         ·rw [if_pos c46] at H
          have c46b0 : decide (1 < (t339.length : Int)) = true := decide_eq_true c46
          have c46b1 : decide (1 < t339.length) = true := decide_eq_true (by omega)
          clear c46
          by_cases c47 : 1 < (t345.length : Int)
          ·rw [if_pos c47] at H
           have c47b0 : decide (1 < (t345.length : Int)) = true := decide_eq_true c47
           have c47b1 : decide (1 < t345.length) = true := decide_eq_true (by omega)
           clear c47
           replace H := Option.bind_eq_some_iff.mp H
           obtain ⟨t354, A480, H⟩ := H
           replace H : (if t354 = true then (if 2 < (t339.length : Int) then (if 2 < (t345.length : Int) then ((scarfref03_Same.f kj3 (rd_L3 t339 2) (rd_L3 t345 2)).bind fun t357 => (if t357 = true then (some true) else (some false))) else (none)) else (none)) else (some false)) = some true := H
           have A48 := Aside0.mk A480
           clear A480
           by_cases c49 : t354 = true
           ·subst c49
            have H1 : (if 2 < (t339.length : Int) then (if 2 < (t345.length : Int) then ((scarfref03_Same.f kj3 (rd_L3 t339 2) (rd_L3 t345 2)).bind fun t357 => (if t357 = true then (some true) else (some false))) else (none)) else (none)) = some true := by first | with_reducible rfl | (rw [if_pos rfl] at H; exact H)
            clear H
            have H := H1
            clear H1
            by_cases c50 : 2 < (t339.length : Int)
            ·rw [if_pos c50] at H
             have c50b0 : decide (2 < (t339.length : Int)) = true := decide_eq_true c50
             have c50b1 : decide (2 < t339.length) = true := decide_eq_true (by omega)
             clear c50
             by_cases c51 : 2 < (t345.length : Int)
             ·rw [if_pos c51] at H
              have c51b0 : decide (2 < (t345.length : Int)) = true := decide_eq_true c51
              have c51b1 : decide (2 < t345.length) = true := decide_eq_true (by omega)
              clear c51
              replace H := Option.bind_eq_some_iff.mp H
              obtain ⟨t357, A520, H⟩ := H
              replace H : (if t357 = true then (some true) else (some false)) = some true := H
              have A52 := Aside0.mk A520
              clear A520
              by_cases c53 : t357 = true
              ·subst c53
               have H1 : (some true) = some true := by first | with_reducible rfl | (rw [if_pos rfl] at H; exact H)
               clear H
               have H := H1
               clear H1
               try go_wp2
               have n0_ := Aside0.mk (Kd.V_drew HO_330003.out)
               have n1_ := Aside0.mk (Kd.V_drew HO_331003.out)
               have n2_ := Aside0.mk (Kd.V_drew HO_332003.out)
               have n3_ := Aside0.mk (blk_drew BK329.out)
               have n4_ := Aside0.mk (blk_drew BK330.out)
               have n5_ := Aside0.mk (blk_drew BK331.out)
               have n6_ := Aside0.mk (below_drew1 HB.out)
               clear HO_330003
               clear HO_331003
               clear HO_332003
               clear BK329
               clear BK330
               clear BK331
               clear HB
               have HO_330003 := n0_
               have HO_331003 := n1_
               have HO_332003 := n2_
               have BK329 := n3_
               have BK330 := n4_
               have BK331 := n5_
               have HB := n6_
               clear n0_ n1_ n2_ n3_ n4_ n5_ n6_
               refine start_ (n := 12) (S := fun w' => True) (ds := []) #[false, false, false, false, false, false, false, false, false, false, false, false] (by kernel_rfl) rfl rfl trivial (fun hHeld => ?_); refine with_tabW scarflaw10_ShapeMarks.tab3 scarflaw10_ShapeMarks.bits3 (fun HT_ HW_ => ?_)
               generalize wc.drew = w54 at HO_330003 HO_331003 HO_332003 BK329 BK330 BK331 HB hHeld ⊢
               refine inv_at [0, 1, 2, 3, 4, 5, 6, 7, 8, 9, 10, 11] (fun a0_ b a w' => ∃ (v337 : Value) (v340 : Value) (v343 : Value) (v346 : Value) (m10_ : Value) (m11_ : Value), a = putSel a0_ b [(0, 23, .agg #[.int .i64 a0_0, .string a0_1, .string a0_2, .slice A0_3 l0_3.length c0_3]), (1, 24, .agg #[.int .i64 a1_0, .string a1_1, .string a1_2, .slice A1_3 l1_3.length c1_3]), (2, 25, .agg #[.int .i64 a2_0, .string a2_1, .string a2_2, .slice A2_3 l2_3.length c2_3]), (3, 26, v337), (4, 27, v340), (5, 28, .agg #[.int .i64 a0_0, .string a0_1, .string a0_2, .slice A0_3 l0_3.length c0_3]), (6, 29, .agg #[.int .i64 a1_0, .string a1_1, .string a1_2, .slice A1_3 l1_3.length c1_3]), (7, 30, .agg #[.int .i64 a2_0, .string a2_1, .string a2_2, .slice A2_3 l2_3.length c2_3]), (8, 31, v343), (9, 32, v346), (10, 7, m10_), (11, 8, m11_)] ∧ (Kd.V k24 24 w' w.heap.size (fun k_ => ((P0_3_ k_ ∨ P1_3_ k_ ∨ P2_3_ k_) ∨ w.heap.size ≤ k_) ∧ k_ ≠ gb329 ∧ k_ ≠ gb330 ∧ k_ ≠ gb331) (.slice A0_3 l0_3.length c0_3) l0_3) ∧ (Kd.V k24 24 w' w.heap.size (fun k_ => ((P0_3_ k_ ∨ P1_3_ k_ ∨ P2_3_ k_) ∨ w.heap.size ≤ k_) ∧ k_ ≠ gb329 ∧ k_ ≠ gb330 ∧ k_ ≠ gb331) (.slice A1_3 l1_3.length c1_3) l1_3) ∧ (Kd.V k24 24 w' w.heap.size (fun k_ => ((P0_3_ k_ ∨ P1_3_ k_ ∨ P2_3_ k_) ∨ w.heap.size ≤ k_) ∧ k_ ≠ gb329 ∧ k_ ≠ gb330 ∧ k_ ≠ gb331) (.slice A2_3 l2_3.length c2_3) l2_3) ∧ (w'.heap[gb329]? = some (.cells #[.int .i64 a0_0, .string a0_1, .string a0_2, .slice A0_3 l0_3.length c0_3] 24 (0, 0))) ∧ (w'.heap[gb330]? = some (.cells #[.int .i64 a1_0, .string a1_1, .string a1_2, .slice A1_3 l1_3.length c1_3] 24 (0, 0))) ∧ (w'.heap[gb331]? = some (.cells #[.int .i64 a2_0, .string a2_1, .string a2_2, .slice A2_3 l2_3.length c2_3] 24 (0, 0))) ∧ (Below w.heap.size w w') ∧ (b 3 = true → Kd.N k24 24 w' w.heap.size (fun k_ => ((P0_3_ k_ ∨ P1_3_ k_ ∨ P2_3_ k_) ∨ w.heap.size ≤ k_) ∧ k_ ≠ gb329 ∧ k_ ≠ gb330 ∧ k_ ≠ gb331) v337 y336) ∧ (b 4 = true → Kd.N (Kd.slice 3 (Kd.int .i64)) 27 w' w.heap.size (fun k_ => ((P0_3_ k_ ∨ P1_3_ k_ ∨ P2_3_ k_) ∨ w.heap.size ≤ k_) ∧ k_ ≠ gb329 ∧ k_ ≠ gb330 ∧ k_ ≠ gb331) v340 t339) ∧ (b 8 = true → Kd.N k24 24 w' w.heap.size (fun k_ => ((P0_3_ k_ ∨ P1_3_ k_ ∨ P2_3_ k_) ∨ w.heap.size ≤ k_) ∧ k_ ≠ gb329 ∧ k_ ≠ gb330 ∧ k_ ≠ gb331) v343 y342) ∧ (b 9 = true → Kd.N (Kd.slice 3 (Kd.int .i64)) 27 w' w.heap.size (fun k_ => ((P0_3_ k_ ∨ P1_3_ k_ ∨ P2_3_ k_) ∨ w.heap.size ≤ k_) ∧ k_ ≠ gb329 ∧ k_ ≠ gb330 ∧ k_ ≠ gb331) v346 t345) ∧ (b 10 = true → (m10_ : Value) = v340) ∧ (b 11 = true → (m11_ : Value) = v346)) HT_.out HW_.out (by kernel_rfl) (by kernel_rfl) ?_ ?_ ?_
               ·exact ⟨.bool false, .bool false, .bool false, .bool false, .bool false, .bool false, by simp only [putSel, Bool.false_eq_true, if_false], HO_330003.out, HO_331003.out, HO_332003.out, BK329.out, BK330.out, BK331.out, HB.out, fun h_ => absurd h_ (by decide), fun h_ => absurd h_ (by decide), fun h_ => absurd h_ (by decide), fun h_ => absurd h_ (by decide), fun h_ => absurd h_ (by decide), fun h_ => absurd h_ (by decide)⟩
               ·skip
                clear BK329 BK330 BK331 HB HO_330003 HO_331003 HO_332003
                refine steps_cons ?_ ?_
                ·rintro b a w' ⟨v337, v340, v343, v346, m10_, m11_, ha, Q_HO_330003, Q_HO_331003, Q_HO_332003, Q_BK329, Q_BK330, Q_BK331, Q_HB, Q_HO338, Q_HO341, Q_HO344, Q_HO347, Q_X10_, Q_X11_⟩ hb_ hon hoff
                 refine ⟨_, rfl, fun K hK => ?_⟩
                 have e3 : a.tmps[3]? = some (.pointer (some ⟨gb329, 0, none⟩)) := by rw [ha]; exact (putSel_off rfl).trans rfl
                 replace ha := Aside0.mk ha
                 have HO_330003 := Aside0.mk Q_HO_330003
                 have HO_331003 := Aside0.mk Q_HO_331003
                 have HO_332003 := Aside0.mk Q_HO_332003
                 have BK329 := Aside0.mk Q_BK329
                 have BK330 := Aside0.mk Q_BK330
                 have BK331 := Aside0.mk Q_BK331
                 have HB := Aside0.mk Q_HB
                 have hc0_ : w'.cell? ⟨gb329, 0, none⟩ = some (.int .i64 a0_0) := (blk_cell BK329.out 0).trans rfl
                 have hc1_ : w'.cell? ⟨gb329, 1, none⟩ = some (.string a0_1) := (blk_cell BK329.out 1).trans rfl
                 have hc2_ : w'.cell? ⟨gb329, 2, none⟩ = some (.string a0_2) := (blk_cell BK329.out 2).trans rfl
                 have hc3_ : w'.cell? ⟨gb329, 3, none⟩ = some (.slice A0_3 l0_3.length c0_3) := (blk_cell BK329.out 3).trans rfl
                 refine value_ (w1 := w') (v := .agg #[.int .i64 a0_0, .string a0_1, .string a0_2, .slice A0_3 l0_3.length c0_3]) (by rfl) rfl ?_ ?_
                 ·go_simp
                  (try simp only [i64_w])
                  try rfl
                 refine hK.out _ _ ⟨v337, v340, v343, v346, m10_, m11_, (by rw [ha.out]; exact putSel_upk 0 hb_ rfl rfl rfl), Q_HO_330003, Q_HO_331003, Q_HO_332003, Q_BK329, Q_BK330, Q_BK331, Q_HB, fun h0_ => absurd ((hoff 3 (by kernel_rfl)).symm.trans h0_) (by decide), fun h0_ => absurd ((hoff 4 (by kernel_rfl)).symm.trans h0_) (by decide), Q_HO344, fun h0_ => absurd ((hoff 9 (by kernel_rfl)).symm.trans h0_) (by decide), fun h0_ => absurd ((hoff 10 (by kernel_rfl)).symm.trans h0_) (by decide), fun h0_ => absurd ((hoff 11 (by kernel_rfl)).symm.trans h0_) (by decide)⟩
                refine steps_cons ?_ ?_
                ·rintro b a w' ⟨v337, v340, v343, v346, m10_, m11_, ha, Q_HO_330003, Q_HO_331003, Q_HO_332003, Q_BK329, Q_BK330, Q_BK331, Q_HB, Q_HO338, Q_HO341, Q_HO344, Q_HO347, Q_X10_, Q_X11_⟩ hb_ hon hoff
                 refine ⟨_, rfl, fun K hK => ?_⟩
                 have e4 : a.tmps[4]? = some (.pointer (some ⟨gb330, 0, none⟩)) := by rw [ha]; exact (putSel_off rfl).trans rfl
                 replace ha := Aside0.mk ha
                 have HO_330003 := Aside0.mk Q_HO_330003
                 have HO_331003 := Aside0.mk Q_HO_331003
                 have HO_332003 := Aside0.mk Q_HO_332003
                 have BK329 := Aside0.mk Q_BK329
                 have BK330 := Aside0.mk Q_BK330
                 have BK331 := Aside0.mk Q_BK331
                 have HB := Aside0.mk Q_HB
                 have hc0_ : w'.cell? ⟨gb330, 0, none⟩ = some (.int .i64 a1_0) := (blk_cell BK330.out 0).trans rfl
                 have hc1_ : w'.cell? ⟨gb330, 1, none⟩ = some (.string a1_1) := (blk_cell BK330.out 1).trans rfl
                 have hc2_ : w'.cell? ⟨gb330, 2, none⟩ = some (.string a1_2) := (blk_cell BK330.out 2).trans rfl
                 have hc3_ : w'.cell? ⟨gb330, 3, none⟩ = some (.slice A1_3 l1_3.length c1_3) := (blk_cell BK330.out 3).trans rfl
                 refine value_ (w1 := w') (v := .agg #[.int .i64 a1_0, .string a1_1, .string a1_2, .slice A1_3 l1_3.length c1_3]) (by rfl) rfl ?_ ?_
                 ·go_simp
                  (try simp only [i64_w])
                  try rfl
                 refine hK.out _ _ ⟨v337, v340, v343, v346, m10_, m11_, (by rw [ha.out]; exact putSel_upk 1 hb_ rfl rfl rfl), Q_HO_330003, Q_HO_331003, Q_HO_332003, Q_BK329, Q_BK330, Q_BK331, Q_HB, fun h0_ => absurd ((hoff 3 (by kernel_rfl)).symm.trans h0_) (by decide), fun h0_ => absurd ((hoff 4 (by kernel_rfl)).symm.trans h0_) (by decide), Q_HO344, fun h0_ => absurd ((hoff 9 (by kernel_rfl)).symm.trans h0_) (by decide), fun h0_ => absurd ((hoff 10 (by kernel_rfl)).symm.trans h0_) (by decide), fun h0_ => absurd ((hoff 11 (by kernel_rfl)).symm.trans h0_) (by decide)⟩
                refine steps_cons ?_ ?_
                ·rintro b a w' ⟨v337, v340, v343, v346, m10_, m11_, ha, Q_HO_330003, Q_HO_331003, Q_HO_332003, Q_BK329, Q_BK330, Q_BK331, Q_HB, Q_HO338, Q_HO341, Q_HO344, Q_HO347, Q_X10_, Q_X11_⟩ hb_ hon hoff
                 refine ⟨_, rfl, fun K hK => ?_⟩
                 have e5 : a.tmps[5]? = some (.pointer (some ⟨gb331, 0, none⟩)) := by rw [ha]; exact (putSel_off rfl).trans rfl
                 replace ha := Aside0.mk ha
                 have HO_330003 := Aside0.mk Q_HO_330003
                 have HO_331003 := Aside0.mk Q_HO_331003
                 have HO_332003 := Aside0.mk Q_HO_332003
                 have BK329 := Aside0.mk Q_BK329
                 have BK330 := Aside0.mk Q_BK330
                 have BK331 := Aside0.mk Q_BK331
                 have HB := Aside0.mk Q_HB
                 have hc0_ : w'.cell? ⟨gb331, 0, none⟩ = some (.int .i64 a2_0) := (blk_cell BK331.out 0).trans rfl
                 have hc1_ : w'.cell? ⟨gb331, 1, none⟩ = some (.string a2_1) := (blk_cell BK331.out 1).trans rfl
                 have hc2_ : w'.cell? ⟨gb331, 2, none⟩ = some (.string a2_2) := (blk_cell BK331.out 2).trans rfl
                 have hc3_ : w'.cell? ⟨gb331, 3, none⟩ = some (.slice A2_3 l2_3.length c2_3) := (blk_cell BK331.out 3).trans rfl
                 refine value_ (w1 := w') (v := .agg #[.int .i64 a2_0, .string a2_1, .string a2_2, .slice A2_3 l2_3.length c2_3]) (by rfl) rfl ?_ ?_
                 ·go_simp
                  (try simp only [i64_w])
                  try rfl
                 refine hK.out _ _ ⟨v337, v340, v343, v346, m10_, m11_, (by rw [ha.out]; exact putSel_upk 2 hb_ rfl rfl rfl), Q_HO_330003, Q_HO_331003, Q_HO_332003, Q_BK329, Q_BK330, Q_BK331, Q_HB, fun h0_ => absurd ((hoff 3 (by kernel_rfl)).symm.trans h0_) (by decide), fun h0_ => absurd ((hoff 4 (by kernel_rfl)).symm.trans h0_) (by decide), Q_HO344, fun h0_ => absurd ((hoff 9 (by kernel_rfl)).symm.trans h0_) (by decide), fun h0_ => absurd ((hoff 10 (by kernel_rfl)).symm.trans h0_) (by decide), fun h0_ => absurd ((hoff 11 (by kernel_rfl)).symm.trans h0_) (by decide)⟩
                refine steps_cons ?_ ?_
                ·rintro b a w' ⟨v337, v340, v343, v346, m10_, m11_, ha, Q_HO_330003, Q_HO_331003, Q_HO_332003, Q_BK329, Q_BK330, Q_BK331, Q_HB, Q_HO338, Q_HO341, Q_HO344, Q_HO347, Q_X10_, Q_X11_⟩ hb_ hon hoff
                 refine ⟨_, rfl, fun K hK => ?_⟩
                 have e23 : a.tmps[23]? = some (.agg #[.int .i64 a0_0, .string a0_1, .string a0_2, .slice A0_3 l0_3.length c0_3]) := by rw [ha]; exact putSel_on (e := (0, 23, .agg #[.int .i64 a0_0, .string a0_1, .string a0_2, .slice A0_3 l0_3.length c0_3])) 0 rfl rfl (hon 0 (by kernel_rfl)) rfl
                 have e24 : a.tmps[24]? = some (.agg #[.int .i64 a1_0, .string a1_1, .string a1_2, .slice A1_3 l1_3.length c1_3]) := by rw [ha]; exact putSel_on (e := (1, 24, .agg #[.int .i64 a1_0, .string a1_1, .string a1_2, .slice A1_3 l1_3.length c1_3])) 1 rfl rfl (hon 1 (by kernel_rfl)) rfl
                 have e25 : a.tmps[25]? = some (.agg #[.int .i64 a2_0, .string a2_1, .string a2_2, .slice A2_3 l2_3.length c2_3]) := by rw [ha]; exact putSel_on (e := (2, 25, .agg #[.int .i64 a2_0, .string a2_1, .string a2_2, .slice A2_3 l2_3.length c2_3])) 2 rfl rfl (hon 2 (by kernel_rfl)) rfl
                 replace ha := Aside0.mk ha
                 have HO_330003 := Aside0.mk Q_HO_330003
                 have HO_331003 := Aside0.mk Q_HO_331003
                 have HO_332003 := Aside0.mk Q_HO_332003
                 have BK329 := Aside0.mk Q_BK329
                 have BK330 := Aside0.mk Q_BK330
                 have BK331 := Aside0.mk Q_BK331
                 have HB := Aside0.mk Q_HB
                 refine Kd.N_lit_step k24 _ 24 ?hg (N' := 26) ?hd (xs := ([(⟨a0_0, a0_1, a0_2, l0_3⟩ : S24), (⟨a1_0, a1_1, a1_2, l1_3⟩ : S24), (⟨a2_0, a2_1, a2_2, l2_3⟩ : S24)] : List (S24))) (inner := [.int .i64 a0_0, .string a0_1, .string a0_2, .slice A0_3 l0_3.length c0_3, .int .i64 a1_0, .string a1_1, .string a1_2, .slice A1_3 l1_3.length c1_3, .int .i64 a2_0, .string a2_1, .string a2_2, .slice A2_3 l2_3.length c2_3]) (ok := (fun k_ => ((P0_3_ k_ ∨ P1_3_ k_ ∨ P2_3_ k_) ∨ w.heap.size ≤ k_) ∧ k_ ≠ gb329 ∧ k_ ≠ gb330 ∧ k_ ≠ gb331)) (okp := (fun k_ => ((P0_3_ k_ ∨ P1_3_ k_ ∨ P2_3_ k_) ∨ w.heap.size ≤ k_) ∧ k_ ≠ gb329 ∧ k_ ≠ gb330 ∧ k_ ≠ gb331)) ?hr ?hp (fun _ hk => hk) ((show ∀ k_, w'.heap.size ≤ k_ → (fun k_ => ((P0_3_ k_ ∨ P1_3_ k_ ∨ P2_3_ k_) ∨ w.heap.size ≤ k_) ∧ k_ ≠ gb329 ∧ k_ ≠ gb330 ∧ k_ ≠ gb331) k_ from fun k_ hk => ⟨(.inr (Nat.le_trans (below_size (by repeat (first | (with_reducible first | exact HB.out | apply below_alloc | apply pw_below_drewN | apply below_drew1 | refine below_set ?_ GE329.out | refine below_set ?_ GE330.out | refine below_set ?_ GE331.out) | exact HB.out))) hk)), Kd.freshB (g := gb329) (o := .cells #[.int .i64 a0_0, .string a0_1, .string a0_2, .slice A0_3 l0_3.length c0_3] 24 (0, 0)) (by (with_reducible repeat (first | refine blk_drewN ?_ _ | refine blk_drew ?_ | refine blk_alloc ?_ _)); exact BK329.out) k_ hk, Kd.freshB (g := gb330) (o := .cells #[.int .i64 a1_0, .string a1_1, .string a1_2, .slice A1_3 l1_3.length c1_3] 24 (0, 0)) (by (with_reducible repeat (first | refine blk_drewN ?_ _ | refine blk_drew ?_ | refine blk_alloc ?_ _)); exact BK330.out) k_ hk, Kd.freshB (g := gb331) (o := .cells #[.int .i64 a2_0, .string a2_1, .string a2_2, .slice A2_3 l2_3.length c2_3] 24 (0, 0)) (by (with_reducible repeat (first | refine blk_drewN ?_ _ | refine blk_drew ?_ | refine blk_alloc ?_ _)); exact BK331.out) k_ hk⟩) _ (Nat.le_refl _)) (Below.refl _ _) (Nat.le_refl _) (by simp) ?_; (case hd => rfl); (case hg => rfl); (case hr => first | (go_simp; done) | (go_simp; rfl)); (case hp => exact (Reps.c4 (show Kd.FK k24 _ _ (⟨a0_0, a0_1, a0_2, l0_3⟩ : S24) [.int .i64 a0_0, .string a0_1, .string a0_2, .slice A0_3 l0_3.length c0_3] from (k24_mkF _ _ (⟨a0_0, a0_1, a0_2, l0_3⟩ : S24) (Kd.V_reads' (Kd.V_mono (ok' := (fun k_ => ((P0_3_ k_ ∨ P1_3_ k_ ∨ P2_3_ k_) ∨ w.heap.size ≤ k_) ∧ k_ ≠ gb329 ∧ k_ ≠ gb330 ∧ k_ ≠ gb331)) (HO_330003.out) (fun k_ hk => ⟨hk.1, ⟨hk.2.1, ⟨hk.2.2.1, hk.2.2.2⟩⟩⟩))).2.1 (Kd.V_F (Kd.V_mono (ok' := (fun k_ => ((P0_3_ k_ ∨ P1_3_ k_ ∨ P2_3_ k_) ∨ w.heap.size ≤ k_) ∧ k_ ≠ gb329 ∧ k_ ≠ gb330 ∧ k_ ≠ gb331)) (HO_330003.out) (fun k_ hk => ⟨hk.1, ⟨hk.2.1, ⟨hk.2.2.1, hk.2.2.2⟩⟩⟩))))) (Reps.c4 (show Kd.FK k24 _ _ (⟨a1_0, a1_1, a1_2, l1_3⟩ : S24) [.int .i64 a1_0, .string a1_1, .string a1_2, .slice A1_3 l1_3.length c1_3] from (k24_mkF _ _ (⟨a1_0, a1_1, a1_2, l1_3⟩ : S24) (Kd.V_reads' (Kd.V_mono (ok' := (fun k_ => ((P0_3_ k_ ∨ P1_3_ k_ ∨ P2_3_ k_) ∨ w.heap.size ≤ k_) ∧ k_ ≠ gb329 ∧ k_ ≠ gb330 ∧ k_ ≠ gb331)) (HO_331003.out) (fun k_ hk => ⟨hk.1, ⟨hk.2.1, ⟨hk.2.2.1, hk.2.2.2⟩⟩⟩))).2.1 (Kd.V_F (Kd.V_mono (ok' := (fun k_ => ((P0_3_ k_ ∨ P1_3_ k_ ∨ P2_3_ k_) ∨ w.heap.size ≤ k_) ∧ k_ ≠ gb329 ∧ k_ ≠ gb330 ∧ k_ ≠ gb331)) (HO_331003.out) (fun k_ hk => ⟨hk.1, ⟨hk.2.1, ⟨hk.2.2.1, hk.2.2.2⟩⟩⟩))))) (Reps.c4 (show Kd.FK k24 _ _ (⟨a2_0, a2_1, a2_2, l2_3⟩ : S24) [.int .i64 a2_0, .string a2_1, .string a2_2, .slice A2_3 l2_3.length c2_3] from (k24_mkF _ _ (⟨a2_0, a2_1, a2_2, l2_3⟩ : S24) (Kd.V_reads' (Kd.V_mono (ok' := (fun k_ => ((P0_3_ k_ ∨ P1_3_ k_ ∨ P2_3_ k_) ∨ w.heap.size ≤ k_) ∧ k_ ≠ gb329 ∧ k_ ≠ gb330 ∧ k_ ≠ gb331)) (HO_332003.out) (fun k_ hk => ⟨hk.1, ⟨hk.2.1, ⟨hk.2.2.1, hk.2.2.2⟩⟩⟩))).2.1 (Kd.V_F (Kd.V_mono (ok' := (fun k_ => ((P0_3_ k_ ∨ P1_3_ k_ ∨ P2_3_ k_) ∨ w.heap.size ≤ k_) ∧ k_ ≠ gb329 ∧ k_ ≠ gb330 ∧ k_ ≠ gb331)) (HO_332003.out) (fun k_ hk => ⟨hk.1, ⟨hk.2.1, ⟨hk.2.2.1, hk.2.2.2⟩⟩⟩))))) (Reps.none _ _)))))
                 intro v337 w55 ho56 hb hg_ hnew_
                 clear hg_ hnew_
                 (first | rw [← Ny336.out] at ho56 | (simp only [Int.reduceToNat] at ho56; rw [← Ny336.out] at ho56))
                 have n0_ := Aside0.mk (Kd.V_elder' (by (with_reducible repeat (first | apply Kd.V_alloc | apply Kd.V_drewN | apply Kd.V_drew)); exact HO_330003.out) (Kd.N_base ho56) hb)
                 have n1_ := Aside0.mk (Kd.V_elder' (by (with_reducible repeat (first | apply Kd.V_alloc | apply Kd.V_drewN | apply Kd.V_drew)); exact HO_331003.out) (Kd.N_base ho56) hb)
                 have n2_ := Aside0.mk (Kd.V_elder' (by (with_reducible repeat (first | apply Kd.V_alloc | apply Kd.V_drewN | apply Kd.V_drew)); exact HO_332003.out) (Kd.N_base ho56) hb)
                 have n3_ := Aside0.mk (Kd.N_lower ho56 (below_size (by repeat (first | (with_reducible first | exact HB.out | apply below_alloc | apply pw_below_drewN | apply below_drew1 | refine below_set ?_ GE329.out | refine below_set ?_ GE330.out | refine below_set ?_ GE331.out) | exact HB.out))))
                 have n4_ := Aside0.mk (blk_below (g := gb329) (o := .cells #[.int .i64 a0_0, .string a0_1, .string a0_2, .slice A0_3 l0_3.length c0_3] 24 (0, 0)) (by (with_reducible repeat (first | refine blk_drewN ?_ _ | refine blk_drew ?_ | refine blk_alloc ?_ _)); exact BK329.out) hb)
                 have n5_ := Aside0.mk (blk_below (g := gb330) (o := .cells #[.int .i64 a1_0, .string a1_1, .string a1_2, .slice A1_3 l1_3.length c1_3] 24 (0, 0)) (by (with_reducible repeat (first | refine blk_drewN ?_ _ | refine blk_drew ?_ | refine blk_alloc ?_ _)); exact BK330.out) hb)
                 have n6_ := Aside0.mk (blk_below (g := gb331) (o := .cells #[.int .i64 a2_0, .string a2_1, .string a2_2, .slice A2_3 l2_3.length c2_3] 24 (0, 0)) (by (with_reducible repeat (first | refine blk_drewN ?_ _ | refine blk_drew ?_ | refine blk_alloc ?_ _)); exact BK331.out) hb)
                 have n7_ := Aside0.mk (below_step (by repeat (first | (with_reducible first | exact HB.out | apply below_alloc | apply pw_below_drewN | apply below_drew1 | refine below_set ?_ GE329.out | refine below_set ?_ GE330.out | refine below_set ?_ GE331.out) | exact HB.out)) hb)
                 have z_HO344 := fun (h0_ : b 8 = true) => (show Kd.N k24 24 w55 w.heap.size (fun k_ => ((P0_3_ k_ ∨ P1_3_ k_ ∨ P2_3_ k_) ∨ w.heap.size ≤ k_) ∧ k_ ≠ gb329 ∧ k_ ≠ gb330 ∧ k_ ≠ gb331) v343 y342 from by first | exact (Kd.N_elder' (by (with_reducible repeat (first | apply Kd.N_alloc | apply Kd.N_drewN | apply Kd.N_drew)); exact (Q_HO344 h0_)) (Kd.N_base ho56) hb) | exact Kd.N_mono (Kd.N_elder' (by (with_reducible repeat (first | apply Kd.N_alloc | apply Kd.N_drewN | apply Kd.N_drew)); exact (Q_HO344 h0_)) (Kd.N_base ho56) hb) (fun _ h_ => by first | trivial | exact h_ | exact h_.1))
                 clear HO_330003
                 clear HO_331003
                 clear HO_332003
                 clear BK329
                 clear BK330
                 clear BK331
                 clear HB
                 have HO_330003 := n0_
                 have HO_331003 := n1_
                 have HO_332003 := n2_
                 have HO338 := n3_
                 have BK329 := n4_
                 have BK330 := n5_
                 have BK331 := n6_
                 have HB := n7_
                 clear n0_ n1_ n2_ n3_ n4_ n5_ n6_ n7_
                 clear hb ho56
                 refine hK.out _ _ ⟨v337, v340, v343, v346, m10_, m11_, (by rw [ha.out]; exact putSel_upk 3 hb_ rfl rfl rfl), (by (with_reducible repeat (first | apply Kd.V_alloc | apply Kd.V_drewN | apply Kd.V_drew)); exact Kd.V_mono HO_330003.out (fun _ hk => ⟨hk.1.1, ⟨hk.1.2.1, ⟨hk.1.2.2.1, hk.1.2.2.2⟩⟩⟩)), (by (with_reducible repeat (first | apply Kd.V_alloc | apply Kd.V_drewN | apply Kd.V_drew)); exact Kd.V_mono HO_331003.out (fun _ hk => ⟨hk.1.1, ⟨hk.1.2.1, ⟨hk.1.2.2.1, hk.1.2.2.2⟩⟩⟩)), (by (with_reducible repeat (first | apply Kd.V_alloc | apply Kd.V_drewN | apply Kd.V_drew)); exact Kd.V_mono HO_332003.out (fun _ hk => ⟨hk.1.1, ⟨hk.1.2.1, ⟨hk.1.2.2.1, hk.1.2.2.2⟩⟩⟩)), (by (with_reducible repeat (first | refine blk_drewN ?_ _ | refine blk_drew ?_ | refine blk_alloc ?_ _)); exact BK329.out), (by (with_reducible repeat (first | refine blk_drewN ?_ _ | refine blk_drew ?_ | refine blk_alloc ?_ _)); exact BK330.out), (by (with_reducible repeat (first | refine blk_drewN ?_ _ | refine blk_drew ?_ | refine blk_alloc ?_ _)); exact BK331.out), (by repeat (first | (with_reducible first | exact HB.out | apply below_alloc | apply pw_below_drewN | apply below_drew1 | refine below_set ?_ GE329.out | refine below_set ?_ GE330.out | refine below_set ?_ GE331.out) | exact HB.out)), fun _ => (by (with_reducible repeat (first | apply Kd.N_alloc | apply Kd.N_drewN | apply Kd.N_drew)); exact HO338.out), fun h0_ => absurd ((hoff 4 (by kernel_rfl)).symm.trans h0_) (by decide), z_HO344, fun h0_ => absurd ((hoff 9 (by kernel_rfl)).symm.trans h0_) (by decide), fun h0_ => absurd ((hoff 10 (by kernel_rfl)).symm.trans h0_) (by decide), fun h0_ => absurd ((hoff 11 (by kernel_rfl)).symm.trans h0_) (by decide)⟩
                refine steps_cons ?_ ?_
                ·rintro b a w' ⟨v337, v340, v343, v346, m10_, m11_, ha, Q_HO_330003, Q_HO_331003, Q_HO_332003, Q_BK329, Q_BK330, Q_BK331, Q_HB, Q_HO338, Q_HO341, Q_HO344, Q_HO347, Q_X10_, Q_X11_⟩ hb_ hon hoff
                 refine ⟨_, rfl, fun K hK => ?_⟩
                 have e26 : a.tmps[26]? = some (v337) := by rw [ha]; exact putSel_on (e := (3, 26, v337)) 3 rfl rfl (hon 3 (by kernel_rfl)) rfl
                 replace ha := Aside0.mk ha
                 have HO_330003 := Aside0.mk Q_HO_330003
                 have HO_331003 := Aside0.mk Q_HO_331003
                 have HO_332003 := Aside0.mk Q_HO_332003
                 have BK329 := Aside0.mk Q_BK329
                 have BK330 := Aside0.mk Q_BK330
                 have BK331 := Aside0.mk Q_BK331
                 have HB := Aside0.mk Q_HB
                 have HO338 := Aside0.mk (Q_HO338 (hon 3 (by kernel_rfl)))
                 obtain ⟨Ao58, co58, eo58⟩ := Kd.N_slice HO338.out
                 (first | subst eo58 | (injection eo58 with f1_ f2_ f3_; have f4_ := f1_.symm; have f5_ := f3_.symm; clear f1_ f2_ f3_; subst f4_; subst f5_))
                 refine goes_ Tryd.func15 (by kernel_rfl) rfl #[.slice Ao58 y336.length co58] (by rfl) rfl rfl (by first | (simp only [List.map_toArray, List.map_cons, List.map_nil, Act.eval, Array.getD_eq_getD_getElem?, Option.getD_some, e26]; done) | (simp only [List.map_toArray, List.map_cons, List.map_nil, Act.eval, Array.getD_eq_getD_getElem?, Option.getD_some, e26]; rfl)) ?_
                 with_reducible refine (shape_Marks.calls _ _ y336 t339 _ (tab_below HTAB.out (by repeat (first | (with_reducible first | exact HB.out | apply below_alloc | apply pw_below_drewN | apply below_drew1 | refine below_set ?_ GE329.out | refine below_set ?_ GE330.out | refine below_set ?_ GE331.out) | exact HB.out))) ?side1 ?side2 A37.out).mono ?_
                 (case side1 => repeat (first | exact (Kd.N_reads' HO338.out).2.2 | exact (Kd.V_reads' HO338.out).2.2 | (with_reducible refine Kd.C_alloc ?_ _) | (with_reducible refine Kd.C_drewN ?_ _) | (with_reducible refine Kd.C_drew ?_)))
                 (case side2 => first | exact (Kd.N_reads' HO338.out).2.1 | exact (Kd.V_reads' HO338.out).2.1)
                 rintro e w59 ⟨v340, rfl, ho0, hb⟩
                 refine ⟨_, rfl, ?_⟩
                 have n0_ := Aside0.mk (Kd.V_elder' (by (with_reducible repeat (first | apply Kd.V_alloc | apply Kd.V_drewN | apply Kd.V_drew)); exact HO_330003.out) (Kd.S_base ho0) hb)
                 have n1_ := Aside0.mk (Kd.V_elder' (by (with_reducible repeat (first | apply Kd.V_alloc | apply Kd.V_drewN | apply Kd.V_drew)); exact HO_331003.out) (Kd.S_base ho0) hb)
                 have n2_ := Aside0.mk (Kd.V_elder' (by (with_reducible repeat (first | apply Kd.V_alloc | apply Kd.V_drewN | apply Kd.V_drew)); exact HO_332003.out) (Kd.S_base ho0) hb)
                 have n3_ := Aside0.mk (Kd.N_elder' (by (with_reducible repeat (first | apply Kd.N_alloc | apply Kd.N_drewN | apply Kd.N_drew)); exact HO338.out) (Kd.S_base ho0) hb)
                 have n4_ := Aside0.mk (Kd.N_lower (Kd.N_mono (ok' := fun k_ => ((P0_3_ k_ ∨ P1_3_ k_ ∨ P2_3_ k_) ∨ w.heap.size ≤ k_) ∧ some k_ ≠ (.slice Ao58 y336.length co58 : Value).ownBlock ∧ k_ ≠ gb329 ∧ k_ ≠ gb330 ∧ k_ ≠ gb331) (Kd.S_N (Kd.S_bound ho0)) (fun k_ hk_ => ⟨(.inr (Nat.le_trans (below_size (by repeat (first | (with_reducible first | exact HB.out | apply below_alloc | apply pw_below_drewN | apply below_drew1 | refine below_set ?_ GE329.out | refine below_set ?_ GE330.out | refine below_set ?_ GE331.out) | exact HB.out))) hk_.2.1)), (Kd.fresh' (Kd.N_lt (by (with_reducible repeat (first | apply Kd.N_alloc | apply Kd.N_drewN | apply Kd.N_drew)); exact HO338.out)) k_ hk_.2.1), (Kd.freshB (g := gb329) (o := .cells #[.int .i64 a0_0, .string a0_1, .string a0_2, .slice A0_3 l0_3.length c0_3] 24 (0, 0)) (by (with_reducible repeat (first | refine blk_drewN ?_ _ | refine blk_drew ?_ | refine blk_alloc ?_ _)); exact BK329.out) k_ hk_.2.1), (Kd.freshB (g := gb330) (o := .cells #[.int .i64 a1_0, .string a1_1, .string a1_2, .slice A1_3 l1_3.length c1_3] 24 (0, 0)) (by (with_reducible repeat (first | refine blk_drewN ?_ _ | refine blk_drew ?_ | refine blk_alloc ?_ _)); exact BK330.out) k_ hk_.2.1), (Kd.freshB (g := gb331) (o := .cells #[.int .i64 a2_0, .string a2_1, .string a2_2, .slice A2_3 l2_3.length c2_3] 24 (0, 0)) (by (with_reducible repeat (first | refine blk_drewN ?_ _ | refine blk_drew ?_ | refine blk_alloc ?_ _)); exact BK331.out) k_ hk_.2.1)⟩)) (below_size (by repeat (first | (with_reducible first | exact HB.out | apply below_alloc | apply pw_below_drewN | apply below_drew1 | refine below_set ?_ GE329.out | refine below_set ?_ GE330.out | refine below_set ?_ GE331.out) | exact HB.out))))
                 have n5_ := Aside0.mk (blk_below (g := gb329) (o := .cells #[.int .i64 a0_0, .string a0_1, .string a0_2, .slice A0_3 l0_3.length c0_3] 24 (0, 0)) (by (with_reducible repeat (first | refine blk_drewN ?_ _ | refine blk_drew ?_ | refine blk_alloc ?_ _)); exact BK329.out) hb)
                 have n6_ := Aside0.mk (blk_below (g := gb330) (o := .cells #[.int .i64 a1_0, .string a1_1, .string a1_2, .slice A1_3 l1_3.length c1_3] 24 (0, 0)) (by (with_reducible repeat (first | refine blk_drewN ?_ _ | refine blk_drew ?_ | refine blk_alloc ?_ _)); exact BK330.out) hb)
                 have n7_ := Aside0.mk (blk_below (g := gb331) (o := .cells #[.int .i64 a2_0, .string a2_1, .string a2_2, .slice A2_3 l2_3.length c2_3] 24 (0, 0)) (by (with_reducible repeat (first | refine blk_drewN ?_ _ | refine blk_drew ?_ | refine blk_alloc ?_ _)); exact BK331.out) hb)
                 have n8_ := Aside0.mk (below_step (by repeat (first | (with_reducible first | exact HB.out | apply below_alloc | apply pw_below_drewN | apply below_drew1 | refine below_set ?_ GE329.out | refine below_set ?_ GE330.out | refine below_set ?_ GE331.out) | exact HB.out)) hb)
                 have z_HO344 := fun (h0_ : b 8 = true) => (show Kd.N k24 24 w59 w.heap.size (fun k_ => ((P0_3_ k_ ∨ P1_3_ k_ ∨ P2_3_ k_) ∨ w.heap.size ≤ k_) ∧ k_ ≠ gb329 ∧ k_ ≠ gb330 ∧ k_ ≠ gb331) v343 y342 from by first | exact (Kd.N_elder' (by (with_reducible repeat (first | apply Kd.N_alloc | apply Kd.N_drewN | apply Kd.N_drew)); exact (Q_HO344 h0_)) (Kd.S_base ho0) hb) | exact Kd.N_mono (Kd.N_elder' (by (with_reducible repeat (first | apply Kd.N_alloc | apply Kd.N_drewN | apply Kd.N_drew)); exact (Q_HO344 h0_)) (Kd.S_base ho0) hb) (fun _ h_ => by first | trivial | exact h_ | exact h_.1))
                 clear HO_330003
                 clear HO_331003
                 clear HO_332003
                 clear HO338
                 clear BK329
                 clear BK330
                 clear BK331
                 clear HB
                 have HO_330003 := n0_
                 have HO_331003 := n1_
                 have HO_332003 := n2_
                 have HO338 := n3_
                 have HO341 := n4_
                 have BK329 := n5_
                 have BK330 := n6_
                 have BK331 := n7_
                 have HB := n8_
                 clear n0_ n1_ n2_ n3_ n4_ n5_ n6_ n7_ n8_
                 (try clear hb)
                 (try clear hb2)
                 (try clear hk)
                 (try clear hi)
                 (try clear ho0)
                 refine hK.out _ _ ⟨.slice Ao58 y336.length co58, v340, v343, v346, m10_, m11_, (by rw [ha.out]; exact putSel_upk 4 hb_ rfl rfl rfl), (by (with_reducible repeat (first | apply Kd.V_alloc | apply Kd.V_drewN | apply Kd.V_drew)); exact Kd.V_mono HO_330003.out (fun _ hk => ⟨hk.1.1, ⟨hk.1.2.1, ⟨hk.1.2.2.1, hk.1.2.2.2⟩⟩⟩)), (by (with_reducible repeat (first | apply Kd.V_alloc | apply Kd.V_drewN | apply Kd.V_drew)); exact Kd.V_mono HO_331003.out (fun _ hk => ⟨hk.1.1, ⟨hk.1.2.1, ⟨hk.1.2.2.1, hk.1.2.2.2⟩⟩⟩)), (by (with_reducible repeat (first | apply Kd.V_alloc | apply Kd.V_drewN | apply Kd.V_drew)); exact Kd.V_mono HO_332003.out (fun _ hk => ⟨hk.1.1, ⟨hk.1.2.1, ⟨hk.1.2.2.1, hk.1.2.2.2⟩⟩⟩)), (by (with_reducible repeat (first | refine blk_drewN ?_ _ | refine blk_drew ?_ | refine blk_alloc ?_ _)); exact BK329.out), (by (with_reducible repeat (first | refine blk_drewN ?_ _ | refine blk_drew ?_ | refine blk_alloc ?_ _)); exact BK330.out), (by (with_reducible repeat (first | refine blk_drewN ?_ _ | refine blk_drew ?_ | refine blk_alloc ?_ _)); exact BK331.out), (by repeat (first | (with_reducible first | exact HB.out | apply below_alloc | apply pw_below_drewN | apply below_drew1 | refine below_set ?_ GE329.out | refine below_set ?_ GE330.out | refine below_set ?_ GE331.out) | exact HB.out)), fun _ => (by (with_reducible repeat (first | apply Kd.N_alloc | apply Kd.N_drewN | apply Kd.N_drew)); exact Kd.N_mono HO338.out (fun _ hk => ⟨hk.1.1, ⟨hk.1.2.1, ⟨hk.1.2.2.1, hk.1.2.2.2⟩⟩⟩)), fun _ => (by (with_reducible repeat (first | apply Kd.N_alloc | apply Kd.N_drewN | apply Kd.N_drew)); exact Kd.N_mono HO341.out (fun _ hk => ⟨hk.1, ⟨hk.2.2.1, ⟨hk.2.2.2.1, hk.2.2.2.2⟩⟩⟩)), z_HO344, fun h0_ => absurd ((hoff 9 (by kernel_rfl)).symm.trans h0_) (by decide), fun h0_ => absurd ((hoff 10 (by kernel_rfl)).symm.trans h0_) (by decide), fun h0_ => absurd ((hoff 11 (by kernel_rfl)).symm.trans h0_) (by decide)⟩
                refine steps_cons ?_ ?_
                ·rintro b a w' ⟨v337, v340, v343, v346, m10_, m11_, ha, Q_HO_330003, Q_HO_331003, Q_HO_332003, Q_BK329, Q_BK330, Q_BK331, Q_HB, Q_HO338, Q_HO341, Q_HO344, Q_HO347, Q_X10_, Q_X11_⟩ hb_ hon hoff
                 refine ⟨_, rfl, fun K hK => ?_⟩
                 have e3 : a.tmps[3]? = some (.pointer (some ⟨gb329, 0, none⟩)) := by rw [ha]; exact (putSel_off rfl).trans rfl
                 replace ha := Aside0.mk ha
                 have HO_330003 := Aside0.mk Q_HO_330003
                 have HO_331003 := Aside0.mk Q_HO_331003
                 have HO_332003 := Aside0.mk Q_HO_332003
                 have BK329 := Aside0.mk Q_BK329
                 have BK330 := Aside0.mk Q_BK330
                 have BK331 := Aside0.mk Q_BK331
                 have HB := Aside0.mk Q_HB
                 have hc0_ : w'.cell? ⟨gb329, 0, none⟩ = some (.int .i64 a0_0) := (blk_cell BK329.out 0).trans rfl
                 have hc1_ : w'.cell? ⟨gb329, 1, none⟩ = some (.string a0_1) := (blk_cell BK329.out 1).trans rfl
                 have hc2_ : w'.cell? ⟨gb329, 2, none⟩ = some (.string a0_2) := (blk_cell BK329.out 2).trans rfl
                 have hc3_ : w'.cell? ⟨gb329, 3, none⟩ = some (.slice A0_3 l0_3.length c0_3) := (blk_cell BK329.out 3).trans rfl
                 refine value_ (w1 := w') (v := .agg #[.int .i64 a0_0, .string a0_1, .string a0_2, .slice A0_3 l0_3.length c0_3]) (by rfl) rfl ?_ ?_
                 ·go_simp
                  (try simp only [i64_w])
                  try rfl
                 refine hK.out _ _ ⟨v337, v340, v343, v346, m10_, m11_, (by rw [ha.out]; exact putSel_upk 5 hb_ rfl rfl rfl), Q_HO_330003, Q_HO_331003, Q_HO_332003, Q_BK329, Q_BK330, Q_BK331, Q_HB, Q_HO338, Q_HO341, fun h0_ => absurd ((hoff 8 (by kernel_rfl)).symm.trans h0_) (by decide), fun h0_ => absurd ((hoff 9 (by kernel_rfl)).symm.trans h0_) (by decide), fun h0_ => absurd ((hoff 10 (by kernel_rfl)).symm.trans h0_) (by decide), fun h0_ => absurd ((hoff 11 (by kernel_rfl)).symm.trans h0_) (by decide)⟩
                refine steps_cons ?_ ?_
                ·rintro b a w' ⟨v337, v340, v343, v346, m10_, m11_, ha, Q_HO_330003, Q_HO_331003, Q_HO_332003, Q_BK329, Q_BK330, Q_BK331, Q_HB, Q_HO338, Q_HO341, Q_HO344, Q_HO347, Q_X10_, Q_X11_⟩ hb_ hon hoff
                 refine ⟨_, rfl, fun K hK => ?_⟩
                 have e4 : a.tmps[4]? = some (.pointer (some ⟨gb330, 0, none⟩)) := by rw [ha]; exact (putSel_off rfl).trans rfl
                 replace ha := Aside0.mk ha
                 have HO_330003 := Aside0.mk Q_HO_330003
                 have HO_331003 := Aside0.mk Q_HO_331003
                 have HO_332003 := Aside0.mk Q_HO_332003
                 have BK329 := Aside0.mk Q_BK329
                 have BK330 := Aside0.mk Q_BK330
                 have BK331 := Aside0.mk Q_BK331
                 have HB := Aside0.mk Q_HB
                 have hc0_ : w'.cell? ⟨gb330, 0, none⟩ = some (.int .i64 a1_0) := (blk_cell BK330.out 0).trans rfl
                 have hc1_ : w'.cell? ⟨gb330, 1, none⟩ = some (.string a1_1) := (blk_cell BK330.out 1).trans rfl
                 have hc2_ : w'.cell? ⟨gb330, 2, none⟩ = some (.string a1_2) := (blk_cell BK330.out 2).trans rfl
                 have hc3_ : w'.cell? ⟨gb330, 3, none⟩ = some (.slice A1_3 l1_3.length c1_3) := (blk_cell BK330.out 3).trans rfl
                 refine value_ (w1 := w') (v := .agg #[.int .i64 a1_0, .string a1_1, .string a1_2, .slice A1_3 l1_3.length c1_3]) (by rfl) rfl ?_ ?_
                 ·go_simp
                  (try simp only [i64_w])
                  try rfl
                 refine hK.out _ _ ⟨v337, v340, v343, v346, m10_, m11_, (by rw [ha.out]; exact putSel_upk 6 hb_ rfl rfl rfl), Q_HO_330003, Q_HO_331003, Q_HO_332003, Q_BK329, Q_BK330, Q_BK331, Q_HB, Q_HO338, Q_HO341, fun h0_ => absurd ((hoff 8 (by kernel_rfl)).symm.trans h0_) (by decide), fun h0_ => absurd ((hoff 9 (by kernel_rfl)).symm.trans h0_) (by decide), fun h0_ => absurd ((hoff 10 (by kernel_rfl)).symm.trans h0_) (by decide), fun h0_ => absurd ((hoff 11 (by kernel_rfl)).symm.trans h0_) (by decide)⟩
                refine steps_cons ?_ ?_
                ·rintro b a w' ⟨v337, v340, v343, v346, m10_, m11_, ha, Q_HO_330003, Q_HO_331003, Q_HO_332003, Q_BK329, Q_BK330, Q_BK331, Q_HB, Q_HO338, Q_HO341, Q_HO344, Q_HO347, Q_X10_, Q_X11_⟩ hb_ hon hoff
                 refine ⟨_, rfl, fun K hK => ?_⟩
                 have e5 : a.tmps[5]? = some (.pointer (some ⟨gb331, 0, none⟩)) := by rw [ha]; exact (putSel_off rfl).trans rfl
                 replace ha := Aside0.mk ha
                 have HO_330003 := Aside0.mk Q_HO_330003
                 have HO_331003 := Aside0.mk Q_HO_331003
                 have HO_332003 := Aside0.mk Q_HO_332003
                 have BK329 := Aside0.mk Q_BK329
                 have BK330 := Aside0.mk Q_BK330
                 have BK331 := Aside0.mk Q_BK331
                 have HB := Aside0.mk Q_HB
                 have hc0_ : w'.cell? ⟨gb331, 0, none⟩ = some (.int .i64 a2_0) := (blk_cell BK331.out 0).trans rfl
                 have hc1_ : w'.cell? ⟨gb331, 1, none⟩ = some (.string a2_1) := (blk_cell BK331.out 1).trans rfl
                 have hc2_ : w'.cell? ⟨gb331, 2, none⟩ = some (.string a2_2) := (blk_cell BK331.out 2).trans rfl
                 have hc3_ : w'.cell? ⟨gb331, 3, none⟩ = some (.slice A2_3 l2_3.length c2_3) := (blk_cell BK331.out 3).trans rfl
                 refine value_ (w1 := w') (v := .agg #[.int .i64 a2_0, .string a2_1, .string a2_2, .slice A2_3 l2_3.length c2_3]) (by rfl) rfl ?_ ?_
                 ·go_simp
                  (try simp only [i64_w])
                  try rfl
                 refine hK.out _ _ ⟨v337, v340, v343, v346, m10_, m11_, (by rw [ha.out]; exact putSel_upk 7 hb_ rfl rfl rfl), Q_HO_330003, Q_HO_331003, Q_HO_332003, Q_BK329, Q_BK330, Q_BK331, Q_HB, Q_HO338, Q_HO341, fun h0_ => absurd ((hoff 8 (by kernel_rfl)).symm.trans h0_) (by decide), fun h0_ => absurd ((hoff 9 (by kernel_rfl)).symm.trans h0_) (by decide), fun h0_ => absurd ((hoff 10 (by kernel_rfl)).symm.trans h0_) (by decide), fun h0_ => absurd ((hoff 11 (by kernel_rfl)).symm.trans h0_) (by decide)⟩
                refine steps_cons ?_ ?_
                ·rintro b a w' ⟨v337, v340, v343, v346, m10_, m11_, ha, Q_HO_330003, Q_HO_331003, Q_HO_332003, Q_BK329, Q_BK330, Q_BK331, Q_HB, Q_HO338, Q_HO341, Q_HO344, Q_HO347, Q_X10_, Q_X11_⟩ hb_ hon hoff
                 refine ⟨_, rfl, fun K hK => ?_⟩
                 have e28 : a.tmps[28]? = some (.agg #[.int .i64 a0_0, .string a0_1, .string a0_2, .slice A0_3 l0_3.length c0_3]) := by rw [ha]; exact putSel_on (e := (5, 28, .agg #[.int .i64 a0_0, .string a0_1, .string a0_2, .slice A0_3 l0_3.length c0_3])) 5 rfl rfl (hon 5 (by kernel_rfl)) rfl
                 have e29 : a.tmps[29]? = some (.agg #[.int .i64 a1_0, .string a1_1, .string a1_2, .slice A1_3 l1_3.length c1_3]) := by rw [ha]; exact putSel_on (e := (6, 29, .agg #[.int .i64 a1_0, .string a1_1, .string a1_2, .slice A1_3 l1_3.length c1_3])) 6 rfl rfl (hon 6 (by kernel_rfl)) rfl
                 have e30 : a.tmps[30]? = some (.agg #[.int .i64 a2_0, .string a2_1, .string a2_2, .slice A2_3 l2_3.length c2_3]) := by rw [ha]; exact putSel_on (e := (7, 30, .agg #[.int .i64 a2_0, .string a2_1, .string a2_2, .slice A2_3 l2_3.length c2_3])) 7 rfl rfl (hon 7 (by kernel_rfl)) rfl
                 replace ha := Aside0.mk ha
                 have HO_330003 := Aside0.mk Q_HO_330003
                 have HO_331003 := Aside0.mk Q_HO_331003
                 have HO_332003 := Aside0.mk Q_HO_332003
                 have BK329 := Aside0.mk Q_BK329
                 have BK330 := Aside0.mk Q_BK330
                 have BK331 := Aside0.mk Q_BK331
                 have HB := Aside0.mk Q_HB
                 refine Kd.N_lit_step k24 _ 24 ?hg (N' := 31) ?hd (xs := ([(⟨a0_0, a0_1, a0_2, l0_3⟩ : S24), (⟨a1_0, a1_1, a1_2, l1_3⟩ : S24), (⟨a2_0, a2_1, a2_2, l2_3⟩ : S24)] : List (S24))) (inner := [.int .i64 a0_0, .string a0_1, .string a0_2, .slice A0_3 l0_3.length c0_3, .int .i64 a1_0, .string a1_1, .string a1_2, .slice A1_3 l1_3.length c1_3, .int .i64 a2_0, .string a2_1, .string a2_2, .slice A2_3 l2_3.length c2_3]) (ok := (fun k_ => ((P0_3_ k_ ∨ P1_3_ k_ ∨ P2_3_ k_) ∨ w.heap.size ≤ k_) ∧ k_ ≠ gb329 ∧ k_ ≠ gb330 ∧ k_ ≠ gb331)) (okp := (fun k_ => ((P0_3_ k_ ∨ P1_3_ k_ ∨ P2_3_ k_) ∨ w.heap.size ≤ k_) ∧ k_ ≠ gb329 ∧ k_ ≠ gb330 ∧ k_ ≠ gb331)) ?hr ?hp (fun _ hk => hk) ((show ∀ k_, w'.heap.size ≤ k_ → (fun k_ => ((P0_3_ k_ ∨ P1_3_ k_ ∨ P2_3_ k_) ∨ w.heap.size ≤ k_) ∧ k_ ≠ gb329 ∧ k_ ≠ gb330 ∧ k_ ≠ gb331) k_ from fun k_ hk => ⟨(.inr (Nat.le_trans (below_size (by repeat (first | (with_reducible first | exact HB.out | apply below_alloc | apply pw_below_drewN | apply below_drew1 | refine below_set ?_ GE329.out | refine below_set ?_ GE330.out | refine below_set ?_ GE331.out) | exact HB.out))) hk)), Kd.freshB (g := gb329) (o := .cells #[.int .i64 a0_0, .string a0_1, .string a0_2, .slice A0_3 l0_3.length c0_3] 24 (0, 0)) (by (with_reducible repeat (first | refine blk_drewN ?_ _ | refine blk_drew ?_ | refine blk_alloc ?_ _)); exact BK329.out) k_ hk, Kd.freshB (g := gb330) (o := .cells #[.int .i64 a1_0, .string a1_1, .string a1_2, .slice A1_3 l1_3.length c1_3] 24 (0, 0)) (by (with_reducible repeat (first | refine blk_drewN ?_ _ | refine blk_drew ?_ | refine blk_alloc ?_ _)); exact BK330.out) k_ hk, Kd.freshB (g := gb331) (o := .cells #[.int .i64 a2_0, .string a2_1, .string a2_2, .slice A2_3 l2_3.length c2_3] 24 (0, 0)) (by (with_reducible repeat (first | refine blk_drewN ?_ _ | refine blk_drew ?_ | refine blk_alloc ?_ _)); exact BK331.out) k_ hk⟩) _ (Nat.le_refl _)) (Below.refl _ _) (Nat.le_refl _) (by simp) ?_; (case hd => rfl); (case hg => rfl); (case hr => first | (go_simp; done) | (go_simp; rfl)); (case hp => exact (Reps.c4 (show Kd.FK k24 _ _ (⟨a0_0, a0_1, a0_2, l0_3⟩ : S24) [.int .i64 a0_0, .string a0_1, .string a0_2, .slice A0_3 l0_3.length c0_3] from (k24_mkF _ _ (⟨a0_0, a0_1, a0_2, l0_3⟩ : S24) (Kd.V_reads' (Kd.V_mono (ok' := (fun k_ => ((P0_3_ k_ ∨ P1_3_ k_ ∨ P2_3_ k_) ∨ w.heap.size ≤ k_) ∧ k_ ≠ gb329 ∧ k_ ≠ gb330 ∧ k_ ≠ gb331)) (HO_330003.out) (fun k_ hk => ⟨hk.1, ⟨hk.2.1, ⟨hk.2.2.1, hk.2.2.2⟩⟩⟩))).2.1 (Kd.V_F (Kd.V_mono (ok' := (fun k_ => ((P0_3_ k_ ∨ P1_3_ k_ ∨ P2_3_ k_) ∨ w.heap.size ≤ k_) ∧ k_ ≠ gb329 ∧ k_ ≠ gb330 ∧ k_ ≠ gb331)) (HO_330003.out) (fun k_ hk => ⟨hk.1, ⟨hk.2.1, ⟨hk.2.2.1, hk.2.2.2⟩⟩⟩))))) (Reps.c4 (show Kd.FK k24 _ _ (⟨a1_0, a1_1, a1_2, l1_3⟩ : S24) [.int .i64 a1_0, .string a1_1, .string a1_2, .slice A1_3 l1_3.length c1_3] from (k24_mkF _ _ (⟨a1_0, a1_1, a1_2, l1_3⟩ : S24) (Kd.V_reads' (Kd.V_mono (ok' := (fun k_ => ((P0_3_ k_ ∨ P1_3_ k_ ∨ P2_3_ k_) ∨ w.heap.size ≤ k_) ∧ k_ ≠ gb329 ∧ k_ ≠ gb330 ∧ k_ ≠ gb331)) (HO_331003.out) (fun k_ hk => ⟨hk.1, ⟨hk.2.1, ⟨hk.2.2.1, hk.2.2.2⟩⟩⟩))).2.1 (Kd.V_F (Kd.V_mono (ok' := (fun k_ => ((P0_3_ k_ ∨ P1_3_ k_ ∨ P2_3_ k_) ∨ w.heap.size ≤ k_) ∧ k_ ≠ gb329 ∧ k_ ≠ gb330 ∧ k_ ≠ gb331)) (HO_331003.out) (fun k_ hk => ⟨hk.1, ⟨hk.2.1, ⟨hk.2.2.1, hk.2.2.2⟩⟩⟩))))) (Reps.c4 (show Kd.FK k24 _ _ (⟨a2_0, a2_1, a2_2, l2_3⟩ : S24) [.int .i64 a2_0, .string a2_1, .string a2_2, .slice A2_3 l2_3.length c2_3] from (k24_mkF _ _ (⟨a2_0, a2_1, a2_2, l2_3⟩ : S24) (Kd.V_reads' (Kd.V_mono (ok' := (fun k_ => ((P0_3_ k_ ∨ P1_3_ k_ ∨ P2_3_ k_) ∨ w.heap.size ≤ k_) ∧ k_ ≠ gb329 ∧ k_ ≠ gb330 ∧ k_ ≠ gb331)) (HO_332003.out) (fun k_ hk => ⟨hk.1, ⟨hk.2.1, ⟨hk.2.2.1, hk.2.2.2⟩⟩⟩))).2.1 (Kd.V_F (Kd.V_mono (ok' := (fun k_ => ((P0_3_ k_ ∨ P1_3_ k_ ∨ P2_3_ k_) ∨ w.heap.size ≤ k_) ∧ k_ ≠ gb329 ∧ k_ ≠ gb330 ∧ k_ ≠ gb331)) (HO_332003.out) (fun k_ hk => ⟨hk.1, ⟨hk.2.1, ⟨hk.2.2.1, hk.2.2.2⟩⟩⟩))))) (Reps.none _ _)))))
                 intro v343 w55 ho56 hb hg_ hnew_
                 clear hg_ hnew_
                 (first | rw [← Ny342.out] at ho56 | (simp only [Int.reduceToNat] at ho56; rw [← Ny342.out] at ho56))
                 have n0_ := Aside0.mk (Kd.V_elder' (by (with_reducible repeat (first | apply Kd.V_alloc | apply Kd.V_drewN | apply Kd.V_drew)); exact HO_330003.out) (Kd.N_base ho56) hb)
                 have n1_ := Aside0.mk (Kd.V_elder' (by (with_reducible repeat (first | apply Kd.V_alloc | apply Kd.V_drewN | apply Kd.V_drew)); exact HO_331003.out) (Kd.N_base ho56) hb)
                 have n2_ := Aside0.mk (Kd.V_elder' (by (with_reducible repeat (first | apply Kd.V_alloc | apply Kd.V_drewN | apply Kd.V_drew)); exact HO_332003.out) (Kd.N_base ho56) hb)
                 have n3_ := Aside0.mk (Kd.N_lower ho56 (below_size (by repeat (first | (with_reducible first | exact HB.out | apply below_alloc | apply pw_below_drewN | apply below_drew1 | refine below_set ?_ GE329.out | refine below_set ?_ GE330.out | refine below_set ?_ GE331.out) | exact HB.out))))
                 have n4_ := Aside0.mk (blk_below (g := gb329) (o := .cells #[.int .i64 a0_0, .string a0_1, .string a0_2, .slice A0_3 l0_3.length c0_3] 24 (0, 0)) (by (with_reducible repeat (first | refine blk_drewN ?_ _ | refine blk_drew ?_ | refine blk_alloc ?_ _)); exact BK329.out) hb)
                 have n5_ := Aside0.mk (blk_below (g := gb330) (o := .cells #[.int .i64 a1_0, .string a1_1, .string a1_2, .slice A1_3 l1_3.length c1_3] 24 (0, 0)) (by (with_reducible repeat (first | refine blk_drewN ?_ _ | refine blk_drew ?_ | refine blk_alloc ?_ _)); exact BK330.out) hb)
                 have n6_ := Aside0.mk (blk_below (g := gb331) (o := .cells #[.int .i64 a2_0, .string a2_1, .string a2_2, .slice A2_3 l2_3.length c2_3] 24 (0, 0)) (by (with_reducible repeat (first | refine blk_drewN ?_ _ | refine blk_drew ?_ | refine blk_alloc ?_ _)); exact BK331.out) hb)
                 have n7_ := Aside0.mk (below_step (by repeat (first | (with_reducible first | exact HB.out | apply below_alloc | apply pw_below_drewN | apply below_drew1 | refine below_set ?_ GE329.out | refine below_set ?_ GE330.out | refine below_set ?_ GE331.out) | exact HB.out)) hb)
                 have z_HO338 := fun (h0_ : b 3 = true) => (show Kd.N k24 24 w55 w.heap.size (fun k_ => ((P0_3_ k_ ∨ P1_3_ k_ ∨ P2_3_ k_) ∨ w.heap.size ≤ k_) ∧ k_ ≠ gb329 ∧ k_ ≠ gb330 ∧ k_ ≠ gb331) v337 y336 from by first | exact (Kd.N_elder' (by (with_reducible repeat (first | apply Kd.N_alloc | apply Kd.N_drewN | apply Kd.N_drew)); exact (Q_HO338 h0_)) (Kd.N_base ho56) hb) | exact Kd.N_mono (Kd.N_elder' (by (with_reducible repeat (first | apply Kd.N_alloc | apply Kd.N_drewN | apply Kd.N_drew)); exact (Q_HO338 h0_)) (Kd.N_base ho56) hb) (fun _ h_ => by first | trivial | exact h_ | exact h_.1))
                 have z_HO341 := fun (h0_ : b 4 = true) => (show Kd.N (Kd.slice 3 (Kd.int .i64)) 27 w55 w.heap.size (fun k_ => ((P0_3_ k_ ∨ P1_3_ k_ ∨ P2_3_ k_) ∨ w.heap.size ≤ k_) ∧ k_ ≠ gb329 ∧ k_ ≠ gb330 ∧ k_ ≠ gb331) v340 t339 from by first | exact (Kd.N_elder' (by (with_reducible repeat (first | apply Kd.N_alloc | apply Kd.N_drewN | apply Kd.N_drew)); exact (Q_HO341 h0_)) (Kd.N_base ho56) hb) | exact Kd.N_mono (Kd.N_elder' (by (with_reducible repeat (first | apply Kd.N_alloc | apply Kd.N_drewN | apply Kd.N_drew)); exact (Q_HO341 h0_)) (Kd.N_base ho56) hb) (fun _ h_ => by first | trivial | exact h_ | exact h_.1))
                 clear HO_330003
                 clear HO_331003
                 clear HO_332003
                 clear BK329
                 clear BK330
                 clear BK331
                 clear HB
                 have HO_330003 := n0_
                 have HO_331003 := n1_
                 have HO_332003 := n2_
                 have HO344 := n3_
                 have BK329 := n4_
                 have BK330 := n5_
                 have BK331 := n6_
                 have HB := n7_
                 clear n0_ n1_ n2_ n3_ n4_ n5_ n6_ n7_
                 clear hb ho56
                 refine hK.out _ _ ⟨v337, v340, v343, v346, m10_, m11_, (by rw [ha.out]; exact putSel_upk 8 hb_ rfl rfl rfl), (by (with_reducible repeat (first | apply Kd.V_alloc | apply Kd.V_drewN | apply Kd.V_drew)); exact Kd.V_mono HO_330003.out (fun _ hk => ⟨hk.1.1, ⟨hk.1.2.1, ⟨hk.1.2.2.1, hk.1.2.2.2⟩⟩⟩)), (by (with_reducible repeat (first | apply Kd.V_alloc | apply Kd.V_drewN | apply Kd.V_drew)); exact Kd.V_mono HO_331003.out (fun _ hk => ⟨hk.1.1, ⟨hk.1.2.1, ⟨hk.1.2.2.1, hk.1.2.2.2⟩⟩⟩)), (by (with_reducible repeat (first | apply Kd.V_alloc | apply Kd.V_drewN | apply Kd.V_drew)); exact Kd.V_mono HO_332003.out (fun _ hk => ⟨hk.1.1, ⟨hk.1.2.1, ⟨hk.1.2.2.1, hk.1.2.2.2⟩⟩⟩)), (by (with_reducible repeat (first | refine blk_drewN ?_ _ | refine blk_drew ?_ | refine blk_alloc ?_ _)); exact BK329.out), (by (with_reducible repeat (first | refine blk_drewN ?_ _ | refine blk_drew ?_ | refine blk_alloc ?_ _)); exact BK330.out), (by (with_reducible repeat (first | refine blk_drewN ?_ _ | refine blk_drew ?_ | refine blk_alloc ?_ _)); exact BK331.out), (by repeat (first | (with_reducible first | exact HB.out | apply below_alloc | apply pw_below_drewN | apply below_drew1 | refine below_set ?_ GE329.out | refine below_set ?_ GE330.out | refine below_set ?_ GE331.out) | exact HB.out)), z_HO338, z_HO341, fun _ => (by (with_reducible repeat (first | apply Kd.N_alloc | apply Kd.N_drewN | apply Kd.N_drew)); exact HO344.out), fun h0_ => absurd ((hoff 9 (by kernel_rfl)).symm.trans h0_) (by decide), fun h0_ => absurd ((hoff 10 (by kernel_rfl)).symm.trans h0_) (by decide), fun h0_ => absurd ((hoff 11 (by kernel_rfl)).symm.trans h0_) (by decide)⟩
                refine steps_cons ?_ ?_
                ·rintro b a w' ⟨v337, v340, v343, v346, m10_, m11_, ha, Q_HO_330003, Q_HO_331003, Q_HO_332003, Q_BK329, Q_BK330, Q_BK331, Q_HB, Q_HO338, Q_HO341, Q_HO344, Q_HO347, Q_X10_, Q_X11_⟩ hb_ hon hoff
                 refine ⟨_, rfl, fun K hK => ?_⟩
                 have e31 : a.tmps[31]? = some (v343) := by rw [ha]; exact putSel_on (e := (8, 31, v343)) 8 rfl rfl (hon 8 (by kernel_rfl)) rfl
                 replace ha := Aside0.mk ha
                 have HO_330003 := Aside0.mk Q_HO_330003
                 have HO_331003 := Aside0.mk Q_HO_331003
                 have HO_332003 := Aside0.mk Q_HO_332003
                 have BK329 := Aside0.mk Q_BK329
                 have BK330 := Aside0.mk Q_BK330
                 have BK331 := Aside0.mk Q_BK331
                 have HB := Aside0.mk Q_HB
                 have HO338 := Aside0.mk (Q_HO338 (hon 3 (by kernel_rfl)))
                 have HO341 := Aside0.mk (Q_HO341 (hon 4 (by kernel_rfl)))
                 have HO344 := Aside0.mk (Q_HO344 (hon 8 (by kernel_rfl)))
                 obtain ⟨Ao62, co62, eo62⟩ := Kd.N_slice HO344.out
                 (first | subst eo62 | (injection eo62 with f1_ f2_ f3_; have f4_ := f1_.symm; have f5_ := f3_.symm; clear f1_ f2_ f3_; subst f4_; subst f5_))
                 refine goes_ Tryd.func16 (by kernel_rfl) rfl #[.slice Ao62 y342.length co62, .int .i64 151] (by rfl) rfl rfl (by first | (simp only [List.map_toArray, List.map_cons, List.map_nil, Act.eval, Array.getD_eq_getD_getElem?, Option.getD_some, e31]; done) | (simp only [List.map_toArray, List.map_cons, List.map_nil, Act.eval, Array.getD_eq_getD_getElem?, Option.getD_some, e31]; rfl)) ?_
                 with_reducible refine (scarfref10_Marks.calls kj3 (fun k_ => (((P0_3_ k_ ∨ P1_3_ k_ ∨ P2_3_ k_) ∨ w.heap.size ≤ k_) ∧ (k_ ≠ gb329 ∧ (k_ ≠ gb330 ∧ k_ ≠ gb331)))) _ _ y342 151 t345 _ ?side1 A38.out).mono ?_
                 (case side1 => exact Kd.N_V (HO344.out))
                 rintro e w63 ⟨v346, rfl, ho0, hb⟩
                 refine ⟨_, rfl, ?_⟩
                 have n0_ := Aside0.mk (Kd.V_elder' (by (with_reducible repeat (first | apply Kd.V_alloc | apply Kd.V_drewN | apply Kd.V_drew)); exact HO_330003.out) (Kd.N_base ho0) hb)
                 have n1_ := Aside0.mk (Kd.V_elder' (by (with_reducible repeat (first | apply Kd.V_alloc | apply Kd.V_drewN | apply Kd.V_drew)); exact HO_331003.out) (Kd.N_base ho0) hb)
                 have n2_ := Aside0.mk (Kd.V_elder' (by (with_reducible repeat (first | apply Kd.V_alloc | apply Kd.V_drewN | apply Kd.V_drew)); exact HO_332003.out) (Kd.N_base ho0) hb)
                 have n3_ := Aside0.mk (Kd.N_elder' (by (with_reducible repeat (first | apply Kd.N_alloc | apply Kd.N_drewN | apply Kd.N_drew)); exact HO338.out) (Kd.N_base ho0) hb)
                 have n4_ := Aside0.mk (Kd.N_elder' (by (with_reducible repeat (first | apply Kd.N_alloc | apply Kd.N_drewN | apply Kd.N_drew)); exact HO341.out) (Kd.N_base ho0) hb)
                 have n5_ := Aside0.mk (Kd.N_elder' (by (with_reducible repeat (first | apply Kd.N_alloc | apply Kd.N_drewN | apply Kd.N_drew)); exact HO344.out) (Kd.N_base ho0) hb)
                 have n6_ := Aside0.mk (Kd.N_lower (Kd.N_mono (ok' := fun k_ => ((P0_3_ k_ ∨ P1_3_ k_ ∨ P2_3_ k_) ∨ w.heap.size ≤ k_) ∧ k_ ≠ gb329 ∧ k_ ≠ gb330 ∧ k_ ≠ gb331) ho0 (fun k_ hk_ => ⟨Or.elim hk_ (fun hs_ => hs_.1) (fun hn_ => (.inr (Nat.le_trans (below_size (by repeat (first | (with_reducible first | exact HB.out | apply below_alloc | apply pw_below_drewN | apply below_drew1 | refine below_set ?_ GE329.out | refine below_set ?_ GE330.out | refine below_set ?_ GE331.out) | exact HB.out))) hn_))), Or.elim hk_ (fun hs_ => hs_.2.1) (fun hn_ => (Kd.freshB (g := gb329) (o := .cells #[.int .i64 a0_0, .string a0_1, .string a0_2, .slice A0_3 l0_3.length c0_3] 24 (0, 0)) (by (with_reducible repeat (first | refine blk_drewN ?_ _ | refine blk_drew ?_ | refine blk_alloc ?_ _)); exact BK329.out) k_ hn_)), Or.elim hk_ (fun hs_ => hs_.2.2.1) (fun hn_ => (Kd.freshB (g := gb330) (o := .cells #[.int .i64 a1_0, .string a1_1, .string a1_2, .slice A1_3 l1_3.length c1_3] 24 (0, 0)) (by (with_reducible repeat (first | refine blk_drewN ?_ _ | refine blk_drew ?_ | refine blk_alloc ?_ _)); exact BK330.out) k_ hn_)), Or.elim hk_ (fun hs_ => hs_.2.2.2) (fun hn_ => (Kd.freshB (g := gb331) (o := .cells #[.int .i64 a2_0, .string a2_1, .string a2_2, .slice A2_3 l2_3.length c2_3] 24 (0, 0)) (by (with_reducible repeat (first | refine blk_drewN ?_ _ | refine blk_drew ?_ | refine blk_alloc ?_ _)); exact BK331.out) k_ hn_))⟩)) (below_size (by repeat (first | (with_reducible first | exact HB.out | apply below_alloc | apply pw_below_drewN | apply below_drew1 | refine below_set ?_ GE329.out | refine below_set ?_ GE330.out | refine below_set ?_ GE331.out) | exact HB.out))))
                 have n7_ := Aside0.mk (blk_below (g := gb329) (o := .cells #[.int .i64 a0_0, .string a0_1, .string a0_2, .slice A0_3 l0_3.length c0_3] 24 (0, 0)) (by (with_reducible repeat (first | refine blk_drewN ?_ _ | refine blk_drew ?_ | refine blk_alloc ?_ _)); exact BK329.out) hb)
                 have n8_ := Aside0.mk (blk_below (g := gb330) (o := .cells #[.int .i64 a1_0, .string a1_1, .string a1_2, .slice A1_3 l1_3.length c1_3] 24 (0, 0)) (by (with_reducible repeat (first | refine blk_drewN ?_ _ | refine blk_drew ?_ | refine blk_alloc ?_ _)); exact BK330.out) hb)
                 have n9_ := Aside0.mk (blk_below (g := gb331) (o := .cells #[.int .i64 a2_0, .string a2_1, .string a2_2, .slice A2_3 l2_3.length c2_3] 24 (0, 0)) (by (with_reducible repeat (first | refine blk_drewN ?_ _ | refine blk_drew ?_ | refine blk_alloc ?_ _)); exact BK331.out) hb)
                 have n10_ := Aside0.mk (below_step (by repeat (first | (with_reducible first | exact HB.out | apply below_alloc | apply pw_below_drewN | apply below_drew1 | refine below_set ?_ GE329.out | refine below_set ?_ GE330.out | refine below_set ?_ GE331.out) | exact HB.out)) hb)
                 clear HO_330003
                 clear HO_331003
                 clear HO_332003
                 clear HO338
                 clear HO341
                 clear HO344
                 clear BK329
                 clear BK330
                 clear BK331
                 clear HB
                 have HO_330003 := n0_
                 have HO_331003 := n1_
                 have HO_332003 := n2_
                 have HO338 := n3_
                 have HO341 := n4_
                 have HO344 := n5_
                 have HO347 := n6_
                 have BK329 := n7_
                 have BK330 := n8_
                 have BK331 := n9_
                 have HB := n10_
                 clear n0_ n1_ n2_ n3_ n4_ n5_ n6_ n7_ n8_ n9_ n10_
                 (try clear hb)
                 (try clear hb2)
                 (try clear hk)
                 (try clear hi)
                 (try clear ho0)
                 refine hK.out _ _ ⟨v337, v340, .slice Ao62 y342.length co62, v346, m10_, m11_, (by rw [ha.out]; exact putSel_upk 9 hb_ rfl rfl rfl), (by (with_reducible repeat (first | apply Kd.V_alloc | apply Kd.V_drewN | apply Kd.V_drew)); exact Kd.V_mono HO_330003.out (fun _ hk => ⟨hk.1.1, ⟨hk.1.2.1, ⟨hk.1.2.2.1, hk.1.2.2.2⟩⟩⟩)), (by (with_reducible repeat (first | apply Kd.V_alloc | apply Kd.V_drewN | apply Kd.V_drew)); exact Kd.V_mono HO_331003.out (fun _ hk => ⟨hk.1.1, ⟨hk.1.2.1, ⟨hk.1.2.2.1, hk.1.2.2.2⟩⟩⟩)), (by (with_reducible repeat (first | apply Kd.V_alloc | apply Kd.V_drewN | apply Kd.V_drew)); exact Kd.V_mono HO_332003.out (fun _ hk => ⟨hk.1.1, ⟨hk.1.2.1, ⟨hk.1.2.2.1, hk.1.2.2.2⟩⟩⟩)), (by (with_reducible repeat (first | refine blk_drewN ?_ _ | refine blk_drew ?_ | refine blk_alloc ?_ _)); exact BK329.out), (by (with_reducible repeat (first | refine blk_drewN ?_ _ | refine blk_drew ?_ | refine blk_alloc ?_ _)); exact BK330.out), (by (with_reducible repeat (first | refine blk_drewN ?_ _ | refine blk_drew ?_ | refine blk_alloc ?_ _)); exact BK331.out), (by repeat (first | (with_reducible first | exact HB.out | apply below_alloc | apply pw_below_drewN | apply below_drew1 | refine below_set ?_ GE329.out | refine below_set ?_ GE330.out | refine below_set ?_ GE331.out) | exact HB.out)), fun _ => (by (with_reducible repeat (first | apply Kd.N_alloc | apply Kd.N_drewN | apply Kd.N_drew)); exact Kd.N_mono HO338.out (fun _ hk => ⟨hk.1.1, ⟨hk.1.2.1, ⟨hk.1.2.2.1, hk.1.2.2.2⟩⟩⟩)), fun _ => (by (with_reducible repeat (first | apply Kd.N_alloc | apply Kd.N_drewN | apply Kd.N_drew)); exact Kd.N_mono HO341.out (fun _ hk => ⟨hk.1.1, ⟨hk.1.2.1, ⟨hk.1.2.2.1, hk.1.2.2.2⟩⟩⟩)), fun _ => (by (with_reducible repeat (first | apply Kd.N_alloc | apply Kd.N_drewN | apply Kd.N_drew)); exact Kd.N_mono HO344.out (fun _ hk => ⟨hk.1.1, ⟨hk.1.2.1, ⟨hk.1.2.2.1, hk.1.2.2.2⟩⟩⟩)), fun _ => (by (with_reducible repeat (first | apply Kd.N_alloc | apply Kd.N_drewN | apply Kd.N_drew)); exact HO347.out), fun h0_ => absurd ((hoff 10 (by kernel_rfl)).symm.trans h0_) (by decide), fun h0_ => absurd ((hoff 11 (by kernel_rfl)).symm.trans h0_) (by decide)⟩
                refine steps_cons ?_ ?_
                ·rintro b a w' ⟨v337, v340, v343, v346, m10_, m11_, ha, Q_HO_330003, Q_HO_331003, Q_HO_332003, Q_BK329, Q_BK330, Q_BK331, Q_HB, Q_HO338, Q_HO341, Q_HO344, Q_HO347, Q_X10_, Q_X11_⟩ hb_ hon hoff
                 refine ⟨_, rfl, fun K hK => ?_⟩
                 have e27 : a.tmps[27]? = some (v340) := by rw [ha]; exact putSel_on (e := (4, 27, v340)) 4 rfl rfl (hon 4 (by kernel_rfl)) rfl
                 replace ha := Aside0.mk ha
                 have HO_330003 := Aside0.mk Q_HO_330003
                 have HO_331003 := Aside0.mk Q_HO_331003
                 have HO_332003 := Aside0.mk Q_HO_332003
                 have BK329 := Aside0.mk Q_BK329
                 have BK330 := Aside0.mk Q_BK330
                 have BK331 := Aside0.mk Q_BK331
                 have HB := Aside0.mk Q_HB
                 have HO338 := Aside0.mk (Q_HO338 (hon 3 (by kernel_rfl)))
                 have HO341 := Aside0.mk (Q_HO341 (hon 4 (by kernel_rfl)))
                 have HO344 := Aside0.mk (Q_HO344 (hon 8 (by kernel_rfl)))
                 have HO347 := Aside0.mk (Q_HO347 (hon 9 (by kernel_rfl)))
                 refine value_ (w1 := w') (v := v340) (by rfl) rfl ?_ ?_
                 ·go_simp
                  (try simp only [i64_w])
                  try rfl
                 refine hK.out _ _ ⟨v337, v340, v343, v346, (v340), m11_, (by rw [ha.out]; exact putSel_upk 10 hb_ rfl rfl rfl), Q_HO_330003, Q_HO_331003, Q_HO_332003, Q_BK329, Q_BK330, Q_BK331, Q_HB, Q_HO338, Q_HO341, Q_HO344, Q_HO347, fun _ => rfl, fun h0_ => absurd ((hoff 11 (by kernel_rfl)).symm.trans h0_) (by decide)⟩
                refine steps_cons ?_ ?_
                ·rintro b a w' ⟨v337, v340, v343, v346, m10_, m11_, ha, Q_HO_330003, Q_HO_331003, Q_HO_332003, Q_BK329, Q_BK330, Q_BK331, Q_HB, Q_HO338, Q_HO341, Q_HO344, Q_HO347, Q_X10_, Q_X11_⟩ hb_ hon hoff
                 refine ⟨_, rfl, fun K hK => ?_⟩
                 have e32 : a.tmps[32]? = some (v346) := by rw [ha]; exact putSel_on (e := (9, 32, v346)) 9 rfl rfl (hon 9 (by kernel_rfl)) rfl
                 replace ha := Aside0.mk ha
                 have HO_330003 := Aside0.mk Q_HO_330003
                 have HO_331003 := Aside0.mk Q_HO_331003
                 have HO_332003 := Aside0.mk Q_HO_332003
                 have BK329 := Aside0.mk Q_BK329
                 have BK330 := Aside0.mk Q_BK330
                 have BK331 := Aside0.mk Q_BK331
                 have HB := Aside0.mk Q_HB
                 have HO338 := Aside0.mk (Q_HO338 (hon 3 (by kernel_rfl)))
                 have HO341 := Aside0.mk (Q_HO341 (hon 4 (by kernel_rfl)))
                 have HO344 := Aside0.mk (Q_HO344 (hon 8 (by kernel_rfl)))
                 have HO347 := Aside0.mk (Q_HO347 (hon 9 (by kernel_rfl)))
                 refine value_ (w1 := w') (v := v346) (by rfl) rfl ?_ ?_
                 ·go_simp
                  (try simp only [i64_w])
                  try rfl
                 refine hK.out _ _ ⟨v337, v340, v343, v346, m10_, (v346), (by rw [ha.out]; exact putSel_upk 11 hb_ rfl rfl rfl), Q_HO_330003, Q_HO_331003, Q_HO_332003, Q_BK329, Q_BK330, Q_BK331, Q_HB, Q_HO338, Q_HO341, Q_HO344, Q_HO347, Q_X10_, fun _ => rfl⟩
                exact steps_nil
               rintro b a w63 hall ⟨v337, v340, v343, v346, m10_, m11_, ha, Q_HO_330003, Q_HO_331003, Q_HO_332003, Q_BK329, Q_BK330, Q_BK331, Q_HB, Q_HO338, Q_HO341, Q_HO344, Q_HO347, Q_X10_, Q_X11_⟩
               clear BK329 BK330 BK331 HB HO_330003 HO_331003 HO_332003
               have hb0_ := hall 0 (by kernel_rfl)
               have hb1_ := hall 1 (by kernel_rfl)
               have hb2_ := hall 2 (by kernel_rfl)
               have hb3_ := hall 3 (by kernel_rfl)
               have hb4_ := hall 4 (by kernel_rfl)
               have hb5_ := hall 5 (by kernel_rfl)
               have hb6_ := hall 6 (by kernel_rfl)
               have hb7_ := hall 7 (by kernel_rfl)
               have hb8_ := hall 8 (by kernel_rfl)
               have hb9_ := hall 9 (by kernel_rfl)
               have hb10_ := hall 10 (by kernel_rfl)
               have hb11_ := hall 11 (by kernel_rfl)
               subst ha
               obtain rfl := Q_X10_ hb10_
               obtain rfl := Q_X11_ hb11_
               simp only [putSel, hb0_, hb1_, hb2_, hb3_, hb4_, hb5_, hb6_, hb7_, hb8_, hb9_, hb10_, hb11_, if_true, Act.put, List.setIfInBounds_toArray, List.set_cons_zero, List.set_cons_succ]
               have HO_330003 := Aside0.mk Q_HO_330003
               clear Q_HO_330003
               have HO_331003 := Aside0.mk Q_HO_331003
               clear Q_HO_331003
               have HO_332003 := Aside0.mk Q_HO_332003
               clear Q_HO_332003
               have BK329 := Aside0.mk Q_BK329
               clear Q_BK329
               have BK330 := Aside0.mk Q_BK330
               clear Q_BK330
               have BK331 := Aside0.mk Q_BK331
               clear Q_BK331
               have HB := Aside0.mk Q_HB
               clear Q_HB
               have HO338 := Aside0.mk (Q_HO338 hb3_)
               clear Q_HO338
               have HO341 := Aside0.mk (Q_HO341 hb4_)
               clear Q_HO341
               have HO344 := Aside0.mk (Q_HO344 hb8_)
               clear Q_HO344
               have HO347 := Aside0.mk (Q_HO347 hb9_)
               clear Q_HO347
               clear hall hb0_ hb1_ hb2_ hb3_ hb4_ hb5_ hb6_ hb7_ hb8_ hb9_ hb10_ hb11_
               try go_wp2
               have n0_ := Aside0.mk (Kd.V_drew HO_330003.out)
               have n1_ := Aside0.mk (Kd.V_drew HO_331003.out)
               have n2_ := Aside0.mk (Kd.V_drew HO_332003.out)
               have n3_ := Aside0.mk (Kd.N_drew HO338.out)
               have n4_ := Aside0.mk (Kd.N_drew HO341.out)
               have n5_ := Aside0.mk (Kd.N_drew HO344.out)
               have n6_ := Aside0.mk (Kd.N_drew HO347.out)
               have n7_ := Aside0.mk (blk_drew BK329.out)
               have n8_ := Aside0.mk (blk_drew BK330.out)
               have n9_ := Aside0.mk (blk_drew BK331.out)
               have n10_ := Aside0.mk (below_drew1 HB.out)
               clear HO_330003
               clear HO_331003
               clear HO_332003
               clear HO338
               clear HO341
               clear HO344
               clear HO347
               clear BK329
               clear BK330
               clear BK331
               clear HB
               have HO_330003 := n0_
               have HO_331003 := n1_
               have HO_332003 := n2_
               have HO338 := n3_
               have HO341 := n4_
               have HO344 := n5_
               have HO347 := n6_
               have BK329 := n7_
               have BK330 := n8_
               have BK331 := n9_
               have HB := n10_
               clear n0_ n1_ n2_ n3_ n4_ n5_ n6_ n7_ n8_ n9_ n10_
               obtain ⟨Ao65, co65, eo65⟩ := Kd.N_slice HO341.out
               (first | subst eo65 | (injection eo65 with f1_ f2_ f3_; have f4_ := f1_.symm; have f5_ := f3_.symm; clear f1_ f2_ f3_; subst f4_; subst f5_))
               have p349 : 0 ≤ (0 : Int) := (by omega)
               have q349 : 0 < (t339.length : Int) := of_decide_eq_true (by first | (with_reducible assumption) | assumption)
               obtain ⟨ad349, A349_0, c349_0, e349, hx349_0, hl349_0, hi349_0⟩ := at_L3 (Kd.N_reads' HO341.out).2.2 0 p349 q349
               cases e349
               obtain ⟨ce349, hce349, hMe349, hcc349⟩ := Kd.N_get HO341.out [] 0 p349 (by first | exact q349 | exact of_decide_eq_true (by first | (with_reducible assumption) | assumption) | (have e_ := (Kd.N_reads' HO341.out).1; omega))
               obtain ⟨ua349_0, uc349_0, rfl, ul349_0, ge349_0⟩ := Kd.FK_slice_open hMe349
               have hv349_0 := hcc349 0 _ rfl
               rw [Nat.add_zero, show ((Kd.slice 3 (Kd.int .i64))).sz = 1 from rfl, Nat.mul_one] at hv349_0
               replace hv349_0 := Option.some.inj (hv349_0.symm.trans hx349_0)
               injection hv349_0 with hva_ hvn_ hvc_
               rw [hva_] at ge349_0
               rw [hvc_] at ul349_0
               have HL349_0 := Aside0.mk (show Kd.V (Kd.int .i64) 3 _ w.heap.size _ _ (rd_L3 t339 0) from Kd.V_mk ul349_0 ge349_0)
               clear hva_ hvn_ hvc_ ge349_0 ul349_0
               clear hcc349 hce349
               have qi349 : (0 < t339.length) = True := eq_true (by omega)
               (try rw [show ((0 : Int)).toNat = 0 from rfl] at hx349_0)
               (try rw [Addr.add_zero'] at hx349_0)
               have HR349_0 := Aside0.mk hi349_0
               have HC349_0 := Aside0.mk hl349_0
               clear hi349_0 hl349_0
               replace p349 := eq_true p349
               replace q349 := eq_true q349
               obtain ⟨Ao66, co66, eo66⟩ := Kd.N_slice HO347.out
               (first | subst eo66 | (injection eo66 with f1_ f2_ f3_; have f4_ := f1_.symm; have f5_ := f3_.symm; clear f1_ f2_ f3_; subst f4_; subst f5_))
               have p350 : 0 ≤ (0 : Int) := (by omega)
               have q350 : 0 < (t345.length : Int) := of_decide_eq_true (by first | (with_reducible assumption) | assumption)
               obtain ⟨ad350, A350_0, c350_0, e350, hx350_0, hl350_0, hi350_0⟩ := at_L3 (Kd.N_reads' HO347.out).2.2 0 p350 q350
               cases e350
               obtain ⟨ce350, hce350, hMe350, hcc350⟩ := Kd.N_get HO347.out [] 0 p350 (by first | exact q350 | exact of_decide_eq_true (by first | (with_reducible assumption) | assumption) | (have e_ := (Kd.N_reads' HO347.out).1; omega))
               obtain ⟨ua350_0, uc350_0, rfl, ul350_0, ge350_0⟩ := Kd.FK_slice_open hMe350
               have hv350_0 := hcc350 0 _ rfl
               rw [Nat.add_zero, show ((Kd.slice 3 (Kd.int .i64))).sz = 1 from rfl, Nat.mul_one] at hv350_0
               replace hv350_0 := Option.some.inj (hv350_0.symm.trans hx350_0)
               injection hv350_0 with hva_ hvn_ hvc_
               rw [hva_] at ge350_0
               rw [hvc_] at ul350_0
               have HL350_0 := Aside0.mk (show Kd.V (Kd.int .i64) 3 _ w.heap.size _ _ (rd_L3 t345 0) from Kd.V_mk ul350_0 ge350_0)
               clear hva_ hvn_ hvc_ ge350_0 ul350_0
               clear hcc350 hce350
               have qi350 : (0 < t345.length) = True := eq_true (by omega)
               (try rw [show ((0 : Int)).toNat = 0 from rfl] at hx350_0)
               (try rw [Addr.add_zero'] at hx350_0)
               have HR350_0 := Aside0.mk hi350_0
               have HC350_0 := Aside0.mk hl350_0
               clear hi350_0 hl350_0
               replace p350 := eq_true p350
               replace q350 := eq_true q350
               have p352 : 0 ≤ (1 : Int) := (by omega)
               have q352 : 1 < (t339.length : Int) := of_decide_eq_true (by first | (with_reducible assumption) | assumption)
               obtain ⟨ad352, A352_0, c352_0, e352, hx352_0, hl352_0, hi352_0⟩ := at_L3 (Kd.N_reads' HO341.out).2.2 1 p352 q352
               obtain rfl : ad349 = ad352 := (by injection e352)
               obtain ⟨ce352, hce352, hMe352, hcc352⟩ := Kd.N_get HO341.out [] 1 p352 (by first | exact q352 | exact of_decide_eq_true (by first | (with_reducible assumption) | assumption) | (have e_ := (Kd.N_reads' HO341.out).1; omega))
               obtain ⟨ua352_0, uc352_0, rfl, ul352_0, ge352_0⟩ := Kd.FK_slice_open hMe352
               have hv352_0 := hcc352 0 _ rfl
               rw [Nat.add_zero, show ((Kd.slice 3 (Kd.int .i64))).sz = 1 from rfl, Nat.mul_one] at hv352_0
               replace hv352_0 := Option.some.inj (hv352_0.symm.trans hx352_0)
               injection hv352_0 with hva_ hvn_ hvc_
               rw [hva_] at ge352_0
               rw [hvc_] at ul352_0
               have HL352_0 := Aside0.mk (show Kd.V (Kd.int .i64) 3 _ w.heap.size _ _ (rd_L3 t339 1) from Kd.V_mk ul352_0 ge352_0)
               clear hva_ hvn_ hvc_ ge352_0 ul352_0
               clear hcc352 hce352
               (try simp only [show (1 : Int).toNat = 1 from rfl, Nat.reduceMul, Nat.reduceEqDiff, Go.Addr.add, ↓reduceIte] at hx352_0)
               have qi352 : (1 < t339.length) = True := eq_true (by omega)
               (try rw [show ((1 : Int)).toNat = 1 from rfl] at hx352_0)
               have HR352_0 := Aside0.mk hi352_0
               have HC352_0 := Aside0.mk hl352_0
               clear hi352_0 hl352_0
               replace p352 := eq_true p352
               replace q352 := eq_true q352
               have p353 : 0 ≤ (1 : Int) := (by omega)
               have q353 : 1 < (t345.length : Int) := of_decide_eq_true (by first | (with_reducible assumption) | assumption)
               obtain ⟨ad353, A353_0, c353_0, e353, hx353_0, hl353_0, hi353_0⟩ := at_L3 (Kd.N_reads' HO347.out).2.2 1 p353 q353
               obtain rfl : ad350 = ad353 := (by injection e353)
               obtain ⟨ce353, hce353, hMe353, hcc353⟩ := Kd.N_get HO347.out [] 1 p353 (by first | exact q353 | exact of_decide_eq_true (by first | (with_reducible assumption) | assumption) | (have e_ := (Kd.N_reads' HO347.out).1; omega))
               obtain ⟨ua353_0, uc353_0, rfl, ul353_0, ge353_0⟩ := Kd.FK_slice_open hMe353
               have hv353_0 := hcc353 0 _ rfl
               rw [Nat.add_zero, show ((Kd.slice 3 (Kd.int .i64))).sz = 1 from rfl, Nat.mul_one] at hv353_0
               replace hv353_0 := Option.some.inj (hv353_0.symm.trans hx353_0)
               injection hv353_0 with hva_ hvn_ hvc_
               rw [hva_] at ge353_0
               rw [hvc_] at ul353_0
               have HL353_0 := Aside0.mk (show Kd.V (Kd.int .i64) 3 _ w.heap.size _ _ (rd_L3 t345 1) from Kd.V_mk ul353_0 ge353_0)
               clear hva_ hvn_ hvc_ ge353_0 ul353_0
               clear hcc353 hce353
               (try simp only [show (1 : Int).toNat = 1 from rfl, Nat.reduceMul, Nat.reduceEqDiff, Go.Addr.add, ↓reduceIte] at hx353_0)
               have qi353 : (1 < t345.length) = True := eq_true (by omega)
               (try rw [show ((1 : Int)).toNat = 1 from rfl] at hx353_0)
               have HR353_0 := Aside0.mk hi353_0
               have HC353_0 := Aside0.mk hl353_0
               clear hi353_0 hl353_0
               replace p353 := eq_true p353
               replace q353 := eq_true q353
               have p355 : 0 ≤ (2 : Int) := (by omega)
               have q355 : 2 < (t339.length : Int) := of_decide_eq_true (by first | (with_reducible assumption) | assumption)
               obtain ⟨ad355, A355_0, c355_0, e355, hx355_0, hl355_0, hi355_0⟩ := at_L3 (Kd.N_reads' HO341.out).2.2 2 p355 q355
               obtain rfl : ad349 = ad355 := (by injection e355)
               obtain ⟨ce355, hce355, hMe355, hcc355⟩ := Kd.N_get HO341.out [] 2 p355 (by first | exact q355 | exact of_decide_eq_true (by first | (with_reducible assumption) | assumption) | (have e_ := (Kd.N_reads' HO341.out).1; omega))
               obtain ⟨ua355_0, uc355_0, rfl, ul355_0, ge355_0⟩ := Kd.FK_slice_open hMe355
               have hv355_0 := hcc355 0 _ rfl
               rw [Nat.add_zero, show ((Kd.slice 3 (Kd.int .i64))).sz = 1 from rfl, Nat.mul_one] at hv355_0
               replace hv355_0 := Option.some.inj (hv355_0.symm.trans hx355_0)
               injection hv355_0 with hva_ hvn_ hvc_
               rw [hva_] at ge355_0
               rw [hvc_] at ul355_0
               have HL355_0 := Aside0.mk (show Kd.V (Kd.int .i64) 3 _ w.heap.size _ _ (rd_L3 t339 2) from Kd.V_mk ul355_0 ge355_0)
               clear hva_ hvn_ hvc_ ge355_0 ul355_0
               clear hcc355 hce355
               (try simp only [show (2 : Int).toNat = 2 from rfl, Nat.reduceMul, Nat.reduceEqDiff, Go.Addr.add, ↓reduceIte] at hx355_0)
               have qi355 : (2 < t339.length) = True := eq_true (by omega)
               (try rw [show ((2 : Int)).toNat = 2 from rfl] at hx355_0)
               have HR355_0 := Aside0.mk hi355_0
               have HC355_0 := Aside0.mk hl355_0
               clear hi355_0 hl355_0
               replace p355 := eq_true p355
               replace q355 := eq_true q355
               have p356 : 0 ≤ (2 : Int) := (by omega)
               have q356 : 2 < (t345.length : Int) := of_decide_eq_true (by first | (with_reducible assumption) | assumption)
               obtain ⟨ad356, A356_0, c356_0, e356, hx356_0, hl356_0, hi356_0⟩ := at_L3 (Kd.N_reads' HO347.out).2.2 2 p356 q356
               obtain rfl : ad350 = ad356 := (by injection e356)
               obtain ⟨ce356, hce356, hMe356, hcc356⟩ := Kd.N_get HO347.out [] 2 p356 (by first | exact q356 | exact of_decide_eq_true (by first | (with_reducible assumption) | assumption) | (have e_ := (Kd.N_reads' HO347.out).1; omega))
               obtain ⟨ua356_0, uc356_0, rfl, ul356_0, ge356_0⟩ := Kd.FK_slice_open hMe356
               have hv356_0 := hcc356 0 _ rfl
               rw [Nat.add_zero, show ((Kd.slice 3 (Kd.int .i64))).sz = 1 from rfl, Nat.mul_one] at hv356_0
               replace hv356_0 := Option.some.inj (hv356_0.symm.trans hx356_0)
               injection hv356_0 with hva_ hvn_ hvc_
               rw [hva_] at ge356_0
               rw [hvc_] at ul356_0
               have HL356_0 := Aside0.mk (show Kd.V (Kd.int .i64) 3 _ w.heap.size _ _ (rd_L3 t345 2) from Kd.V_mk ul356_0 ge356_0)
               clear hva_ hvn_ hvc_ ge356_0 ul356_0
               clear hcc356 hce356
               (try simp only [show (2 : Int).toNat = 2 from rfl, Nat.reduceMul, Nat.reduceEqDiff, Go.Addr.add, ↓reduceIte] at hx356_0)
               have qi356 : (2 < t345.length) = True := eq_true (by omega)
               (try rw [show ((2 : Int)).toNat = 2 from rfl] at hx356_0)
               have HR356_0 := Aside0.mk hi356_0
               have HC356_0 := Aside0.mk hl356_0
               clear hi356_0 hl356_0
               replace p356 := eq_true p356
               replace q356 := eq_true q356
               refine start_ (n := 34) (S := fun w' => w'.cell? ad349 = some (.slice A349_0 (rd_L3 t339 0).length c349_0) ∧ w'.cell? ad350 = some (.slice A350_0 (rd_L3 t345 0).length c350_0) ∧ w'.cell? ⟨ad349.block, ad349.off + 1, none⟩ = some (.slice A352_0 (rd_L3 t339 1).length c352_0) ∧ w'.cell? ⟨ad350.block, ad350.off + 1, none⟩ = some (.slice A353_0 (rd_L3 t345 1).length c353_0) ∧ w'.cell? ⟨ad349.block, ad349.off + 2, none⟩ = some (.slice A355_0 (rd_L3 t339 2).length c355_0) ∧ w'.cell? ⟨ad350.block, ad350.off + 2, none⟩ = some (.slice A356_0 (rd_L3 t345 2).length c356_0)) (ds := []) #[false, false, false, false, false, false, false, false, false, false, false, false, false, false, false, false, false, false, false, false, false, false, false, false, false, false, false, false, false, false, false, false, false, false] (by kernel_rfl) rfl rfl ⟨hx349_0, hx350_0, hx352_0, hx353_0, hx355_0, hx356_0⟩ (fun hHeld => ?_); refine with_tabW scarflaw10_ShapeMarks.tab4 scarflaw10_ShapeMarks.bits4 (fun HT_ HW_ => ?_)
               generalize w63.drew = w64 at HO_330003 HO_331003 HO_332003 HO338 HO341 HO344 HO347 BK329 BK330 BK331 HB HL349_0 HL350_0 HL352_0 HL353_0 HL355_0 HL356_0 HR349_0 HR350_0 HR352_0 HR353_0 HR355_0 HR356_0 hx349_0 hx350_0 hx352_0 hx353_0 hx355_0 hx356_0 hHeld ⊢
               refine one_ (i := 0) (N := some 33) #[true, false, false, false, false, false, false, false, false, false, false, false, false, false, false, false, false, false, false, false, false, false, false, false, false, false, false, false, false, false, false, false, false, false] rfl rfl (one_of HT_.out (by kernel_rfl)) (by decide) (fun K hK => ?_)
               refine goes_ Tryd.func9 (by kernel_rfl) rfl #[] (by rfl) rfl rfl (by (try simp only [List.map_toArray, List.map_cons, List.map_nil]); first | done | rfl | (simp only [List.length_drop, List.length_take]; rfl)) ?_
               with_reducible refine (scarflaw10_known.callsA kj3  true _ (tab_below HTAB.out (by repeat (first | (with_reducible first | exact HB.out | apply below_alloc | apply pw_below_drewN | apply below_drew1 | refine below_set ?_ GE329.out | refine below_set ?_ GE330.out | refine below_set ?_ GE331.out) | exact HB.out))) A39.out).mono ?_
               rintro e w67 ⟨rfl, hb⟩
               have HS0_ := (hb.cell (World.block_lt_of_cell? _ _ (hHeld.1))).trans (hHeld.1)
               have HS1_ := (hb.cell (World.block_lt_of_cell? _ _ (hHeld.2.1))).trans (hHeld.2.1)
               have HS2_ := (hb.cell (World.block_lt_of_cell? _ _ (hHeld.2.2.1))).trans (hHeld.2.2.1)
               have HS3_ := (hb.cell (World.block_lt_of_cell? _ _ (hHeld.2.2.2.1))).trans (hHeld.2.2.2.1)
               have HS4_ := (hb.cell (World.block_lt_of_cell? _ _ (hHeld.2.2.2.2.1))).trans (hHeld.2.2.2.2.1)
               have HS5_ := (hb.cell (World.block_lt_of_cell? _ _ (hHeld.2.2.2.2.2))).trans (hHeld.2.2.2.2.2)
               refine ⟨_, rfl, ?_⟩
               have n0_ := Aside0.mk (Kd.V_below (by (with_reducible repeat (first | apply Kd.V_alloc | apply Kd.V_drewN | apply Kd.V_drew)); exact HO_330003.out) hb)
               have n1_ := Aside0.mk (Kd.V_below (by (with_reducible repeat (first | apply Kd.V_alloc | apply Kd.V_drewN | apply Kd.V_drew)); exact HO_331003.out) hb)
               have n2_ := Aside0.mk (Kd.V_below (by (with_reducible repeat (first | apply Kd.V_alloc | apply Kd.V_drewN | apply Kd.V_drew)); exact HO_332003.out) hb)
               have n3_ := Aside0.mk (Kd.N_below (by (with_reducible repeat (first | apply Kd.N_alloc | apply Kd.N_drewN | apply Kd.N_drew)); exact HO338.out) hb)
               have n4_ := Aside0.mk (Kd.N_below (by (with_reducible repeat (first | apply Kd.N_alloc | apply Kd.N_drewN | apply Kd.N_drew)); exact HO341.out) hb)
               have n5_ := Aside0.mk (Kd.N_below (by (with_reducible repeat (first | apply Kd.N_alloc | apply Kd.N_drewN | apply Kd.N_drew)); exact HO344.out) hb)
               have n6_ := Aside0.mk (Kd.N_below (by (with_reducible repeat (first | apply Kd.N_alloc | apply Kd.N_drewN | apply Kd.N_drew)); exact HO347.out) hb)
               have n7_ := Aside0.mk (Kd.V_below (by (with_reducible repeat (first | apply Kd.V_alloc | apply Kd.V_drewN | apply Kd.V_drew)); exact HL349_0.out) hb)
               have n8_ := Aside0.mk (Kd.V_below (by (with_reducible repeat (first | apply Kd.V_alloc | apply Kd.V_drewN | apply Kd.V_drew)); exact HL350_0.out) hb)
               have n9_ := Aside0.mk (Kd.V_below (by (with_reducible repeat (first | apply Kd.V_alloc | apply Kd.V_drewN | apply Kd.V_drew)); exact HL352_0.out) hb)
               have n10_ := Aside0.mk (Kd.V_below (by (with_reducible repeat (first | apply Kd.V_alloc | apply Kd.V_drewN | apply Kd.V_drew)); exact HL353_0.out) hb)
               have n11_ := Aside0.mk (Kd.V_below (by (with_reducible repeat (first | apply Kd.V_alloc | apply Kd.V_drewN | apply Kd.V_drew)); exact HL355_0.out) hb)
               have n12_ := Aside0.mk (Kd.V_below (by (with_reducible repeat (first | apply Kd.V_alloc | apply Kd.V_drewN | apply Kd.V_drew)); exact HL356_0.out) hb)
               have n13_ := Aside0.mk (blk_below (g := gb329) (o := .cells #[.int .i64 a0_0, .string a0_1, .string a0_2, .slice A0_3 l0_3.length c0_3] 24 (0, 0)) (by (with_reducible repeat (first | refine blk_drewN ?_ _ | refine blk_drew ?_ | refine blk_alloc ?_ _)); exact BK329.out) hb)
               have n14_ := Aside0.mk (blk_below (g := gb330) (o := .cells #[.int .i64 a1_0, .string a1_1, .string a1_2, .slice A1_3 l1_3.length c1_3] 24 (0, 0)) (by (with_reducible repeat (first | refine blk_drewN ?_ _ | refine blk_drew ?_ | refine blk_alloc ?_ _)); exact BK330.out) hb)
               have n15_ := Aside0.mk (blk_below (g := gb331) (o := .cells #[.int .i64 a2_0, .string a2_1, .string a2_2, .slice A2_3 l2_3.length c2_3] 24 (0, 0)) (by (with_reducible repeat (first | refine blk_drewN ?_ _ | refine blk_drew ?_ | refine blk_alloc ?_ _)); exact BK331.out) hb)
               have n16_ := Aside0.mk (Kd.C_below (by repeat (first | (with_reducible exact HR349_0.out) | (with_reducible refine Kd.C_alloc ?_ _) | (with_reducible refine Kd.C_drewN ?_ _) | (with_reducible refine Kd.C_drew ?_) | exact HR349_0.out)) hb)
               have n17_ := Aside0.mk (Kd.C_below (by repeat (first | (with_reducible exact HR350_0.out) | (with_reducible refine Kd.C_alloc ?_ _) | (with_reducible refine Kd.C_drewN ?_ _) | (with_reducible refine Kd.C_drew ?_) | exact HR350_0.out)) hb)
               have n18_ := Aside0.mk (Kd.C_below (by repeat (first | (with_reducible exact HR352_0.out) | (with_reducible refine Kd.C_alloc ?_ _) | (with_reducible refine Kd.C_drewN ?_ _) | (with_reducible refine Kd.C_drew ?_) | exact HR352_0.out)) hb)
               have n19_ := Aside0.mk (Kd.C_below (by repeat (first | (with_reducible exact HR353_0.out) | (with_reducible refine Kd.C_alloc ?_ _) | (with_reducible refine Kd.C_drewN ?_ _) | (with_reducible refine Kd.C_drew ?_) | exact HR353_0.out)) hb)
               have n20_ := Aside0.mk (Kd.C_below (by repeat (first | (with_reducible exact HR355_0.out) | (with_reducible refine Kd.C_alloc ?_ _) | (with_reducible refine Kd.C_drewN ?_ _) | (with_reducible refine Kd.C_drew ?_) | exact HR355_0.out)) hb)
               have n21_ := Aside0.mk (Kd.C_below (by repeat (first | (with_reducible exact HR356_0.out) | (with_reducible refine Kd.C_alloc ?_ _) | (with_reducible refine Kd.C_drewN ?_ _) | (with_reducible refine Kd.C_drew ?_) | exact HR356_0.out)) hb)
               have n22_ := Aside0.mk (below_step (by repeat (first | (with_reducible first | exact HB.out | apply below_alloc | apply pw_below_drewN | apply below_drew1 | refine below_set ?_ GE329.out | refine below_set ?_ GE330.out | refine below_set ?_ GE331.out) | exact HB.out)) hb)
               clear HO_330003
               clear HO_331003
               clear HO_332003
               clear HO338
               clear HO341
               clear HO344
               clear HO347
               clear HL349_0
               clear HL350_0
               clear HL352_0
               clear HL353_0
               clear HL355_0
               clear HL356_0
               clear BK329
               clear BK330
               clear BK331
               clear HR349_0
               clear HR350_0
               clear HR352_0
               clear HR353_0
               clear HR355_0
               clear HR356_0
               clear HB
               have HO_330003 := n0_
               have HO_331003 := n1_
               have HO_332003 := n2_
               have HO338 := n3_
               have HO341 := n4_
               have HO344 := n5_
               have HO347 := n6_
               have HL349_0 := n7_
               have HL350_0 := n8_
               have HL352_0 := n9_
               have HL353_0 := n10_
               have HL355_0 := n11_
               have HL356_0 := n12_
               have BK329 := n13_
               have BK330 := n14_
               have BK331 := n15_
               have HR349_0 := n16_
               have HR350_0 := n17_
               have HR352_0 := n18_
               have HR353_0 := n19_
               have HR355_0 := n20_
               have HR356_0 := n21_
               have HB := n22_
               clear n0_ n1_ n2_ n3_ n4_ n5_ n6_ n7_ n8_ n9_ n10_ n11_ n12_ n13_ n14_ n15_ n16_ n17_ n18_ n19_ n20_ n21_ n22_
               (try clear hb)
               (try clear hb2)
               (try clear hk)
               (try clear hi)
               refine hK.out _ _ ⟨HS0_, HS1_, HS2_, HS3_, HS4_, HS5_⟩ (fun hHeld => ?_)
               clear hK K
               refine norm_ (a' := ?_) ?_ ?_
               rotate_left
               ·show Act.put _ (some 33) _ = _
                simp only [Act.put, List.setIfInBounds_toArray, List.set_cons_zero, List.set_cons_succ, i64_w, i32_w]
                rfl
               refine pure_ (i := 1) (N := some 34) (v := ?_) (a' := ?_) #[true, true, false, false, false, false, false, false, false, false, false, false, false, false, false, false, false, false, false, false, false, false, false, false, false, false, false, false, false, false, false, false, false, false] rfl rfl (any_of HT_.out (by kernel_rfl)) (fun _ _ _ h => h) (Or.inl ⟨by rfl, ?_⟩) ?_ ?_
               rotate_left
               ·intro w'
                go_simp
                with_reducible rfl
               rotate_left
               ·simp only [Act.put, List.setIfInBounds_toArray, List.set_cons_zero, List.set_cons_succ, i64_w, i32_w]
                rfl
               refine pure_ (i := 2) (N := some 35) (v := ?_) (a' := ?_) #[true, true, true, false, false, false, false, false, false, false, false, false, false, false, false, false, false, false, false, false, false, false, false, false, false, false, false, false, false, false, false, false, false, false] rfl rfl (any_of HT_.out (by kernel_rfl)) (fun _ _ _ h => h) (Or.inl ⟨by rfl, ?_⟩) ?_ ?_
               rotate_left
               ·intro w'
                go_simp
                with_reducible rfl
               rotate_left
               ·simp only [Act.put, List.setIfInBounds_toArray, List.set_cons_zero, List.set_cons_succ, i64_w, i32_w]
                rfl
               refine pure_ (i := 3) (N := some 36) (v := ?_) (a' := ?_) #[true, true, true, true, false, false, false, false, false, false, false, false, false, false, false, false, false, false, false, false, false, false, false, false, false, false, false, false, false, false, false, false, false, false] rfl rfl (any_of HT_.out (by kernel_rfl)) (fun _ _ _ h => h) (Or.inl ⟨by rfl, ?_⟩) ?_ ?_
               rotate_left
               ·intro w'
                go_simp
                with_reducible rfl
               rotate_left
               ·simp only [Act.put, List.setIfInBounds_toArray, List.set_cons_zero, List.set_cons_succ, i64_w, i32_w]
                rfl
               refine pure_ (i := 4) (N := some 37) (v := ?_) (a' := ?_) #[true, true, true, true, true, false, false, false, false, false, false, false, false, false, false, false, false, false, false, false, false, false, false, false, false, false, false, false, false, false, false, false, false, false] rfl rfl (any_of HT_.out (by kernel_rfl)) (fun _ _ _ h => h) (Or.inl ⟨by rfl, ?_⟩) ?_ ?_
               rotate_left
               ·intro w'
                go_simp
                with_reducible rfl
               rotate_left
               ·simp only [Act.put, List.setIfInBounds_toArray, List.set_cons_zero, List.set_cons_succ, i64_w, i32_w]
                rfl
               refine pure_ (i := 5) (N := some 38) (v := ?_) (a' := ?_) #[true, true, true, true, true, true, false, false, false, false, false, false, false, false, false, false, false, false, false, false, false, false, false, false, false, false, false, false, false, false, false, false, false, false] rfl rfl (any_of HT_.out (by kernel_rfl)) (fun _ _ _ h => h) (Or.inl ⟨by rfl, ?_⟩) ?_ ?_
               rotate_left
               ·intro w'
                go_simp
                with_reducible rfl
               rotate_left
               ·simp only [Act.put, List.setIfInBounds_toArray, List.set_cons_zero, List.set_cons_succ, i64_w, i32_w]
                rfl
               refine pure_ (i := 6) (N := some 39) (v := ?_) (a' := ?_) #[true, true, true, true, true, true, true, false, false, false, false, false, false, false, false, false, false, false, false, false, false, false, false, false, false, false, false, false, false, false, false, false, false, false] rfl rfl (any_of HT_.out (by kernel_rfl)) (fun _ _ _ h => h) (Or.inl ⟨by rfl, ?_⟩) ?_ ?_
               rotate_left
               ·intro w'
                go_simp
                with_reducible rfl
               rotate_left
               ·simp only [Act.put, List.setIfInBounds_toArray, List.set_cons_zero, List.set_cons_succ, i64_w, i32_w]
                rfl
               refine pure_ (i := 7) (N := some 40) (v := ?_) (a' := ?_) #[true, true, true, true, true, true, true, true, false, false, false, false, false, false, false, false, false, false, false, false, false, false, false, false, false, false, false, false, false, false, false, false, false, false] rfl rfl (any_of HT_.out (by kernel_rfl)) (fun _ _ _ h => h) (Or.inl ⟨by rfl, ?_⟩) ?_ ?_
               rotate_left
               ·intro w'
                go_simp
                with_reducible rfl
               rotate_left
               ·simp only [Act.put, List.setIfInBounds_toArray, List.set_cons_zero, List.set_cons_succ, i64_w, i32_w]
                rfl
               refine pure_ (i := 8) (N := some 41) (v := ?_) (a' := ?_) #[true, true, true, true, true, true, true, true, true, false, false, false, false, false, false, false, false, false, false, false, false, false, false, false, false, false, false, false, false, false, false, false, false, false] rfl rfl (any_of HT_.out (by kernel_rfl)) (fun _ _ _ h => h) (Or.inl ⟨by rfl, ?_⟩) ?_ ?_
               rotate_left
               ·intro w'
                go_simp
                with_reducible rfl
               rotate_left
               ·simp only [Act.put, List.setIfInBounds_toArray, List.set_cons_zero, List.set_cons_succ, i64_w, i32_w]
                rfl
               refine pure_ (i := 10) (N := some 43) (v := ?_) (a' := ?_) #[true, true, true, true, true, true, true, true, true, false, true, false, false, false, false, false, false, false, false, false, false, false, false, false, false, false, false, false, false, false, false, false, false, false] rfl rfl (any_of HT_.out (by kernel_rfl)) (fun _ _ _ h => h) (Or.inl ⟨by rfl, ?_⟩) ?_ ?_
               rotate_left
               ·intro w'
                go_simp
                with_reducible rfl
               rotate_left
               ·simp only [Act.put, List.setIfInBounds_toArray, List.set_cons_zero, List.set_cons_succ, i64_w, i32_w]
                rfl
               refine pure_ (i := 11) (N := some 44) (v := ?_) (a' := ?_) #[true, true, true, true, true, true, true, true, true, false, true, true, false, false, false, false, false, false, false, false, false, false, false, false, false, false, false, false, false, false, false, false, false, false] rfl rfl (any_of HT_.out (by kernel_rfl)) (fun _ _ _ h => h) (Or.inl ⟨by rfl, ?_⟩) ?_ ?_
               rotate_left
               ·intro w'
                go_simp
                with_reducible rfl
               rotate_left
               ·simp only [Act.put, List.setIfInBounds_toArray, List.set_cons_zero, List.set_cons_succ, i64_w, i32_w]
                rfl
               refine take_ (i := 9) (N := some 42) (v := ?_) (a' := ?_) #[true, true, true, true, true, true, true, true, true, true, true, true, false, false, false, false, false, false, false, false, false, false, false, false, false, false, false, false, false, false, false, false, false, false] rfl rfl (take_ofW HT_.out HW_.out (by kernel_rfl)) (fun _ _ _ h => h) (Or.inl ⟨by rfl, ?_⟩) hHeld ?_ ?_
               rotate_left
               ·rintro w' ⟨s0, s1, s2, s3, s4, s5⟩
                go_simp
                with_reducible rfl
               rotate_left
               ·simp only [Act.put, List.setIfInBounds_toArray, List.set_cons_zero, List.set_cons_succ, i64_w, i32_w]
                rfl
               refine take_ (i := 12) (N := some 45) (v := ?_) (a' := ?_) #[true, true, true, true, true, true, true, true, true, true, true, true, true, false, false, false, false, false, false, false, false, false, false, false, false, false, false, false, false, false, false, false, false, false] rfl rfl (take_ofW HT_.out HW_.out (by kernel_rfl)) (fun _ _ _ h => h) (Or.inl ⟨by rfl, ?_⟩) hHeld ?_ ?_
               rotate_left
               ·rintro w' ⟨s0, s1, s2, s3, s4, s5⟩
                go_simp
                with_reducible rfl
               rotate_left
               ·simp only [Act.put, List.setIfInBounds_toArray, List.set_cons_zero, List.set_cons_succ, i64_w, i32_w]
                rfl
               refine one_ (i := 13) (N := some 46) #[true, true, true, true, true, true, true, true, true, true, true, true, true, true, false, false, false, false, false, false, false, false, false, false, false, false, false, false, false, false, false, false, false, false] rfl rfl (one_of HT_.out (by kernel_rfl)) (by decide) (fun K hK => ?_)
               refine goes_ Tryd.func12 (by kernel_rfl) rfl #[.slice A349_0 (rd_L3 t339 0).length c349_0, .slice A350_0 (rd_L3 t345 0).length c350_0] (by rfl) rfl rfl (by (try simp only [List.map_toArray, List.map_cons, List.map_nil]); first | done | rfl | (simp only [List.length_drop, List.length_take]; rfl)) ?_
               with_reducible refine (scarfref03_Same.calls kj3 _ _ (rd_L3 t339 0) _ _ (rd_L3 t345 0) true _ ?side1 ?side2 ?side3 ?side4 A44.out).mono ?_
               (case side1 => repeat (first | exact (by repeat (first | (with_reducible exact HR349_0.out) | (with_reducible refine Kd.C_alloc ?_ _) | (with_reducible refine Kd.C_drewN ?_ _) | (with_reducible refine Kd.C_drew ?_) | exact HR349_0.out)) | (with_reducible refine Kd.C_alloc ?_ _) | (with_reducible refine Kd.C_drewN ?_ _) | (with_reducible refine Kd.C_drew ?_)))
               (case side2 => exact HC349_0.out)
               (case side3 => repeat (first | exact (by repeat (first | (with_reducible exact HR350_0.out) | (with_reducible refine Kd.C_alloc ?_ _) | (with_reducible refine Kd.C_drewN ?_ _) | (with_reducible refine Kd.C_drew ?_) | exact HR350_0.out)) | (with_reducible refine Kd.C_alloc ?_ _) | (with_reducible refine Kd.C_drewN ?_ _) | (with_reducible refine Kd.C_drew ?_)))
               (case side4 => exact HC350_0.out)
               rintro e w' ⟨rfl, ⟨nd, rfl⟩⟩
               refine ⟨_, rfl, ?_⟩
               refine hK.out _ _ ⟨hHeld.1, hHeld.2.1, hHeld.2.2.1, hHeld.2.2.2.1, hHeld.2.2.2.2.1, hHeld.2.2.2.2.2⟩ (fun hHeld => ?_)
               clear hK K
               refine norm_ (a' := ?_) ?_ ?_
               rotate_left
               ·show Act.put _ (some 46) _ = _
                simp only [Act.put, List.setIfInBounds_toArray, List.set_cons_zero, List.set_cons_succ, i64_w, i32_w]
                rfl
               refine pure_ (i := 14) (N := some 47) (v := ?_) (a' := ?_) #[true, true, true, true, true, true, true, true, true, true, true, true, true, true, true, false, false, false, false, false, false, false, false, false, false, false, false, false, false, false, false, false, false, false] rfl rfl (any_of HT_.out (by kernel_rfl)) (fun _ _ _ h => h) (Or.inl ⟨by rfl, ?_⟩) ?_ ?_
               rotate_left
               ·intro w'
                go_simp
                with_reducible rfl
               rotate_left
               ·simp only [Act.put, List.setIfInBounds_toArray, List.set_cons_zero, List.set_cons_succ, i64_w, i32_w]
                rfl
               refine pure_ (i := 15) (N := some 48) (v := ?_) (a' := ?_) #[true, true, true, true, true, true, true, true, true, true, true, true, true, true, true, true, false, false, false, false, false, false, false, false, false, false, false, false, false, false, false, false, false, false] rfl rfl (any_of HT_.out (by kernel_rfl)) (fun _ _ _ h => h) (Or.inl ⟨by rfl, ?_⟩) ?_ ?_
               rotate_left
               ·intro w'
                go_simp
                with_reducible rfl
               rotate_left
               ·simp only [Act.put, List.setIfInBounds_toArray, List.set_cons_zero, List.set_cons_succ, i64_w, i32_w]
                rfl
               refine pure_ (i := 16) (N := some 49) (v := ?_) (a' := ?_) #[true, true, true, true, true, true, true, true, true, true, true, true, true, true, true, true, true, false, false, false, false, false, false, false, false, false, false, false, false, false, false, false, false, false] rfl rfl (any_of HT_.out (by kernel_rfl)) (fun _ _ _ h => h) (Or.inl ⟨by rfl, ?_⟩) ?_ ?_
               rotate_left
               ·intro w'
                go_simp
                with_reducible rfl
               rotate_left
               ·simp only [Act.put, List.setIfInBounds_toArray, List.set_cons_zero, List.set_cons_succ, i64_w, i32_w]
                rfl
               refine pure_ (i := 17) (N := some 50) (v := ?_) (a' := ?_) #[true, true, true, true, true, true, true, true, true, true, true, true, true, true, true, true, true, true, false, false, false, false, false, false, false, false, false, false, false, false, false, false, false, false] rfl rfl (any_of HT_.out (by kernel_rfl)) (fun _ _ _ h => h) (Or.inl ⟨by rfl, ?_⟩) ?_ ?_
               rotate_left
               ·intro w'
                go_simp
                with_reducible rfl
               rotate_left
               ·simp only [Act.put, List.setIfInBounds_toArray, List.set_cons_zero, List.set_cons_succ, i64_w, i32_w]
                rfl
               refine pure_ (i := 19) (N := some 52) (v := ?_) (a' := ?_) #[true, true, true, true, true, true, true, true, true, true, true, true, true, true, true, true, true, true, false, true, false, false, false, false, false, false, false, false, false, false, false, false, false, false] rfl rfl (any_of HT_.out (by kernel_rfl)) (fun _ _ _ h => h) (Or.inl ⟨by rfl, ?_⟩) ?_ ?_
               rotate_left
               ·intro w'
                go_simp
                with_reducible rfl
               rotate_left
               ·simp only [Act.put, List.setIfInBounds_toArray, List.set_cons_zero, List.set_cons_succ, i64_w, i32_w]
                rfl
               refine pure_ (i := 20) (N := some 53) (v := ?_) (a' := ?_) #[true, true, true, true, true, true, true, true, true, true, true, true, true, true, true, true, true, true, false, true, true, false, false, false, false, false, false, false, false, false, false, false, false, false] rfl rfl (any_of HT_.out (by kernel_rfl)) (fun _ _ _ h => h) (Or.inl ⟨by rfl, ?_⟩) ?_ ?_
               rotate_left
               ·intro w'
                go_simp
                with_reducible rfl
               rotate_left
               ·simp only [Act.put, List.setIfInBounds_toArray, List.set_cons_zero, List.set_cons_succ, i64_w, i32_w]
                rfl
               refine take_ (i := 18) (N := some 51) (v := ?_) (a' := ?_) #[true, true, true, true, true, true, true, true, true, true, true, true, true, true, true, true, true, true, true, true, true, false, false, false, false, false, false, false, false, false, false, false, false, false] rfl rfl (take_ofW HT_.out HW_.out (by kernel_rfl)) (fun _ _ _ h => h) (Or.inl ⟨by rfl, ?_⟩) hHeld ?_ ?_
               rotate_left
               ·rintro w' ⟨s0, s1, s2, s3, s4, s5⟩
                go_simp
                with_reducible rfl
               rotate_left
               ·simp only [Act.put, List.setIfInBounds_toArray, List.set_cons_zero, List.set_cons_succ, i64_w, i32_w]
                rfl
               refine take_ (i := 21) (N := some 54) (v := ?_) (a' := ?_) #[true, true, true, true, true, true, true, true, true, true, true, true, true, true, true, true, true, true, true, true, true, true, false, false, false, false, false, false, false, false, false, false, false, false] rfl rfl (take_ofW HT_.out HW_.out (by kernel_rfl)) (fun _ _ _ h => h) (Or.inl ⟨by rfl, ?_⟩) hHeld ?_ ?_
               rotate_left
               ·rintro w' ⟨s0, s1, s2, s3, s4, s5⟩
                go_simp
                with_reducible rfl
               rotate_left
               ·simp only [Act.put, List.setIfInBounds_toArray, List.set_cons_zero, List.set_cons_succ, i64_w, i32_w]
                rfl
               refine one_ (i := 22) (N := some 55) #[true, true, true, true, true, true, true, true, true, true, true, true, true, true, true, true, true, true, true, true, true, true, true, false, false, false, false, false, false, false, false, false, false, false] rfl rfl (one_of HT_.out (by kernel_rfl)) (by decide) (fun K hK => ?_)
               refine goes_ Tryd.func12 (by kernel_rfl) rfl #[.slice A352_0 (rd_L3 t339 1).length c352_0, .slice A353_0 (rd_L3 t345 1).length c353_0] (by rfl) rfl rfl (by (try simp only [List.map_toArray, List.map_cons, List.map_nil]); first | done | rfl | (simp only [List.length_drop, List.length_take]; rfl)) ?_
               with_reducible refine (scarfref03_Same.calls kj3 _ _ (rd_L3 t339 1) _ _ (rd_L3 t345 1) true _ ?side1 ?side2 ?side3 ?side4 A48.out).mono ?_
               (case side1 => repeat (first | exact (by repeat (first | (with_reducible exact HR352_0.out) | (with_reducible refine Kd.C_alloc ?_ _) | (with_reducible refine Kd.C_drewN ?_ _) | (with_reducible refine Kd.C_drew ?_) | exact HR352_0.out)) | (with_reducible refine Kd.C_alloc ?_ _) | (with_reducible refine Kd.C_drewN ?_ _) | (with_reducible refine Kd.C_drew ?_)))
               (case side2 => exact HC352_0.out)
               (case side3 => repeat (first | exact (by repeat (first | (with_reducible exact HR353_0.out) | (with_reducible refine Kd.C_alloc ?_ _) | (with_reducible refine Kd.C_drewN ?_ _) | (with_reducible refine Kd.C_drew ?_) | exact HR353_0.out)) | (with_reducible refine Kd.C_alloc ?_ _) | (with_reducible refine Kd.C_drewN ?_ _) | (with_reducible refine Kd.C_drew ?_)))
               (case side4 => exact HC353_0.out)
               rintro e w' ⟨rfl, ⟨nd, rfl⟩⟩
               refine ⟨_, rfl, ?_⟩
               refine hK.out _ _ ⟨hHeld.1, hHeld.2.1, hHeld.2.2.1, hHeld.2.2.2.1, hHeld.2.2.2.2.1, hHeld.2.2.2.2.2⟩ (fun hHeld => ?_)
               clear hK K
               refine norm_ (a' := ?_) ?_ ?_
               rotate_left
               ·show Act.put _ (some 55) _ = _
                simp only [Act.put, List.setIfInBounds_toArray, List.set_cons_zero, List.set_cons_succ, i64_w, i32_w]
                rfl
               refine pure_ (i := 23) (N := some 56) (v := ?_) (a' := ?_) #[true, true, true, true, true, true, true, true, true, true, true, true, true, true, true, true, true, true, true, true, true, true, true, true, false, false, false, false, false, false, false, false, false, false] rfl rfl (any_of HT_.out (by kernel_rfl)) (fun _ _ _ h => h) (Or.inl ⟨by rfl, ?_⟩) ?_ ?_
               rotate_left
               ·intro w'
                go_simp
                with_reducible rfl
               rotate_left
               ·simp only [Act.put, List.setIfInBounds_toArray, List.set_cons_zero, List.set_cons_succ, i64_w, i32_w]
                rfl
               refine pure_ (i := 24) (N := some 57) (v := ?_) (a' := ?_) #[true, true, true, true, true, true, true, true, true, true, true, true, true, true, true, true, true, true, true, true, true, true, true, true, true, false, false, false, false, false, false, false, false, false] rfl rfl (any_of HT_.out (by kernel_rfl)) (fun _ _ _ h => h) (Or.inl ⟨by rfl, ?_⟩) ?_ ?_
               rotate_left
               ·intro w'
                go_simp
                with_reducible rfl
               rotate_left
               ·simp only [Act.put, List.setIfInBounds_toArray, List.set_cons_zero, List.set_cons_succ, i64_w, i32_w]
                rfl
               refine pure_ (i := 25) (N := some 58) (v := ?_) (a' := ?_) #[true, true, true, true, true, true, true, true, true, true, true, true, true, true, true, true, true, true, true, true, true, true, true, true, true, true, false, false, false, false, false, false, false, false] rfl rfl (any_of HT_.out (by kernel_rfl)) (fun _ _ _ h => h) (Or.inl ⟨by rfl, ?_⟩) ?_ ?_
               rotate_left
               ·intro w'
                go_simp
                with_reducible rfl
               rotate_left
               ·simp only [Act.put, List.setIfInBounds_toArray, List.set_cons_zero, List.set_cons_succ, i64_w, i32_w]
                rfl
               refine pure_ (i := 26) (N := some 59) (v := ?_) (a' := ?_) #[true, true, true, true, true, true, true, true, true, true, true, true, true, true, true, true, true, true, true, true, true, true, true, true, true, true, true, false, false, false, false, false, false, false] rfl rfl (any_of HT_.out (by kernel_rfl)) (fun _ _ _ h => h) (Or.inl ⟨by rfl, ?_⟩) ?_ ?_
               rotate_left
               ·intro w'
                go_simp
                with_reducible rfl
               rotate_left
               ·simp only [Act.put, List.setIfInBounds_toArray, List.set_cons_zero, List.set_cons_succ, i64_w, i32_w]
                rfl
               refine pure_ (i := 28) (N := some 61) (v := ?_) (a' := ?_) #[true, true, true, true, true, true, true, true, true, true, true, true, true, true, true, true, true, true, true, true, true, true, true, true, true, true, true, false, true, false, false, false, false, false] rfl rfl (any_of HT_.out (by kernel_rfl)) (fun _ _ _ h => h) (Or.inl ⟨by rfl, ?_⟩) ?_ ?_
               rotate_left
               ·intro w'
                go_simp
                with_reducible rfl
               rotate_left
               ·simp only [Act.put, List.setIfInBounds_toArray, List.set_cons_zero, List.set_cons_succ, i64_w, i32_w]
                rfl
               refine pure_ (i := 29) (N := some 62) (v := ?_) (a' := ?_) #[true, true, true, true, true, true, true, true, true, true, true, true, true, true, true, true, true, true, true, true, true, true, true, true, true, true, true, false, true, true, false, false, false, false] rfl rfl (any_of HT_.out (by kernel_rfl)) (fun _ _ _ h => h) (Or.inl ⟨by rfl, ?_⟩) ?_ ?_
               rotate_left
               ·intro w'
                go_simp
                with_reducible rfl
               rotate_left
               ·simp only [Act.put, List.setIfInBounds_toArray, List.set_cons_zero, List.set_cons_succ, i64_w, i32_w]
                rfl
               refine take_ (i := 27) (N := some 60) (v := ?_) (a' := ?_) #[true, true, true, true, true, true, true, true, true, true, true, true, true, true, true, true, true, true, true, true, true, true, true, true, true, true, true, true, true, true, false, false, false, false] rfl rfl (take_ofW HT_.out HW_.out (by kernel_rfl)) (fun _ _ _ h => h) (Or.inl ⟨by rfl, ?_⟩) hHeld ?_ ?_
               rotate_left
               ·rintro w' ⟨s0, s1, s2, s3, s4, s5⟩
                go_simp
                with_reducible rfl
               rotate_left
               ·simp only [Act.put, List.setIfInBounds_toArray, List.set_cons_zero, List.set_cons_succ, i64_w, i32_w]
                rfl
               refine take_ (i := 30) (N := some 63) (v := ?_) (a' := ?_) #[true, true, true, true, true, true, true, true, true, true, true, true, true, true, true, true, true, true, true, true, true, true, true, true, true, true, true, true, true, true, true, false, false, false] rfl rfl (take_ofW HT_.out HW_.out (by kernel_rfl)) (fun _ _ _ h => h) (Or.inl ⟨by rfl, ?_⟩) hHeld ?_ ?_
               rotate_left
               ·rintro w' ⟨s0, s1, s2, s3, s4, s5⟩
                go_simp
                with_reducible rfl
               rotate_left
               ·simp only [Act.put, List.setIfInBounds_toArray, List.set_cons_zero, List.set_cons_succ, i64_w, i32_w]
                rfl
               refine one_ (i := 31) (N := some 64) #[true, true, true, true, true, true, true, true, true, true, true, true, true, true, true, true, true, true, true, true, true, true, true, true, true, true, true, true, true, true, true, true, false, false] rfl rfl (one_of HT_.out (by kernel_rfl)) (by decide) (fun K hK => ?_)
               refine goes_ Tryd.func12 (by kernel_rfl) rfl #[.slice A355_0 (rd_L3 t339 2).length c355_0, .slice A356_0 (rd_L3 t345 2).length c356_0] (by rfl) rfl rfl (by (try simp only [List.map_toArray, List.map_cons, List.map_nil]); first | done | rfl | (simp only [List.length_drop, List.length_take]; rfl)) ?_
               with_reducible refine (scarfref03_Same.calls kj3 _ _ (rd_L3 t339 2) _ _ (rd_L3 t345 2) true _ ?side1 ?side2 ?side3 ?side4 A52.out).mono ?_
               (case side1 => repeat (first | exact (by repeat (first | (with_reducible exact HR355_0.out) | (with_reducible refine Kd.C_alloc ?_ _) | (with_reducible refine Kd.C_drewN ?_ _) | (with_reducible refine Kd.C_drew ?_) | exact HR355_0.out)) | (with_reducible refine Kd.C_alloc ?_ _) | (with_reducible refine Kd.C_drewN ?_ _) | (with_reducible refine Kd.C_drew ?_)))
               (case side2 => exact HC355_0.out)
               (case side3 => repeat (first | exact (by repeat (first | (with_reducible exact HR356_0.out) | (with_reducible refine Kd.C_alloc ?_ _) | (with_reducible refine Kd.C_drewN ?_ _) | (with_reducible refine Kd.C_drew ?_) | exact HR356_0.out)) | (with_reducible refine Kd.C_alloc ?_ _) | (with_reducible refine Kd.C_drewN ?_ _) | (with_reducible refine Kd.C_drew ?_)))
               (case side4 => exact HC356_0.out)
               rintro e w' ⟨rfl, ⟨nd, rfl⟩⟩
               refine ⟨_, rfl, ?_⟩
               refine hK.out _ _ ⟨hHeld.1, hHeld.2.1, hHeld.2.2.1, hHeld.2.2.2.1, hHeld.2.2.2.2.1, hHeld.2.2.2.2.2⟩ (fun hHeld => ?_)
               clear hK K
               refine norm_ (a' := ?_) ?_ ?_
               rotate_left
               ·show Act.put _ (some 64) _ = _
                simp only [Act.put, List.setIfInBounds_toArray, List.set_cons_zero, List.set_cons_succ, i64_w, i32_w]
                rfl
               refine pure_ (i := 32) (N := some 65) (v := ?_) (a' := ?_) #[true, true, true, true, true, true, true, true, true, true, true, true, true, true, true, true, true, true, true, true, true, true, true, true, true, true, true, true, true, true, true, true, true, false] rfl rfl (any_of HT_.out (by kernel_rfl)) (fun _ _ _ h => h) (Or.inl ⟨by rfl, ?_⟩) ?_ ?_
               rotate_left
               ·intro w'
                go_simp
                with_reducible rfl
               rotate_left
               ·simp only [Act.put, List.setIfInBounds_toArray, List.set_cons_zero, List.set_cons_succ, i64_w, i32_w]
                rfl
               refine pure_ (i := 33) (N := some 6) (v := ?_) (a' := ?_) #[true, true, true, true, true, true, true, true, true, true, true, true, true, true, true, true, true, true, true, true, true, true, true, true, true, true, true, true, true, true, true, true, true, true] rfl rfl (any_of HT_.out (by kernel_rfl)) (fun _ _ _ h => h) (Or.inl ⟨by rfl, ?_⟩) ?_ ?_
               rotate_left
               ·intro w'
                go_simp
                with_reducible rfl
               rotate_left
               ·simp only [Act.put, List.setIfInBounds_toArray, List.set_cons_zero, List.set_cons_succ, i64_w, i32_w]
                rfl
               refine done_ (done_of HT_.out (by kernel_rfl)) ?_
               try go_wp2
               go_ret
               exact ⟨by first | rfl | (simp [errW_none, errW_some] <;> rfl) | (simp [*, errW_none, errW_some] <;> rfl), by repeat (first | (with_reducible first | exact HB.out | apply below_alloc | apply pw_below_drewN | apply below_drew1 | refine below_set ?_ GE329.out | refine below_set ?_ GE330.out | refine below_set ?_ GE331.out) | exact HB.out)⟩
              ·replace c53 := Bool.eq_false_iff.mpr c53
               subst c53
               have H1 : (some false) = some true := by first | with_reducible rfl | (rw [if_neg (show ¬ (false = true) by decide)] at H; exact H)
               clear H
               have H := H1
               clear H1
               exact absurd H (by simp)
             ·rw [if_neg c51] at H
              exact absurd H (by simp)
            ·rw [if_neg c50] at H
             exact absurd H (by simp)
           ·replace c49 := Bool.eq_false_iff.mpr c49
            subst c49
            have H1 : (some false) = some true := by first | with_reducible rfl | (rw [if_neg (show ¬ (false = true) by decide)] at H; exact H)
            clear H
            have H := H1
            clear H1
            exact absurd H (by simp)
          ·rw [if_neg c47] at H
           exact absurd H (by simp)
         ·rw [if_neg c46] at H
          exact absurd H (by simp)
        ·replace c45 := Bool.eq_false_iff.mpr c45
         subst c45
         have H1 : (some false) = some true := by first | with_reducible rfl | (rw [if_neg (show ¬ (false = true) by decide)] at H; exact H)
         clear H
         have H := H1
         clear H1
         exact absurd H (by simp)
       ·rw [if_neg c43] at H
        exact absurd H (by simp)
      ·rw [if_neg c42] at H
       exact absurd H (by simp)
     ·rw [if_neg c41] at H
      have c41b0 : ((t339.length : Int) == 3) = false := beq_eq_false_iff_ne.mpr c41
      have c41b1 : ((t339.length : Int) != 3) = true := bne_iff_ne.mpr c41
      exact absurd H (by simp)
    ·replace c40 := Bool.eq_false_iff.mpr c40
     subst c40
     have H1 : (some false) = some true := by first | with_reducible rfl | (rw [if_neg (show ¬ (false = true) by decide)] at H; exact H)
     clear H
     have H := H1
     clear H1
     exact absurd H (by simp)

end Go.Proofs.YtfmlpkeaiohknaaDoor.Q
