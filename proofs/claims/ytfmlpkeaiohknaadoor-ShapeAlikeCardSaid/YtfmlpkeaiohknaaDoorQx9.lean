-- Written by a program of this session (wip/mkprint.py, wip/pr.sh) for this claim; Lean checks it.
import Derived.Test.YtfmlpkeaiohknaaDoorMKnown
import Derived.Test.YtfmlpkeaiohknaaDoorQx0
import Derived.Test.YtfmlpkeaiohknaaDoorQx1
import Derived.Test.YtfmlpkeaiohknaaDoorQx2
import Derived.Test.YtfmlpkeaiohknaaDoorQx3
import Derived.Test.YtfmlpkeaiohknaaDoorQx4
import Derived.Test.YtfmlpkeaiohknaaDoorMMk0
import Derived.Test.YtfmlpkeaiohknaaDoorMMk0
namespace Go.Proofs.YtfmlpkeaiohknaaDoor.Q
open Go.RowKit Go.Proofs.YtfmlpkeaiohknaaDoorW.PrintWords Go.Proofs.YtfmlpkeaiohknaaDoorW.PrintLast Go.Proofs.YtfmlpkeaiohknaaDoorW.PrintMore
attribute [local go_sem] max2_int min2_int max_two min_two max_three min_three max_four min_four   -- for this text's walks alone
set_option linter.unusedVariables false
set_option linter.unusedSimpArgs false

/-! ### scarflaw10_ShapeAlike: function 5 -/
mutual
def scarflaw10_ShapeAlike.j0 : Nat → Bool → Int → ByteArray → ByteArray → List (S24) → Int → ByteArray → ByteArray → List (S24) → Option (Bool)
 | 0, _, _, _, _, _, _, _, _, _ => none
 | k + 1, x17, x359000, x359001, x359002, x359003, x360000, x360001, x360002, x360003 => if x17 = true then ((scarflaw10_known.f k).bind fun t362 => (if t362 = true then (some true) else (some false))) else ((shape_Marks.f (([(⟨x359000, x359001, x359002, x359003⟩ : S24), (⟨x360000, x360001, x360002, x360003⟩ : S24)] : List (S24)))).bind fun t366 => ((scarfref05_Nodes.f k x359000 x359001 x359002 x359003 151).bind fun t369 => ((scarfref05_Nodes.f k x360000 x360001 x360002 x360003 151).bind fun t372 => ((scarflaw10_known.f k).bind fun t375 => (if t375 = true then (if (t366.length : Int) = 2 then (if 0 < (t366.length : Int) then (if ((rd_L3 t366 0).length : Int) = (t369.length : Int) then (if 1 < (t366.length : Int) then (scarflaw10_ShapeAlike.j1 k t366 t369 t372 (((rd_L3 t366 1).length : Int) != (t372.length : Int))) else (none)) else (scarflaw10_ShapeAlike.j1 k t366 t369 t372 true)) else (none)) else (scarflaw10_ShapeAlike.j1 k t366 t369 t372 true)) else (scarflaw10_ShapeAlike.j1 k t366 t369 t372 true))))))
def scarflaw10_ShapeAlike.j1 : Nat → List (List Int) → List (S24) → List (S24) → Bool → Option (Bool)
 | 0, _, _, _, _ => none
 | k + 1, x5, x6, x7, x51 => if x51 = true then (some false) else (scarflaw10_ShapeAlike.l0 k x5 x6 x7 0)
def scarflaw10_ShapeAlike.l0 : Nat → List (List Int) → List (S24) → List (S24) → Int → Option (Bool)
 | 0, _, _, _, _ => none
 | k + 1, x5, x6, x7, x8 => if x8 < (x6.length : Int) then (scarflaw10_ShapeAlike.l1 k x5 x6 x7 x8 0) else (some true)
def scarflaw10_ShapeAlike.l1 : Nat → List (List Int) → List (S24) → List (S24) → Int → Int → Option (Bool)
 | 0, _, _, _, _, _ => none
 | k + 1, x5, x6, x7, x8, x9 => if x9 < (x7.length : Int) then (if 0 < (x5.length : Int) then (if 0 ≤ x8 then (if x8 < ((rd_L3 x5 0).length : Int) then (if 1 < (x5.length : Int) then (if 0 ≤ x9 then (if x9 < ((rd_L3 x5 1).length : Int) then (if x8 < (x6.length : Int) then ((scarfref05_Same.f k ((rd_T24 x6 x8).f0) ((rd_T24 x6 x8).f1) ((rd_T24 x6 x8).f2) ((rd_T24 x6 x8).f3) ((rd_T24 x7 x9).f0) ((rd_T24 x7 x9).f1) ((rd_T24 x7 x9).f2) ((rd_T24 x7 x9).f3)).bind fun t384 => (if (((rd (rd_L3 x5 0) x8) == (rd (rd_L3 x5 1) x9)) != t384) = true then (some false) else (scarflaw10_ShapeAlike.l1 k x5 x6 x7 x8 (wrap64 (x9 + 1))))) else (none)) else (none)) else (none)) else (none)) else (none)) else (none)) else (none)) else (scarflaw10_ShapeAlike.l0 k x5 x6 x7 (wrap64 (x8 + 1)))
end
def scarflaw10_ShapeAlike.f (k : Nat) (a0_0 : Int) (a0_1 : ByteArray) (a0_2 : ByteArray) (l0_3 : List (S24)) (a1_0 : Int) (a1_1 : ByteArray) (a1_2 : ByteArray) (l1_3 : List (S24)) : Option (Bool) := (scarflaw10_few.f k a0_0 a0_1 a0_2 l0_3 150).bind fun t360 => (if t360 = true then ((scarflaw10_few.f k a1_0 a1_1 a1_2 l1_3 150).bind fun t361 => (scarflaw10_ShapeAlike.j0 k (!t361) a0_0 a0_1 a0_2 l0_3 a1_0 a1_1 a1_2 l1_3)) else (scarflaw10_ShapeAlike.j0 k true a0_0 a0_1 a0_2 l0_3 a1_0 a1_1 a1_2 l1_3))
theorem scarflaw10_ShapeAlike.mono_l : ∀ k, (∀ y0 y1 y2 y3 y4 y5 y6 y7 y8, LeO (scarflaw10_ShapeAlike.j0 k y0 y1 y2 y3 y4 y5 y6 y7 y8) (scarflaw10_ShapeAlike.j0 (k + 1) y0 y1 y2 y3 y4 y5 y6 y7 y8)) ∧ (∀ y0 y1 y2 y3, LeO (scarflaw10_ShapeAlike.j1 k y0 y1 y2 y3) (scarflaw10_ShapeAlike.j1 (k + 1) y0 y1 y2 y3)) ∧ (∀ y0 y1 y2 y3, LeO (scarflaw10_ShapeAlike.l0 k y0 y1 y2 y3) (scarflaw10_ShapeAlike.l0 (k + 1) y0 y1 y2 y3)) ∧ (∀ y0 y1 y2 y3 y4, LeO (scarflaw10_ShapeAlike.l1 k y0 y1 y2 y3 y4) (scarflaw10_ShapeAlike.l1 (k + 1) y0 y1 y2 y3 y4))
 | 0 => ⟨fun _ _ _ _ _ _ _ _ _ r h => by simp [scarflaw10_ShapeAlike.j0] at h, fun _ _ _ _ r h => by simp [scarflaw10_ShapeAlike.j1] at h, fun _ _ _ _ r h => by simp [scarflaw10_ShapeAlike.l0] at h, fun _ _ _ _ _ r h => by simp [scarflaw10_ShapeAlike.l1] at h⟩
 | k + 1 => by
  obtain ⟨ih0, ih1, ih2, ih3⟩ := scarflaw10_ShapeAlike.mono_l k
  refine ⟨?_, ?_, ?_, ?_⟩
  ·intro y0 y1 y2 y3 y4 y5 y6 y7 y8
   unfold scarflaw10_ShapeAlike.j0
   repeat' first
   | (with_reducible exact ih0 _ _ _ _ _ _ _ _ _)
   | (with_reducible exact ih1 _ _ _ _)
   | (with_reducible exact ih2 _ _ _ _)
   | (with_reducible exact ih3 _ _ _ _ _)
   | (with_reducible exact scarflaw10_few.mono _ _ _ _ _ _)
   | (with_reducible exact scarflaw10_known.mono _)
   | (with_reducible exact scarfref05_Nodes.mono _ _ _ _ _ _)
   | (with_reducible exact scarfref05_Same.mono _ _ _ _ _ _ _ _ _)
   | (with_reducible exact LeO.refl _)
   | (with_reducible exact LeO.none _)
   | (with_reducible refine LeO.ite ?_ ?_)
   | (with_reducible refine LeO.bind ?_ (fun _ => ?_))
   | exact ih0 _ _ _ _ _ _ _ _ _
   | exact ih1 _ _ _ _
   | exact ih2 _ _ _ _
   | exact ih3 _ _ _ _ _
   | exact scarflaw10_few.mono _ _ _ _ _ _
   | exact scarflaw10_known.mono _
   | exact scarfref05_Nodes.mono _ _ _ _ _ _
   | exact scarfref05_Same.mono _ _ _ _ _ _ _ _ _
   | exact LeO.none _
   | refine LeO.ite ?_ ?_
   | refine LeO.bind ?_ (fun _ => ?_)
  ·intro y0 y1 y2 y3
   unfold scarflaw10_ShapeAlike.j1
   repeat' first
   | (with_reducible exact ih0 _ _ _ _ _ _ _ _ _)
   | (with_reducible exact ih1 _ _ _ _)
   | (with_reducible exact ih2 _ _ _ _)
   | (with_reducible exact ih3 _ _ _ _ _)
   | (with_reducible exact scarflaw10_few.mono _ _ _ _ _ _)
   | (with_reducible exact scarflaw10_known.mono _)
   | (with_reducible exact scarfref05_Nodes.mono _ _ _ _ _ _)
   | (with_reducible exact scarfref05_Same.mono _ _ _ _ _ _ _ _ _)
   | (with_reducible exact LeO.refl _)
   | (with_reducible exact LeO.none _)
   | (with_reducible refine LeO.ite ?_ ?_)
   | (with_reducible refine LeO.bind ?_ (fun _ => ?_))
   | exact ih0 _ _ _ _ _ _ _ _ _
   | exact ih1 _ _ _ _
   | exact ih2 _ _ _ _
   | exact ih3 _ _ _ _ _
   | exact scarflaw10_few.mono _ _ _ _ _ _
   | exact scarflaw10_known.mono _
   | exact scarfref05_Nodes.mono _ _ _ _ _ _
   | exact scarfref05_Same.mono _ _ _ _ _ _ _ _ _
   | exact LeO.none _
   | refine LeO.ite ?_ ?_
   | refine LeO.bind ?_ (fun _ => ?_)
  ·intro y0 y1 y2 y3
   unfold scarflaw10_ShapeAlike.l0
   repeat' first
   | (with_reducible exact ih0 _ _ _ _ _ _ _ _ _)
   | (with_reducible exact ih1 _ _ _ _)
   | (with_reducible exact ih2 _ _ _ _)
   | (with_reducible exact ih3 _ _ _ _ _)
   | (with_reducible exact scarflaw10_few.mono _ _ _ _ _ _)
   | (with_reducible exact scarflaw10_known.mono _)
   | (with_reducible exact scarfref05_Nodes.mono _ _ _ _ _ _)
   | (with_reducible exact scarfref05_Same.mono _ _ _ _ _ _ _ _ _)
   | (with_reducible exact LeO.refl _)
   | (with_reducible exact LeO.none _)
   | (with_reducible refine LeO.ite ?_ ?_)
   | (with_reducible refine LeO.bind ?_ (fun _ => ?_))
   | exact ih0 _ _ _ _ _ _ _ _ _
   | exact ih1 _ _ _ _
   | exact ih2 _ _ _ _
   | exact ih3 _ _ _ _ _
   | exact scarflaw10_few.mono _ _ _ _ _ _
   | exact scarflaw10_known.mono _
   | exact scarfref05_Nodes.mono _ _ _ _ _ _
   | exact scarfref05_Same.mono _ _ _ _ _ _ _ _ _
   | exact LeO.none _
   | refine LeO.ite ?_ ?_
   | refine LeO.bind ?_ (fun _ => ?_)
  ·intro y0 y1 y2 y3 y4
   unfold scarflaw10_ShapeAlike.l1
   repeat' first
   | (with_reducible exact ih0 _ _ _ _ _ _ _ _ _)
   | (with_reducible exact ih1 _ _ _ _)
   | (with_reducible exact ih2 _ _ _ _)
   | (with_reducible exact ih3 _ _ _ _ _)
   | (with_reducible exact scarflaw10_few.mono _ _ _ _ _ _)
   | (with_reducible exact scarflaw10_known.mono _)
   | (with_reducible exact scarfref05_Nodes.mono _ _ _ _ _ _)
   | (with_reducible exact scarfref05_Same.mono _ _ _ _ _ _ _ _ _)
   | (with_reducible exact LeO.refl _)
   | (with_reducible exact LeO.none _)
   | (with_reducible refine LeO.ite ?_ ?_)
   | (with_reducible refine LeO.bind ?_ (fun _ => ?_))
   | exact ih0 _ _ _ _ _ _ _ _ _
   | exact ih1 _ _ _ _
   | exact ih2 _ _ _ _
   | exact ih3 _ _ _ _ _
   | exact scarflaw10_few.mono _ _ _ _ _ _
   | exact scarflaw10_known.mono _
   | exact scarfref05_Nodes.mono _ _ _ _ _ _
   | exact scarfref05_Same.mono _ _ _ _ _ _ _ _ _
   | exact LeO.none _
   | refine LeO.ite ?_ ?_
   | refine LeO.bind ?_ (fun _ => ?_)
theorem scarflaw10_ShapeAlike.mono : ∀ a0 a1 a2 a3 a4 a5 a6 a7 k, LeO (scarflaw10_ShapeAlike.f k a0 a1 a2 a3 a4 a5 a6 a7) (scarflaw10_ShapeAlike.f (k + 1) a0 a1 a2 a3 a4 a5 a6 a7) := by
 intro a0 a1 a2 a3 a4 a5 a6 a7 k
 obtain ⟨ih0, ih1, ih2, ih3⟩ := scarflaw10_ShapeAlike.mono_l k
 unfold scarflaw10_ShapeAlike.f
 repeat' first
   | (with_reducible exact ih0 _ _ _ _ _ _ _ _ _)
   | (with_reducible exact ih1 _ _ _ _)
   | (with_reducible exact ih2 _ _ _ _)
   | (with_reducible exact ih3 _ _ _ _ _)
   | (with_reducible exact scarflaw10_few.mono _ _ _ _ _ _)
   | (with_reducible exact scarflaw10_known.mono _)
   | (with_reducible exact scarfref05_Nodes.mono _ _ _ _ _ _)
   | (with_reducible exact scarfref05_Same.mono _ _ _ _ _ _ _ _ _)
   | (with_reducible exact LeO.refl _)
   | (with_reducible exact LeO.none _)
   | (with_reducible refine LeO.ite ?_ ?_)
   | (with_reducible refine LeO.bind ?_ (fun _ => ?_))
   | exact ih0 _ _ _ _ _ _ _ _ _
   | exact ih1 _ _ _ _
   | exact ih2 _ _ _ _
   | exact ih3 _ _ _ _ _
   | exact scarflaw10_few.mono _ _ _ _ _ _
   | exact scarflaw10_known.mono _
   | exact scarfref05_Nodes.mono _ _ _ _ _ _
   | exact scarfref05_Same.mono _ _ _ _ _ _ _ _ _
   | exact LeO.none _
   | refine LeO.ite ?_ ?_
   | refine LeO.bind ?_ (fun _ => ?_)
def scarflaw10_ShapeAlike.T13 : Bool × List (List Nat × List Nat) := (true, [([], []), ([0], [0]), ([1], [1]), ([], []), ([2, 3], [2, 3]), ([4], [4]), ([], []), ([6], [6]), ([7], [7]), ([], []), ([8, 9], [8, 9]), ([10], [10]), ([5, 11], [5, 11]), ([], []), ([], []), ([13, 14], [13, 14]), ([15], [15]), ([], []), ([], []), ([17, 18], [17, 18]), ([19], [19]), ([16, 20], [16, 20]), ([12, 21], [12, 21])])
def scarflaw10_ShapeAlike.B13 : List Nat := [0, 1, 3, 0, 15, 31, 0, 64, 192, 0, 960, 1984, 4095, 0, 0, 24576, 57344, 0, 0, 393216, 917504, 2088960, 4194303]
theorem scarflaw10_ShapeAlike.tab13 : rtab .any (opsOf Tryd.f5 13) = scarflaw10_ShapeAlike.T13 := by kernel_rfl
theorem scarflaw10_ShapeAlike.bits13 : waitsOk scarflaw10_ShapeAlike.T13.2 scarflaw10_ShapeAlike.B13 = true := by kernel_rfl
set_option maxHeartbeats 8000000 in
set_option maxRecDepth 100000 in
theorem scarflaw10_ShapeAlike.calls (k : Nat) (a0_0 : Int) (a0_1 : ByteArray) (a0_2 : ByteArray) (P0_3_ : Nat → Prop) (A0_3 : Option Addr) (c0_3 : Nat) (l0_3 : List (S24)) (a1_0 : Int) (a1_1 : ByteArray) (a1_2 : ByteArray) (P1_3_ : Nat → Prop) (A1_3 : Option Addr) (c1_3 : Nat) (l1_3 : List (S24)) (r : Bool) (w : World) (htab : TabOk w) (hs0_3 : Kd.V k24 24 w w.heap.size (fun k_ => P0_3_ k_) (.slice A0_3 l0_3.length c0_3) l0_3) (hs1_3 : Kd.V k24 24 w w.heap.size (fun k_ => P1_3_ k_) (.slice A1_3 l1_3.length c1_3) l1_3) (h : scarflaw10_ShapeAlike.f k a0_0 a0_1 a0_2 l0_3 a1_0 a1_1 a1_2 l1_3 = some r) (hr_ : r = true := by rfl) :
  Calls Tryd.prog 5 #[.agg #[.int .i64 a0_0, .string a0_1, .string a0_2, .slice A0_3 l0_3.length c0_3], .agg #[.int .i64 a1_0, .string a1_1, .string a1_2, .slice A1_3 l1_3.length c1_3]] w fun e w' => e = .returned (.bool r) ∧ Below w.heap.size w w' := by
 subst hr_
 have hu24 := Tryd.underlying24
 have HO0_3 := Aside0.mk (show Kd.V k24 24 w w.heap.size (fun k_ => ((P0_3_ k_ ∨ P1_3_ k_) ∨ w.heap.size ≤ k_)) (.slice A0_3 l0_3.length c0_3) l0_3 from Kd.V_mono hs0_3 (fun k_ hk => .inl (.inl hk)))
 have HO1_3 := Aside0.mk (show Kd.V k24 24 w w.heap.size (fun k_ => ((P0_3_ k_ ∨ P1_3_ k_) ∨ w.heap.size ≤ k_)) (.slice A1_3 l1_3.length c1_3) l1_3 from Kd.V_mono hs1_3 (fun k_ hk => .inl (.inr hk)))
 have HB := Aside0.mk (Below.refl w.heap.size w)
 have HTAB := Aside0.mk htab
 clear htab
 have H : ((scarflaw10_few.f k a0_0 a0_1 a0_2 l0_3 150).bind fun t360 => (if t360 = true then ((scarflaw10_few.f k a1_0 a1_1 a1_2 l1_3 150).bind fun t361 => (scarflaw10_ShapeAlike.j0 k (!t361) a0_0 a0_1 a0_2 l0_3 a1_0 a1_1 a1_2 l1_3)) else (scarflaw10_ShapeAlike.j0 k true a0_0 a0_1 a0_2 l0_3 a1_0 a1_1 a1_2 l1_3))) = some true := h
 clear h
 have HC3 := Aside0.mk H
 clear H
 go_enter Tryd.func5, Tryd.ntmps5
 go_upto_region 1 with (first | ((with_reducible refine gate_dst (N := 2) rfl ?_); (try (refine gate_guard (by rfl) ?_; dsimp only)); refine box_event ?hg (N := 2) ?hd (cs := #[.int .i64 a0_0, .string a0_1, .string a0_2, .slice A0_3 l0_3.length c0_3]) (t := 24) ?hr ?_; (case hd => rfl); (case hg => rfl); (case hr => first | (go_simp; done) | (go_simp; rfl)); intro gb358 hg w4 hbox hb; have n0_ := Aside0.mk (Kd.V_below (Kd.V_elderB (by (with_reducible repeat (first | apply Kd.V_alloc | apply Kd.V_drewN | apply Kd.V_drew)); exact HO0_3.out) gb358 (Nat.le_of_eq hg.symm)) hb); have n1_ := Aside0.mk (Kd.V_below (Kd.V_elderB (by (with_reducible repeat (first | apply Kd.V_alloc | apply Kd.V_drewN | apply Kd.V_drew)); exact HO1_3.out) gb358 (Nat.le_of_eq hg.symm)) hb); have n2_ := Aside0.mk (below_step (by repeat (first | (with_reducible first | exact HB.out | apply below_alloc | apply pw_below_drewN | apply below_drew1) | exact HB.out)) hb); have n3_ := Aside0.mk (hbox); have n4_ := Aside0.mk ((by rw [hg]; exact (below_size (by repeat (first | (with_reducible first | exact HB.out | apply below_alloc | apply pw_below_drewN | apply below_drew1) | exact HB.out))) : w.heap.size ≤ gb358)); have n5_ := Aside0.mk ((by rw [hg]; exact (below_size (by repeat (first | (with_reducible first | exact HB.out | apply below_alloc | apply pw_below_drewN | apply below_drew1) | exact HB.out))) : w.heap.size ≤ gb358)); clear HO0_3; clear HO1_3; clear HB; have HO0_3 := n0_; have HO1_3 := n1_; have HB := n2_; have BK358 := n3_; have GW358 := n4_; have GE358 := n5_; clear n0_ n1_ n2_ n3_ n4_ n5_; clear hb hbox hg) | ((with_reducible refine gate_dst (N := 3) rfl ?_); (try (refine gate_guard (by rfl) ?_; dsimp only)); refine box_event ?hg (N := 3) ?hd (cs := #[.int .i64 a1_0, .string a1_1, .string a1_2, .slice A1_3 l1_3.length c1_3]) (t := 24) ?hr ?_; (case hd => rfl); (case hg => rfl); (case hr => first | (go_simp; done) | (go_simp; rfl)); intro gb359 hg w5 hbox hb; have n0_ := Aside0.mk (Kd.V_below (Kd.V_elderB (by (with_reducible repeat (first | apply Kd.V_alloc | apply Kd.V_drewN | apply Kd.V_drew)); exact HO0_3.out) gb359 (Nat.le_of_eq hg.symm)) hb); have n1_ := Aside0.mk (Kd.V_below (Kd.V_elderB (by (with_reducible repeat (first | apply Kd.V_alloc | apply Kd.V_drewN | apply Kd.V_drew)); exact HO1_3.out) gb359 (Nat.le_of_eq hg.symm)) hb); have n2_ := Aside0.mk (blk_below (g := gb358) (o := .cells #[.int .i64 a0_0, .string a0_1, .string a0_2, .slice A0_3 l0_3.length c0_3] 24 (0, 0)) (by (with_reducible repeat (first | refine blk_drewN ?_ _ | refine blk_drew ?_ | refine blk_alloc ?_ _)); exact BK358.out) hb); have n3_ := Aside0.mk (below_step (by repeat (first | (with_reducible first | exact HB.out | apply below_alloc | apply pw_below_drewN | apply below_drew1 | refine below_set ?_ GE358.out) | exact HB.out)) hb); have n4_ := Aside0.mk (hbox); have n5_ := Aside0.mk ((by rw [hg]; exact (below_size (by repeat (first | (with_reducible first | exact HB.out | apply below_alloc | apply pw_below_drewN | apply below_drew1 | refine below_set ?_ GE358.out) | exact HB.out))) : w.heap.size ≤ gb359)); have n6_ := Aside0.mk ((by rw [hg]; exact (below_size (by repeat (first | (with_reducible first | exact HB.out | apply below_alloc | apply pw_below_drewN | apply below_drew1 | refine below_set ?_ GE358.out) | exact HB.out))) : w.heap.size ≤ gb359)); have n7_ := Aside0.mk ((by rw [hg]; exact Nat.ne_of_lt (blk_lt (g := gb358) (o := .cells #[.int .i64 a0_0, .string a0_1, .string a0_2, .slice A0_3 l0_3.length c0_3] 24 (0, 0)) (by (with_reducible repeat (first | refine blk_drewN ?_ _ | refine blk_drew ?_ | refine blk_alloc ?_ _)); exact BK358.out)) : gb358 ≠ gb359)); have n8_ := Aside0.mk ((by rw [hg]; exact Nat.ne_of_gt (blk_lt (g := gb358) (o := .cells #[.int .i64 a0_0, .string a0_1, .string a0_2, .slice A0_3 l0_3.length c0_3] 24 (0, 0)) (by (with_reducible repeat (first | refine blk_drewN ?_ _ | refine blk_drew ?_ | refine blk_alloc ?_ _)); exact BK358.out)) : gb359 ≠ gb358)); clear HO0_3; clear HO1_3; clear BK358; clear HB; have HO0_3 := n0_; have HO1_3 := n1_; have BK358 := n2_; have HB := n3_; have BK359 := n4_; have GW359 := n5_; have GE359 := n6_; have NB358_359 := n7_; have NB359_358 := n8_; clear n0_ n1_ n2_ n3_ n4_ n5_ n6_ n7_ n8_; clear hb hbox hg))
 (try simp only [Act.put, List.setIfInBounds_toArray, List.set_cons_zero, List.set_cons_succ])
 go_cut [17] (fun v17 wc => ∃ (kq : Nat) (x17_2 : Bool), v17 = .bool x17_2 ∧ Aside0 (scarflaw10_ShapeAlike.j0 kq x17_2 a0_0 a0_1 a0_2 l0_3 a1_0 a1_1 a1_2 l1_3 = some true) ∧ Aside0 (kq ≤ k) ∧ Aside0 (Kd.V k24 24 wc w.heap.size (fun k_ => ((P0_3_ k_ ∨ P1_3_ k_) ∨ w.heap.size ≤ k_) ∧ k_ ≠ gb358 ∧ k_ ≠ gb359) (.slice A0_3 l0_3.length c0_3) l0_3) ∧ Aside0 (Kd.V k24 24 wc w.heap.size (fun k_ => ((P0_3_ k_ ∨ P1_3_ k_) ∨ w.heap.size ≤ k_) ∧ k_ ≠ gb358 ∧ k_ ≠ gb359) (.slice A1_3 l1_3.length c1_3) l1_3) ∧ Aside0 (wc.heap[gb358]? = some (.cells #[.int .i64 a0_0, .string a0_1, .string a0_2, (.slice A0_3 l0_3.length c0_3)] 24 (0, 0))) ∧ Aside0 (wc.heap[gb359]? = some (.cells #[.int .i64 a1_0, .string a1_1, .string a1_2, (.slice A1_3 l1_3.length c1_3)] 24 (0, 0))) ∧ Aside0 (Below w.heap.size w wc))
 case first =>
  have H := HC3.out
  clear HC3
  replace H := Option.bind_eq_some_iff.mp H
  obtain ⟨t360, A60, H⟩ := H
  replace H : (if t360 = true then ((scarflaw10_few.f k a1_0 a1_1 a1_2 l1_3 150).bind fun t361 => (scarflaw10_ShapeAlike.j0 k (!t361) a0_0 a0_1 a0_2 l0_3 a1_0 a1_1 a1_2 l1_3)) else (scarflaw10_ShapeAlike.j0 k true a0_0 a0_1 a0_2 l0_3 a1_0 a1_1 a1_2 l1_3)) = some true := H
  have A6 := Aside0.mk A60
  clear A60
  by_cases c7 : t360 = true
  ·subst c7
   have H1 : ((scarflaw10_few.f k a1_0 a1_1 a1_2 l1_3 150).bind fun t361 => (scarflaw10_ShapeAlike.j0 k (!t361) a0_0 a0_1 a0_2 l0_3 a1_0 a1_1 a1_2 l1_3)) = some true := by first | with_reducible rfl | (rw [if_pos rfl] at H; exact H)
   clear H
   have H := H1
   clear H1
   replace H := Option.bind_eq_some_iff.mp H
   obtain ⟨t361, A80, H⟩ := H
   replace H : (scarflaw10_ShapeAlike.j0 k (!t361) a0_0 a0_1 a0_2 l0_3 a1_0 a1_1 a1_2 l1_3) = some true := H
   have A8 := Aside0.mk A80
   clear A80
   have H' := Aside0.mk H
   clear H
   have hnb9 := NB358_359.out
   have hnc9 := NB359_358.out
   have hcz10_0 : w5.cell? ⟨gb358, 0, none⟩ = some (.int .i64 a0_0) := (blk_cell BK358.out 0).trans rfl
   have hcz10_1 : w5.cell? ⟨gb358, 1, none⟩ = some (.string a0_1) := (blk_cell BK358.out 1).trans rfl
   have hcz10_2 : w5.cell? ⟨gb358, 2, none⟩ = some (.string a0_2) := (blk_cell BK358.out 2).trans rfl
   have hcz10_3 : w5.cell? ⟨gb358, 3, none⟩ = some (.slice A0_3 l0_3.length c0_3) := (blk_cell BK358.out 3).trans rfl
   have hfz10_0 := blk_frozen BK358.out 0
   have hfz10_1 := blk_frozen BK358.out 1
   have hfz10_2 := blk_frozen BK358.out 2
   have hfz10_3 := blk_frozen BK358.out 3
   go_wp2_with (first | ((with_reducible refine gate_callee (f := 8) rfl ?_); refine goesL_ (some 11) rfl rfl Tryd.func8 (by kernel_rfl) rfl #[.agg #[.int .i64 a0_0, .string a0_1, .string a0_2, .slice A0_3 l0_3.length c0_3], .int .i64 150] rfl (by (try simp only [List.map_toArray, List.map_cons, List.map_nil]); first | done | rfl | (simp only [List.length_drop, List.length_take]; rfl)) ?_; (with_reducible refine (scarflaw10_few.calls k a0_0 a0_1 a0_2 _ _ l0_3 150 true _ ?side1 ?side2 A6.out).mono ?_); (case side1 => repeat (first | exact (Kd.V_reads' HO0_3.out).2.2 | (with_reducible refine Kd.C_alloc ?_ _) | (with_reducible refine Kd.C_drewN ?_ _) | (with_reducible refine Kd.C_drew ?_))); (case side2 => exact (Kd.V_reads' HO0_3.out).2.1); rintro e w11 ⟨rfl, hb⟩; refine ⟨_, rfl, ?_⟩; have n0_ := Aside0.mk (Kd.V_below (by (with_reducible repeat (first | apply Kd.V_alloc | apply Kd.V_drewN | apply Kd.V_drew)); exact HO0_3.out) hb); have n1_ := Aside0.mk (Kd.V_below (by (with_reducible repeat (first | apply Kd.V_alloc | apply Kd.V_drewN | apply Kd.V_drew)); exact HO1_3.out) hb); have n2_ := Aside0.mk (blk_below (g := gb358) (o := .cells #[.int .i64 a0_0, .string a0_1, .string a0_2, .slice A0_3 l0_3.length c0_3] 24 (0, 0)) (by (with_reducible repeat (first | refine blk_drewN ?_ _ | refine blk_drew ?_ | refine blk_alloc ?_ _)); exact BK358.out) hb); have n3_ := Aside0.mk (blk_below (g := gb359) (o := .cells #[.int .i64 a1_0, .string a1_1, .string a1_2, .slice A1_3 l1_3.length c1_3] 24 (0, 0)) (by (with_reducible repeat (first | refine blk_drewN ?_ _ | refine blk_drew ?_ | refine blk_alloc ?_ _)); exact BK359.out) hb); have n4_ := Aside0.mk (below_step (by repeat (first | (with_reducible first | exact HB.out | apply below_alloc | apply pw_below_drewN | apply below_drew1 | refine below_set ?_ GE358.out | refine below_set ?_ GE359.out) | exact HB.out)) hb); clear HO0_3; clear HO1_3; clear BK358; clear BK359; clear HB; have HO0_3 := n0_; have HO1_3 := n1_; have BK358 := n2_; have BK359 := n3_; have HB := n4_; clear n0_ n1_ n2_ n3_ n4_; (try clear hb); (try clear hb2); (try clear hk); (try clear hi); have hcz12_0 : w11.cell? ⟨gb359, 0, none⟩ = some (.int .i64 a1_0) := (blk_cell BK359.out 0).trans rfl; have hcz12_1 : w11.cell? ⟨gb359, 1, none⟩ = some (.string a1_1) := (blk_cell BK359.out 1).trans rfl; have hcz12_2 : w11.cell? ⟨gb359, 2, none⟩ = some (.string a1_2) := (blk_cell BK359.out 2).trans rfl; have hcz12_3 : w11.cell? ⟨gb359, 3, none⟩ = some (.slice A1_3 l1_3.length c1_3) := (blk_cell BK359.out 3).trans rfl; have hfz12_0 := blk_frozen BK359.out 0; have hfz12_1 := blk_frozen BK359.out 1; have hfz12_2 := blk_frozen BK359.out 2; have hfz12_3 := blk_frozen BK359.out 3) | (go_at_call 8; (with_reducible refine (scarflaw10_few.calls k a1_0 a1_1 a1_2 _ _ l1_3 150 t361 _ ?side1 ?side2 A8.out).mono ?_); (case side1 => repeat (first | exact (Kd.V_reads' HO1_3.out).2.2 | (with_reducible refine Kd.C_alloc ?_ _) | (with_reducible refine Kd.C_drewN ?_ _) | (with_reducible refine Kd.C_drew ?_))); (case side2 => exact (Kd.V_reads' HO1_3.out).2.1); rintro e w13 ⟨rfl, hb⟩; have n0_ := Aside0.mk (Kd.V_below (by (with_reducible repeat (first | apply Kd.V_alloc | apply Kd.V_drewN | apply Kd.V_drew)); exact HO0_3.out) hb); have n1_ := Aside0.mk (Kd.V_below (by (with_reducible repeat (first | apply Kd.V_alloc | apply Kd.V_drewN | apply Kd.V_drew)); exact HO1_3.out) hb); have n2_ := Aside0.mk (blk_below (g := gb358) (o := .cells #[.int .i64 a0_0, .string a0_1, .string a0_2, .slice A0_3 l0_3.length c0_3] 24 (0, 0)) (by (with_reducible repeat (first | refine blk_drewN ?_ _ | refine blk_drew ?_ | refine blk_alloc ?_ _)); exact BK358.out) hb); have n3_ := Aside0.mk (blk_below (g := gb359) (o := .cells #[.int .i64 a1_0, .string a1_1, .string a1_2, .slice A1_3 l1_3.length c1_3] 24 (0, 0)) (by (with_reducible repeat (first | refine blk_drewN ?_ _ | refine blk_drew ?_ | refine blk_alloc ?_ _)); exact BK359.out) hb); have n4_ := Aside0.mk (below_step (by repeat (first | (with_reducible first | exact HB.out | apply below_alloc | apply pw_below_drewN | apply below_drew1 | refine below_set ?_ GE358.out | refine below_set ?_ GE359.out) | exact HB.out)) hb); clear HO0_3; clear HO1_3; clear BK358; clear BK359; clear HB; have HO0_3 := n0_; have HO1_3 := n1_; have BK358 := n2_; have BK359 := n3_; have HB := n4_; clear n0_ n1_ n2_ n3_ n4_; (try clear hb); (try clear hb2); (try clear hk); (try clear hi)))
   go_meet
   case rel => exact ⟨_, (!t361), (by first | rfl | (simp; done) | (simp [*]; done)), H', ⟨by first | omega | exact Nat.le_refl _⟩, ⟨by (with_reducible repeat (first | apply Kd.V_alloc | apply Kd.V_drewN | apply Kd.V_drew)); exact Kd.V_mono HO0_3.out (fun _ hk => ⟨hk.1.1, ⟨hk.1.2, hk.2⟩⟩)⟩, ⟨by (with_reducible repeat (first | apply Kd.V_alloc | apply Kd.V_drewN | apply Kd.V_drew)); exact Kd.V_mono HO1_3.out (fun _ hk => ⟨hk.1.1, ⟨hk.1.2, hk.2⟩⟩)⟩, ⟨by (with_reducible repeat (first | refine blk_drewN ?_ _ | refine blk_drew ?_ | refine blk_alloc ?_ _)); exact BK358.out⟩, ⟨by (with_reducible repeat (first | refine blk_drewN ?_ _ | refine blk_drew ?_ | refine blk_alloc ?_ _)); exact BK359.out⟩, ⟨by repeat (first | (with_reducible first | exact HB.out | apply below_alloc | apply pw_below_drewN | apply below_drew1 | refine below_set ?_ GE358.out | refine below_set ?_ GE359.out) | exact HB.out)⟩⟩
  ·replace c7 := Bool.eq_false_iff.mpr c7
   subst c7
   have H1 : (scarflaw10_ShapeAlike.j0 k true a0_0 a0_1 a0_2 l0_3 a1_0 a1_1 a1_2 l1_3) = some true := by first | with_reducible rfl | (rw [if_neg (show ¬ (false = true) by decide)] at H; exact H)
   clear H
   have H := H1
   clear H1
   have H' := Aside0.mk H
   clear H
   have hnb14 := NB358_359.out
   have hnc14 := NB359_358.out
   have hcz15_0 : w5.cell? ⟨gb358, 0, none⟩ = some (.int .i64 a0_0) := (blk_cell BK358.out 0).trans rfl
   have hcz15_1 : w5.cell? ⟨gb358, 1, none⟩ = some (.string a0_1) := (blk_cell BK358.out 1).trans rfl
   have hcz15_2 : w5.cell? ⟨gb358, 2, none⟩ = some (.string a0_2) := (blk_cell BK358.out 2).trans rfl
   have hcz15_3 : w5.cell? ⟨gb358, 3, none⟩ = some (.slice A0_3 l0_3.length c0_3) := (blk_cell BK358.out 3).trans rfl
   have hfz15_0 := blk_frozen BK358.out 0
   have hfz15_1 := blk_frozen BK358.out 1
   have hfz15_2 := blk_frozen BK358.out 2
   have hfz15_3 := blk_frozen BK358.out 3
   go_wp2_with (first | ((with_reducible refine gate_callee (f := 8) rfl ?_); refine goesL_ (some 11) rfl rfl Tryd.func8 (by kernel_rfl) rfl #[.agg #[.int .i64 a0_0, .string a0_1, .string a0_2, .slice A0_3 l0_3.length c0_3], .int .i64 150] rfl (by (try simp only [List.map_toArray, List.map_cons, List.map_nil]); first | done | rfl | (simp only [List.length_drop, List.length_take]; rfl)) ?_; (with_reducible refine (scarflaw10_few.calls k a0_0 a0_1 a0_2 _ _ l0_3 150 false _ ?side1 ?side2 A6.out).mono ?_); (case side1 => repeat (first | exact (Kd.V_reads' HO0_3.out).2.2 | (with_reducible refine Kd.C_alloc ?_ _) | (with_reducible refine Kd.C_drewN ?_ _) | (with_reducible refine Kd.C_drew ?_))); (case side2 => exact (Kd.V_reads' HO0_3.out).2.1); rintro e w16 ⟨rfl, hb⟩; refine ⟨_, rfl, ?_⟩; have n0_ := Aside0.mk (Kd.V_below (by (with_reducible repeat (first | apply Kd.V_alloc | apply Kd.V_drewN | apply Kd.V_drew)); exact HO0_3.out) hb); have n1_ := Aside0.mk (Kd.V_below (by (with_reducible repeat (first | apply Kd.V_alloc | apply Kd.V_drewN | apply Kd.V_drew)); exact HO1_3.out) hb); have n2_ := Aside0.mk (blk_below (g := gb358) (o := .cells #[.int .i64 a0_0, .string a0_1, .string a0_2, .slice A0_3 l0_3.length c0_3] 24 (0, 0)) (by (with_reducible repeat (first | refine blk_drewN ?_ _ | refine blk_drew ?_ | refine blk_alloc ?_ _)); exact BK358.out) hb); have n3_ := Aside0.mk (blk_below (g := gb359) (o := .cells #[.int .i64 a1_0, .string a1_1, .string a1_2, .slice A1_3 l1_3.length c1_3] 24 (0, 0)) (by (with_reducible repeat (first | refine blk_drewN ?_ _ | refine blk_drew ?_ | refine blk_alloc ?_ _)); exact BK359.out) hb); have n4_ := Aside0.mk (below_step (by repeat (first | (with_reducible first | exact HB.out | apply below_alloc | apply pw_below_drewN | apply below_drew1 | refine below_set ?_ GE358.out | refine below_set ?_ GE359.out) | exact HB.out)) hb); clear HO0_3; clear HO1_3; clear BK358; clear BK359; clear HB; have HO0_3 := n0_; have HO1_3 := n1_; have BK358 := n2_; have BK359 := n3_; have HB := n4_; clear n0_ n1_ n2_ n3_ n4_; (try clear hb); (try clear hb2); (try clear hk); (try clear hi)))
   go_meet
   case rel => exact ⟨_, (true), (by first | rfl | (simp; done) | (simp [*]; done)), H', ⟨by first | omega | exact Nat.le_refl _⟩, ⟨by (with_reducible repeat (first | apply Kd.V_alloc | apply Kd.V_drewN | apply Kd.V_drew)); exact Kd.V_mono HO0_3.out (fun _ hk => ⟨hk.1.1, ⟨hk.1.2, hk.2⟩⟩)⟩, ⟨by (with_reducible repeat (first | apply Kd.V_alloc | apply Kd.V_drewN | apply Kd.V_drew)); exact Kd.V_mono HO1_3.out (fun _ hk => ⟨hk.1.1, ⟨hk.1.2, hk.2⟩⟩)⟩, ⟨by (with_reducible repeat (first | refine blk_drewN ?_ _ | refine blk_drew ?_ | refine blk_alloc ?_ _)); exact BK358.out⟩, ⟨by (with_reducible repeat (first | refine blk_drewN ?_ _ | refine blk_drew ?_ | refine blk_alloc ?_ _)); exact BK359.out⟩, ⟨by repeat (first | (with_reducible first | exact HB.out | apply below_alloc | apply pw_below_drewN | apply below_drew1 | refine below_set ?_ GE358.out | refine below_set ?_ GE359.out) | exact HB.out)⟩⟩
 case rest =>
  clear HC3
  try clear c1
  try clear p2
  try clear c5
  try clear c7
  try clear c8
  try clear c9
  try clear c14
  try clear hcz10_0
  try clear hcz10_1
  try clear hcz10_2
  try clear hcz10_3
  try clear hcz12_0
  try clear hcz12_1
  try clear hcz12_2
  try clear hcz12_3
  try clear hcz15_0
  try clear hcz15_1
  try clear hcz15_2
  try clear hcz15_3
  try clear hfz10_0
  try clear hfz10_1
  try clear hfz10_2
  try clear hfz10_3
  try clear hfz12_0
  try clear hfz12_1
  try clear hfz12_2
  try clear hfz12_3
  try clear hfz15_0
  try clear hfz15_1
  try clear hfz15_2
  try clear hfz15_3
  obtain ⟨kq, x17_2, rfl, HA, HJ2, HO_359003, HO_360003, BK358, BK359, HB⟩ := hcut
  cases kq with
  | zero => exact absurd HA.out (by simp [scarflaw10_ShapeAlike.j0])
  | succ kj2 =>
   have H := HA.out
   clear HA
   simp only [scarflaw10_ShapeAlike.j0] at H
   by_cases c17 : x17_2 = true
   ·subst c17
    have H1 : ((scarflaw10_known.f kj2).bind fun t362 => (if t362 = true then (some true) else (some false))) = some true := by first | with_reducible rfl | (rw [if_pos rfl] at H; exact H)
    clear H
    have H := H1
    clear H1
    replace H := Option.bind_eq_some_iff.mp H
    obtain ⟨t362, A180, H⟩ := H
    replace H : (if t362 = true then (some true) else (some false)) = some true := H
    have A18 := Aside0.mk A180
    clear A180
    by_cases c19 : t362 = true
    ·subst c19
     have H1 : (some true) = some true := by first | with_reducible rfl | (rw [if_pos rfl] at H; exact H)
     clear H
     have H := H1
     clear H1
     go_wp2_with (first | ((with_reducible refine gate_callee (f := 9) rfl ?_); refine goesL_ (some 18) rfl rfl Tryd.func9 (by kernel_rfl) rfl #[] rfl (by (try simp only [List.map_toArray, List.map_cons, List.map_nil]); first | done | rfl | (simp only [List.length_drop, List.length_take]; rfl)) ?_; (with_reducible refine (scarflaw10_known.callsA kj2  true _ (tab_below HTAB.out (by repeat (first | (with_reducible first | exact HB.out | apply below_alloc | apply pw_below_drewN | apply below_drew1 | refine below_set ?_ GE358.out | refine below_set ?_ GE359.out) | exact HB.out))) A18.out).mono ?_); rintro e w20 ⟨rfl, hb⟩; refine ⟨_, rfl, ?_⟩; have n0_ := Aside0.mk (Kd.V_below (by (with_reducible repeat (first | apply Kd.V_alloc | apply Kd.V_drewN | apply Kd.V_drew)); exact HO_359003.out) hb); have n1_ := Aside0.mk (Kd.V_below (by (with_reducible repeat (first | apply Kd.V_alloc | apply Kd.V_drewN | apply Kd.V_drew)); exact HO_360003.out) hb); have n2_ := Aside0.mk (blk_below (g := gb358) (o := .cells #[.int .i64 a0_0, .string a0_1, .string a0_2, .slice A0_3 l0_3.length c0_3] 24 (0, 0)) (by (with_reducible repeat (first | refine blk_drewN ?_ _ | refine blk_drew ?_ | refine blk_alloc ?_ _)); exact BK358.out) hb); have n3_ := Aside0.mk (blk_below (g := gb359) (o := .cells #[.int .i64 a1_0, .string a1_1, .string a1_2, .slice A1_3 l1_3.length c1_3] 24 (0, 0)) (by (with_reducible repeat (first | refine blk_drewN ?_ _ | refine blk_drew ?_ | refine blk_alloc ?_ _)); exact BK359.out) hb); have n4_ := Aside0.mk (below_step (by repeat (first | (with_reducible first | exact HB.out | apply below_alloc | apply pw_below_drewN | apply below_drew1 | refine below_set ?_ GE358.out | refine below_set ?_ GE359.out) | exact HB.out)) hb); clear HO_359003; clear HO_360003; clear BK358; clear BK359; clear HB; have HO_359003 := n0_; have HO_360003 := n1_; have BK358 := n2_; have BK359 := n3_; have HB := n4_; clear n0_ n1_ n2_ n3_ n4_; (try clear hb); (try clear hb2); (try clear hk); (try clear hi)))
     go_ret
     exact ⟨by first | rfl | (simp [errW_none, errW_some] <;> rfl) | (simp [*, errW_none, errW_some] <;> rfl), by repeat (first | (with_reducible first | exact HB.out | apply below_alloc | apply pw_below_drewN | apply below_drew1 | refine below_set ?_ GE358.out | refine below_set ?_ GE359.out) | exact HB.out)⟩
    ·replace c19 := Bool.eq_false_iff.mpr c19
     subst c19
     have H1 : (some false) = some true := by first | with_reducible rfl | (rw [if_neg (show ¬ (false = true) by decide)] at H; exact H)
     clear H
     have H := H1
     clear H1
     exact absurd H (by simp)
   ·replace c17 := Bool.eq_false_iff.mpr c17
    subst c17
    have H1 : ((shape_Marks.f (([(⟨a0_0, a0_1, a0_2, l0_3⟩ : S24), (⟨a1_0, a1_1, a1_2, l1_3⟩ : S24)] : List (S24)))).bind fun t366 => ((scarfref05_Nodes.f kj2 a0_0 a0_1 a0_2 l0_3 151).bind fun t369 => ((scarfref05_Nodes.f kj2 a1_0 a1_1 a1_2 l1_3 151).bind fun t372 => ((scarflaw10_known.f kj2).bind fun t375 => (if t375 = true then (if (t366.length : Int) = 2 then (if 0 < (t366.length : Int) then (if ((rd_L3 t366 0).length : Int) = (t369.length : Int) then (if 1 < (t366.length : Int) then (scarflaw10_ShapeAlike.j1 kj2 t366 t369 t372 (((rd_L3 t366 1).length : Int) != (t372.length : Int))) else (none)) else (scarflaw10_ShapeAlike.j1 kj2 t366 t369 t372 true)) else (none)) else (scarflaw10_ShapeAlike.j1 kj2 t366 t369 t372 true)) else (scarflaw10_ShapeAlike.j1 kj2 t366 t369 t372 true)))))) = some true := by first | with_reducible rfl | (rw [if_neg (show ¬ (false = true) by decide)] at H; exact H)
    clear H
    have H := H1
    clear H1
    obtain ⟨y363, hy363⟩ : ∃ y_ : List (S24), y_ = (([(⟨a0_0, a0_1, a0_2, l0_3⟩ : S24), (⟨a1_0, a1_1, a1_2, l1_3⟩ : S24)] : List (S24))) := ⟨_, rfl⟩
    replace H : ((shape_Marks.f y363).bind fun t366 => ((scarfref05_Nodes.f kj2 a0_0 a0_1 a0_2 l0_3 151).bind fun t369 => ((scarfref05_Nodes.f kj2 a1_0 a1_1 a1_2 l1_3 151).bind fun t372 => ((scarflaw10_known.f kj2).bind fun t375 => (if t375 = true then (if (t366.length : Int) = 2 then (if 0 < (t366.length : Int) then (if ((rd_L3 t366 0).length : Int) = (t369.length : Int) then (if 1 < (t366.length : Int) then (scarflaw10_ShapeAlike.j1 kj2 t366 t369 t372 (((rd_L3 t366 1).length : Int) != (t372.length : Int))) else (none)) else (scarflaw10_ShapeAlike.j1 kj2 t366 t369 t372 true)) else (none)) else (scarflaw10_ShapeAlike.j1 kj2 t366 t369 t372 true)) else (scarflaw10_ShapeAlike.j1 kj2 t366 t369 t372 true)))))) = some true := by first | (rw [hy363]; with_reducible exact H) | (have H2_ := (Option.bind_some _ _).symm.trans H; rw [hy363]; with_reducible exact H2_) | (have H2_ := (Option.bind_some _ _).symm.trans H; with_reducible exact H2_) | with_reducible exact H | (rw [hy363]; exact H) | exact H
    have Ny363 := Aside0.mk hy363
    clear hy363
    replace H := Option.bind_eq_some_iff.mp H
    obtain ⟨t366, A210, H⟩ := H
    replace H : ((scarfref05_Nodes.f kj2 a0_0 a0_1 a0_2 l0_3 151).bind fun t369 => ((scarfref05_Nodes.f kj2 a1_0 a1_1 a1_2 l1_3 151).bind fun t372 => ((scarflaw10_known.f kj2).bind fun t375 => (if t375 = true then (if (t366.length : Int) = 2 then (if 0 < (t366.length : Int) then (if ((rd_L3 t366 0).length : Int) = (t369.length : Int) then (if 1 < (t366.length : Int) then (scarflaw10_ShapeAlike.j1 kj2 t366 t369 t372 (((rd_L3 t366 1).length : Int) != (t372.length : Int))) else (none)) else (scarflaw10_ShapeAlike.j1 kj2 t366 t369 t372 true)) else (none)) else (scarflaw10_ShapeAlike.j1 kj2 t366 t369 t372 true)) else (scarflaw10_ShapeAlike.j1 kj2 t366 t369 t372 true))))) = some true := H
    have A21 := Aside0.mk A210
    clear A210
    replace H := Option.bind_eq_some_iff.mp H
    obtain ⟨t369, A220, H⟩ := H
    replace H : ((scarfref05_Nodes.f kj2 a1_0 a1_1 a1_2 l1_3 151).bind fun t372 => ((scarflaw10_known.f kj2).bind fun t375 => (if t375 = true then (if (t366.length : Int) = 2 then (if 0 < (t366.length : Int) then (if ((rd_L3 t366 0).length : Int) = (t369.length : Int) then (if 1 < (t366.length : Int) then (scarflaw10_ShapeAlike.j1 kj2 t366 t369 t372 (((rd_L3 t366 1).length : Int) != (t372.length : Int))) else (none)) else (scarflaw10_ShapeAlike.j1 kj2 t366 t369 t372 true)) else (none)) else (scarflaw10_ShapeAlike.j1 kj2 t366 t369 t372 true)) else (scarflaw10_ShapeAlike.j1 kj2 t366 t369 t372 true)))) = some true := H
    have A22 := Aside0.mk A220
    clear A220
    replace H := Option.bind_eq_some_iff.mp H
    obtain ⟨t372, A230, H⟩ := H
    replace H : ((scarflaw10_known.f kj2).bind fun t375 => (if t375 = true then (if (t366.length : Int) = 2 then (if 0 < (t366.length : Int) then (if ((rd_L3 t366 0).length : Int) = (t369.length : Int) then (if 1 < (t366.length : Int) then (scarflaw10_ShapeAlike.j1 kj2 t366 t369 t372 (((rd_L3 t366 1).length : Int) != (t372.length : Int))) else (none)) else (scarflaw10_ShapeAlike.j1 kj2 t366 t369 t372 true)) else (none)) else (scarflaw10_ShapeAlike.j1 kj2 t366 t369 t372 true)) else (scarflaw10_ShapeAlike.j1 kj2 t366 t369 t372 true))) = some true := H
    have A23 := Aside0.mk A230
    clear A230
    have HC24 := Aside0.mk H
    clear H
    have hnb25 := NB358_359.out
    have hnc25 := NB359_358.out
    have hcz26_0 : wc.cell? ⟨gb358, 0, none⟩ = some (.int .i64 a0_0) := (blk_cell BK358.out 0).trans rfl
    have hcz26_1 : wc.cell? ⟨gb358, 1, none⟩ = some (.string a0_1) := (blk_cell BK358.out 1).trans rfl
    have hcz26_2 : wc.cell? ⟨gb358, 2, none⟩ = some (.string a0_2) := (blk_cell BK358.out 2).trans rfl
    have hcz26_3 : wc.cell? ⟨gb358, 3, none⟩ = some (.slice A0_3 l0_3.length c0_3) := (blk_cell BK358.out 3).trans rfl
    have hfz26_0 := blk_frozen BK358.out 0
    have hfz26_1 := blk_frozen BK358.out 1
    have hfz26_2 := blk_frozen BK358.out 2
    have hfz26_3 := blk_frozen BK358.out 3
    have hcz27_0 : wc.cell? ⟨gb359, 0, none⟩ = some (.int .i64 a1_0) := (blk_cell BK359.out 0).trans rfl
    have hcz27_1 : wc.cell? ⟨gb359, 1, none⟩ = some (.string a1_1) := (blk_cell BK359.out 1).trans rfl
    have hcz27_2 : wc.cell? ⟨gb359, 2, none⟩ = some (.string a1_2) := (blk_cell BK359.out 2).trans rfl
    have hcz27_3 : wc.cell? ⟨gb359, 3, none⟩ = some (.slice A1_3 l1_3.length c1_3) := (blk_cell BK359.out 3).trans rfl
    have hfz27_0 := blk_frozen BK359.out 0
    have hfz27_1 := blk_frozen BK359.out 1
    have hfz27_2 := blk_frozen BK359.out 2
    have hfz27_3 := blk_frozen BK359.out 3
    try go_wp2_with (first | ((with_reducible refine gate_dst (N := 21) rfl ?_); (try (refine gate_guard (by rfl) ?_; dsimp only)); refine Kd.N_lit k24 _ 24 ?hg (N' := 21) ?hd (xs := ([(⟨a0_0, a0_1, a0_2, l0_3⟩ : S24), (⟨a1_0, a1_1, a1_2, l1_3⟩ : S24)] : List (S24))) (inner := [.int .i64 a0_0, .string a0_1, .string a0_2, .slice A0_3 l0_3.length c0_3, .int .i64 a1_0, .string a1_1, .string a1_2, .slice A1_3 l1_3.length c1_3]) (ok := (fun k_ => ((P0_3_ k_ ∨ P1_3_ k_) ∨ w.heap.size ≤ k_) ∧ k_ ≠ gb358 ∧ k_ ≠ gb359)) (okp := (fun k_ => ((P0_3_ k_ ∨ P1_3_ k_) ∨ w.heap.size ≤ k_) ∧ k_ ≠ gb358 ∧ k_ ≠ gb359)) ?hr ?hp (fun _ hk => hk) ((show ∀ k_, wc.heap.size ≤ k_ → (fun k_ => ((P0_3_ k_ ∨ P1_3_ k_) ∨ w.heap.size ≤ k_) ∧ k_ ≠ gb358 ∧ k_ ≠ gb359) k_ from fun k_ hk => ⟨(.inr (Nat.le_trans (below_size (by repeat (first | (with_reducible first | exact HB.out | apply below_alloc | apply pw_below_drewN | apply below_drew1 | refine below_set ?_ GE358.out | refine below_set ?_ GE359.out) | exact HB.out))) hk)), Kd.freshB (g := gb358) (o := .cells #[.int .i64 a0_0, .string a0_1, .string a0_2, .slice A0_3 l0_3.length c0_3] 24 (0, 0)) (by (with_reducible repeat (first | refine blk_drewN ?_ _ | refine blk_drew ?_ | refine blk_alloc ?_ _)); exact BK358.out) k_ hk, Kd.freshB (g := gb359) (o := .cells #[.int .i64 a1_0, .string a1_1, .string a1_2, .slice A1_3 l1_3.length c1_3] 24 (0, 0)) (by (with_reducible repeat (first | refine blk_drewN ?_ _ | refine blk_drew ?_ | refine blk_alloc ?_ _)); exact BK359.out) k_ hk⟩) _ (Nat.le_refl _)) (Below.refl _ _) (Nat.le_refl _) (by simp) ?_; (case hd => rfl); (case hg => rfl); (case hr => first | (go_simp; done) | (go_simp; rfl)); (case hp => exact (Reps.c4 (show Kd.FK k24 _ _ (⟨a0_0, a0_1, a0_2, l0_3⟩ : S24) [.int .i64 a0_0, .string a0_1, .string a0_2, .slice A0_3 l0_3.length c0_3] from (k24_mkF _ _ (⟨a0_0, a0_1, a0_2, l0_3⟩ : S24) (Kd.V_reads' (Kd.V_mono (ok' := (fun k_ => ((P0_3_ k_ ∨ P1_3_ k_) ∨ w.heap.size ≤ k_) ∧ k_ ≠ gb358 ∧ k_ ≠ gb359)) (HO_359003.out) (fun k_ hk => ⟨hk.1, ⟨hk.2.1, hk.2.2⟩⟩))).2.1 (Kd.V_F (Kd.V_mono (ok' := (fun k_ => ((P0_3_ k_ ∨ P1_3_ k_) ∨ w.heap.size ≤ k_) ∧ k_ ≠ gb358 ∧ k_ ≠ gb359)) (HO_359003.out) (fun k_ hk => ⟨hk.1, ⟨hk.2.1, hk.2.2⟩⟩))))) (Reps.c4 (show Kd.FK k24 _ _ (⟨a1_0, a1_1, a1_2, l1_3⟩ : S24) [.int .i64 a1_0, .string a1_1, .string a1_2, .slice A1_3 l1_3.length c1_3] from (k24_mkF _ _ (⟨a1_0, a1_1, a1_2, l1_3⟩ : S24) (Kd.V_reads' (Kd.V_mono (ok' := (fun k_ => ((P0_3_ k_ ∨ P1_3_ k_) ∨ w.heap.size ≤ k_) ∧ k_ ≠ gb358 ∧ k_ ≠ gb359)) (HO_360003.out) (fun k_ hk => ⟨hk.1, ⟨hk.2.1, hk.2.2⟩⟩))).2.1 (Kd.V_F (Kd.V_mono (ok' := (fun k_ => ((P0_3_ k_ ∨ P1_3_ k_) ∨ w.heap.size ≤ k_) ∧ k_ ≠ gb358 ∧ k_ ≠ gb359)) (HO_360003.out) (fun k_ hk => ⟨hk.1, ⟨hk.2.1, hk.2.2⟩⟩))))) (Reps.none _ _)))); intro v364 w28 ho29 hb hg_ hnew_; clear hg_ hnew_; (first | rw [← Ny363.out] at ho29 | (simp only [Int.reduceToNat] at ho29; rw [← Ny363.out] at ho29)); have n0_ := Aside0.mk (Kd.V_elder' (by (with_reducible repeat (first | apply Kd.V_alloc | apply Kd.V_drewN | apply Kd.V_drew)); exact HO_359003.out) (Kd.N_base ho29) hb); have n1_ := Aside0.mk (Kd.V_elder' (by (with_reducible repeat (first | apply Kd.V_alloc | apply Kd.V_drewN | apply Kd.V_drew)); exact HO_360003.out) (Kd.N_base ho29) hb); have n2_ := Aside0.mk (Kd.N_lower ho29 (below_size (by repeat (first | (with_reducible first | exact HB.out | apply below_alloc | apply pw_below_drewN | apply below_drew1 | refine below_set ?_ GE358.out | refine below_set ?_ GE359.out) | exact HB.out)))); have n3_ := Aside0.mk (blk_below (g := gb358) (o := .cells #[.int .i64 a0_0, .string a0_1, .string a0_2, .slice A0_3 l0_3.length c0_3] 24 (0, 0)) (by (with_reducible repeat (first | refine blk_drewN ?_ _ | refine blk_drew ?_ | refine blk_alloc ?_ _)); exact BK358.out) hb); have n4_ := Aside0.mk (blk_below (g := gb359) (o := .cells #[.int .i64 a1_0, .string a1_1, .string a1_2, .slice A1_3 l1_3.length c1_3] 24 (0, 0)) (by (with_reducible repeat (first | refine blk_drewN ?_ _ | refine blk_drew ?_ | refine blk_alloc ?_ _)); exact BK359.out) hb); have n5_ := Aside0.mk (below_step (by repeat (first | (with_reducible first | exact HB.out | apply below_alloc | apply pw_below_drewN | apply below_drew1 | refine below_set ?_ GE358.out | refine below_set ?_ GE359.out) | exact HB.out)) hb); clear HO_359003; clear HO_360003; clear BK358; clear BK359; clear HB; have HO_359003 := n0_; have HO_360003 := n1_; have HO365 := n2_; have BK358 := n3_; have BK359 := n4_; have HB := n5_; clear n0_ n1_ n2_ n3_ n4_ n5_; clear hb ho29; obtain ⟨Ao30, co30, eo30⟩ := Kd.N_slice HO365.out; subst eo30) | ((with_reducible refine gate_callee (f := 15) rfl ?_); refine goesL_ (some 22) rfl rfl Tryd.func15 (by kernel_rfl) rfl #[.slice Ao30 y363.length co30] rfl (by (try simp only [List.map_toArray, List.map_cons, List.map_nil]); first | done | rfl | (simp only [List.length_drop, List.length_take]; rfl)) ?_; (with_reducible refine (shape_Marks.calls _ _ y363 t366 _ (tab_below HTAB.out (by repeat (first | (with_reducible first | exact HB.out | apply below_alloc | apply pw_below_drewN | apply below_drew1 | refine below_set ?_ GE358.out | refine below_set ?_ GE359.out) | exact HB.out))) ?side1 ?side2 A21.out).mono ?_); (case side1 => repeat (first | exact (Kd.N_reads' HO365.out).2.2 | exact (Kd.V_reads' HO365.out).2.2 | (with_reducible refine Kd.C_alloc ?_ _) | (with_reducible refine Kd.C_drewN ?_ _) | (with_reducible refine Kd.C_drew ?_))); (case side2 => first | exact (Kd.N_reads' HO365.out).2.1 | exact (Kd.V_reads' HO365.out).2.1); rintro e w31 ⟨v367, rfl, ho0, hb⟩; refine ⟨_, rfl, ?_⟩; have n0_ := Aside0.mk (Kd.V_elder' (by (with_reducible repeat (first | apply Kd.V_alloc | apply Kd.V_drewN | apply Kd.V_drew)); exact HO_359003.out) (Kd.S_base ho0) hb); have n1_ := Aside0.mk (Kd.V_elder' (by (with_reducible repeat (first | apply Kd.V_alloc | apply Kd.V_drewN | apply Kd.V_drew)); exact HO_360003.out) (Kd.S_base ho0) hb); have n2_ := Aside0.mk (Kd.N_elder' (by (with_reducible repeat (first | apply Kd.N_alloc | apply Kd.N_drewN | apply Kd.N_drew)); exact HO365.out) (Kd.S_base ho0) hb); have n3_ := Aside0.mk (Kd.N_lower (Kd.N_mono (ok' := fun k_ => ((P0_3_ k_ ∨ P1_3_ k_) ∨ w.heap.size ≤ k_) ∧ some k_ ≠ (.slice Ao30 y363.length co30 : Value).ownBlock ∧ k_ ≠ gb358 ∧ k_ ≠ gb359) (Kd.S_N (Kd.S_bound ho0)) (fun k_ hk_ => ⟨(.inr (Nat.le_trans (below_size (by repeat (first | (with_reducible first | exact HB.out | apply below_alloc | apply pw_below_drewN | apply below_drew1 | refine below_set ?_ GE358.out | refine below_set ?_ GE359.out) | exact HB.out))) hk_.2.1)), (Kd.fresh' (Kd.N_lt (by (with_reducible repeat (first | apply Kd.N_alloc | apply Kd.N_drewN | apply Kd.N_drew)); exact HO365.out)) k_ hk_.2.1), (Kd.freshB (g := gb358) (o := .cells #[.int .i64 a0_0, .string a0_1, .string a0_2, .slice A0_3 l0_3.length c0_3] 24 (0, 0)) (by (with_reducible repeat (first | refine blk_drewN ?_ _ | refine blk_drew ?_ | refine blk_alloc ?_ _)); exact BK358.out) k_ hk_.2.1), (Kd.freshB (g := gb359) (o := .cells #[.int .i64 a1_0, .string a1_1, .string a1_2, .slice A1_3 l1_3.length c1_3] 24 (0, 0)) (by (with_reducible repeat (first | refine blk_drewN ?_ _ | refine blk_drew ?_ | refine blk_alloc ?_ _)); exact BK359.out) k_ hk_.2.1)⟩)) (below_size (by repeat (first | (with_reducible first | exact HB.out | apply below_alloc | apply pw_below_drewN | apply below_drew1 | refine below_set ?_ GE358.out | refine below_set ?_ GE359.out) | exact HB.out)))); have n4_ := Aside0.mk (blk_below (g := gb358) (o := .cells #[.int .i64 a0_0, .string a0_1, .string a0_2, .slice A0_3 l0_3.length c0_3] 24 (0, 0)) (by (with_reducible repeat (first | refine blk_drewN ?_ _ | refine blk_drew ?_ | refine blk_alloc ?_ _)); exact BK358.out) hb); have n5_ := Aside0.mk (blk_below (g := gb359) (o := .cells #[.int .i64 a1_0, .string a1_1, .string a1_2, .slice A1_3 l1_3.length c1_3] 24 (0, 0)) (by (with_reducible repeat (first | refine blk_drewN ?_ _ | refine blk_drew ?_ | refine blk_alloc ?_ _)); exact BK359.out) hb); have n6_ := Aside0.mk (below_step (by repeat (first | (with_reducible first | exact HB.out | apply below_alloc | apply pw_below_drewN | apply below_drew1 | refine below_set ?_ GE358.out | refine below_set ?_ GE359.out) | exact HB.out)) hb); clear HO_359003; clear HO_360003; clear HO365; clear BK358; clear BK359; clear HB; have HO_359003 := n0_; have HO_360003 := n1_; have HO365 := n2_; have HO368 := n3_; have BK358 := n4_; have BK359 := n5_; have HB := n6_; clear n0_ n1_ n2_ n3_ n4_ n5_ n6_; (try clear hb); (try clear hb2); (try clear hk); (try clear hi); (try clear ho0)))
    have n0_ := Aside0.mk (Kd.V_drew HO_359003.out)
    have n1_ := Aside0.mk (Kd.V_drew HO_360003.out)
    have n2_ := Aside0.mk (Kd.N_drew HO365.out)
    have n3_ := Aside0.mk (Kd.N_drew HO368.out)
    have n4_ := Aside0.mk (blk_drew BK358.out)
    have n5_ := Aside0.mk (blk_drew BK359.out)
    have n6_ := Aside0.mk (below_drew1 HB.out)
    clear HO_359003
    clear HO_360003
    clear HO365
    clear HO368
    clear BK358
    clear BK359
    clear HB
    have HO_359003 := n0_
    have HO_360003 := n1_
    have HO365 := n2_
    have HO368 := n3_
    have BK358 := n4_
    have BK359 := n5_
    have HB := n6_
    clear n0_ n1_ n2_ n3_ n4_ n5_ n6_
    refine start_ (n := 6) (S := fun w' => w'.cell? ⟨gb358, 0, none⟩ = some (.int .i64 a0_0) ∧ w'.cell? ⟨gb358, 1, none⟩ = some (.string a0_1) ∧ w'.cell? ⟨gb358, 2, none⟩ = some (.string a0_2) ∧ w'.cell? ⟨gb358, 3, none⟩ = some (.slice A0_3 l0_3.length c0_3) ∧ w'.cell? ⟨gb359, 0, none⟩ = some (.int .i64 a1_0) ∧ w'.cell? ⟨gb359, 1, none⟩ = some (.string a1_1) ∧ w'.cell? ⟨gb359, 2, none⟩ = some (.string a1_2) ∧ w'.cell? ⟨gb359, 3, none⟩ = some (.slice A1_3 l1_3.length c1_3)) (ds := []) #[false, false, false, false, false, false] (by kernel_rfl) rfl rfl ⟨(blk_cell BK358.out 0).trans rfl, (blk_cell BK358.out 1).trans rfl, (blk_cell BK358.out 2).trans rfl, (blk_cell BK358.out 3).trans rfl, (blk_cell BK359.out 0).trans rfl, (blk_cell BK359.out 1).trans rfl, (blk_cell BK359.out 2).trans rfl, (blk_cell BK359.out 3).trans rfl⟩ (fun hHeld => ?_)
    generalize w31.drew = w32 at HO_359003 HO_360003 HO365 HO368 BK358 BK359 HB hHeld ⊢
    refine take_ (i := 0) (N := some 23) (v := ?_) (a' := ?_) #[true, false, false, false, false, false] rfl rfl (by kernel_rfl) (fun _ _ _ h => h) (Or.inl ⟨by rfl, ?_⟩) hHeld ?_ ?_
    rotate_left
    ·rintro w' ⟨s0, s1, s2, s3, s4, s5, s6, s7⟩
     go_simp
     with_reducible rfl
    rotate_left
    ·simp only [Act.put, List.setIfInBounds_toArray, List.set_cons_zero, List.set_cons_succ, i64_w, i32_w]
     rfl
    refine take_ (i := 2) (N := some 25) (v := ?_) (a' := ?_) #[true, false, true, false, false, false] rfl rfl (by kernel_rfl) (fun _ _ _ h => h) (Or.inl ⟨by rfl, ?_⟩) hHeld ?_ ?_
    rotate_left
    ·rintro w' ⟨s0, s1, s2, s3, s4, s5, s6, s7⟩
     go_simp
     with_reducible rfl
    rotate_left
    ·simp only [Act.put, List.setIfInBounds_toArray, List.set_cons_zero, List.set_cons_succ, i64_w, i32_w]
     rfl
    refine one_ (i := 1) (N := some 24) #[true, true, true, false, false, false] rfl rfl (by kernel_rfl) (by decide) (fun K hK => ?_)
    refine goes_ Tryd.func17 (by kernel_rfl) rfl #[.agg #[.int .i64 a0_0, .string a0_1, .string a0_2, .slice A0_3 l0_3.length c0_3], .int .i64 151] (by rfl) rfl rfl (by (try simp only [List.map_toArray, List.map_cons, List.map_nil]); first | done | rfl | (simp only [List.length_drop, List.length_take]; rfl)) ?_
    with_reducible refine (scarfref05_Nodes.calls kj2 a0_0 a0_1 a0_2 (fun k_ => (((((P0_3_ k_ ∨ P1_3_ k_) ∨ w.heap.size ≤ k_) ∧ (k_ ≠ gb358 ∧ k_ ≠ gb359)) ∧ some k_ ≠ (.slice Ao30 y363.length co30 : Value).ownBlock) ∧ some k_ ≠ (v367 : Value).ownBlock)) _ _ l0_3 151 t369 _ ?side1 A22.out).mono ?_
    (case side1 => exact HO_359003.out)
    rintro e w33 ⟨v370, rfl, ho0, hb⟩
    refine ⟨_, rfl, ?_⟩
    have n0_ := Aside0.mk (Kd.V_elder' (by (with_reducible repeat (first | apply Kd.V_alloc | apply Kd.V_drewN | apply Kd.V_drew)); exact HO_359003.out) (Kd.N_base ho0) hb)
    have n1_ := Aside0.mk (Kd.V_elder' (by (with_reducible repeat (first | apply Kd.V_alloc | apply Kd.V_drewN | apply Kd.V_drew)); exact HO_360003.out) (Kd.N_base ho0) hb)
    have n2_ := Aside0.mk (Kd.N_elder' (by (with_reducible repeat (first | apply Kd.N_alloc | apply Kd.N_drewN | apply Kd.N_drew)); exact HO365.out) (Kd.N_base ho0) hb)
    have n3_ := Aside0.mk (Kd.N_elder' (by (with_reducible repeat (first | apply Kd.N_alloc | apply Kd.N_drewN | apply Kd.N_drew)); exact HO368.out) (Kd.N_base ho0) hb)
    have n4_ := Aside0.mk (Kd.N_lower (Kd.N_mono (ok' := fun k_ => ((P0_3_ k_ ∨ P1_3_ k_) ∨ w.heap.size ≤ k_) ∧ some k_ ≠ (.slice Ao30 y363.length co30 : Value).ownBlock ∧ some k_ ≠ (v367 : Value).ownBlock ∧ k_ ≠ gb358 ∧ k_ ≠ gb359) ho0 (fun k_ hk_ => ⟨Or.elim hk_ (fun hs_ => hs_.1.1.1) (fun hn_ => (.inr (Nat.le_trans (below_size (by repeat (first | (with_reducible first | exact HB.out | apply below_alloc | apply pw_below_drewN | apply below_drew1 | refine below_set ?_ GE358.out | refine below_set ?_ GE359.out) | exact HB.out))) hn_))), Or.elim hk_ (fun hs_ => hs_.1.2) (fun hn_ => (Kd.fresh' (Kd.N_lt (by (with_reducible repeat (first | apply Kd.N_alloc | apply Kd.N_drewN | apply Kd.N_drew)); exact HO365.out)) k_ hn_)), Or.elim hk_ (fun hs_ => hs_.2) (fun hn_ => (Kd.fresh' (Kd.N_lt (by (with_reducible repeat (first | apply Kd.N_alloc | apply Kd.N_drewN | apply Kd.N_drew)); exact HO368.out)) k_ hn_)), Or.elim hk_ (fun hs_ => hs_.1.1.2.1) (fun hn_ => (Kd.freshB (g := gb358) (o := .cells #[.int .i64 a0_0, .string a0_1, .string a0_2, .slice A0_3 l0_3.length c0_3] 24 (0, 0)) (by (with_reducible repeat (first | refine blk_drewN ?_ _ | refine blk_drew ?_ | refine blk_alloc ?_ _)); exact BK358.out) k_ hn_)), Or.elim hk_ (fun hs_ => hs_.1.1.2.2) (fun hn_ => (Kd.freshB (g := gb359) (o := .cells #[.int .i64 a1_0, .string a1_1, .string a1_2, .slice A1_3 l1_3.length c1_3] 24 (0, 0)) (by (with_reducible repeat (first | refine blk_drewN ?_ _ | refine blk_drew ?_ | refine blk_alloc ?_ _)); exact BK359.out) k_ hn_))⟩)) (below_size (by repeat (first | (with_reducible first | exact HB.out | apply below_alloc | apply pw_below_drewN | apply below_drew1 | refine below_set ?_ GE358.out | refine below_set ?_ GE359.out) | exact HB.out))))
    have n5_ := Aside0.mk (blk_below (g := gb358) (o := .cells #[.int .i64 a0_0, .string a0_1, .string a0_2, .slice A0_3 l0_3.length c0_3] 24 (0, 0)) (by (with_reducible repeat (first | refine blk_drewN ?_ _ | refine blk_drew ?_ | refine blk_alloc ?_ _)); exact BK358.out) hb)
    have n6_ := Aside0.mk (blk_below (g := gb359) (o := .cells #[.int .i64 a1_0, .string a1_1, .string a1_2, .slice A1_3 l1_3.length c1_3] 24 (0, 0)) (by (with_reducible repeat (first | refine blk_drewN ?_ _ | refine blk_drew ?_ | refine blk_alloc ?_ _)); exact BK359.out) hb)
    have n7_ := Aside0.mk (below_step (by repeat (first | (with_reducible first | exact HB.out | apply below_alloc | apply pw_below_drewN | apply below_drew1 | refine below_set ?_ GE358.out | refine below_set ?_ GE359.out) | exact HB.out)) hb)
    clear HO_359003
    clear HO_360003
    clear HO365
    clear HO368
    clear BK358
    clear BK359
    clear HB
    have HO_359003 := n0_
    have HO_360003 := n1_
    have HO365 := n2_
    have HO368 := n3_
    have HO371 := n4_
    have BK358 := n5_
    have BK359 := n6_
    have HB := n7_
    clear n0_ n1_ n2_ n3_ n4_ n5_ n6_ n7_
    (try clear hb)
    (try clear hb2)
    (try clear hk)
    (try clear hi)
    (try clear ho0)
    refine hK.out _ _ ⟨(blk_cell BK358.out 0).trans rfl, (blk_cell BK358.out 1).trans rfl, (blk_cell BK358.out 2).trans rfl, (blk_cell BK358.out 3).trans rfl, (blk_cell BK359.out 0).trans rfl, (blk_cell BK359.out 1).trans rfl, (blk_cell BK359.out 2).trans rfl, (blk_cell BK359.out 3).trans rfl⟩ (fun hHeld => ?_)
    clear hK K
    refine norm_ (a' := ?_) ?_ ?_
    rotate_left
    ·show Act.put _ (some 24) _ = _
     simp only [Act.put, List.setIfInBounds_toArray, List.set_cons_zero, List.set_cons_succ, i64_w, i32_w]
     rfl
    refine one_ (i := 3) (N := some 26) #[true, true, true, true, false, false] rfl rfl (by kernel_rfl) (by decide) (fun K hK => ?_)
    refine goes_ Tryd.func17 (by kernel_rfl) rfl #[.agg #[.int .i64 a1_0, .string a1_1, .string a1_2, .slice A1_3 l1_3.length c1_3], .int .i64 151] (by rfl) rfl rfl (by (try simp only [List.map_toArray, List.map_cons, List.map_nil]); first | done | rfl | (simp only [List.length_drop, List.length_take]; rfl)) ?_
    with_reducible refine (scarfref05_Nodes.calls kj2 a1_0 a1_1 a1_2 (fun k_ => ((((((P0_3_ k_ ∨ P1_3_ k_) ∨ w.heap.size ≤ k_) ∧ (k_ ≠ gb358 ∧ k_ ≠ gb359)) ∧ some k_ ≠ (.slice Ao30 y363.length co30 : Value).ownBlock) ∧ some k_ ≠ (v367 : Value).ownBlock) ∧ some k_ ≠ (v370 : Value).ownBlock)) _ _ l1_3 151 t372 _ ?side1 A23.out).mono ?_
    (case side1 => exact HO_360003.out)
    rintro e w34 ⟨v373, rfl, ho0, hb⟩
    refine ⟨_, rfl, ?_⟩
    have n0_ := Aside0.mk (Kd.V_elder' (by (with_reducible repeat (first | apply Kd.V_alloc | apply Kd.V_drewN | apply Kd.V_drew)); exact HO_359003.out) (Kd.N_base ho0) hb)
    have n1_ := Aside0.mk (Kd.V_elder' (by (with_reducible repeat (first | apply Kd.V_alloc | apply Kd.V_drewN | apply Kd.V_drew)); exact HO_360003.out) (Kd.N_base ho0) hb)
    have n2_ := Aside0.mk (Kd.N_elder' (by (with_reducible repeat (first | apply Kd.N_alloc | apply Kd.N_drewN | apply Kd.N_drew)); exact HO365.out) (Kd.N_base ho0) hb)
    have n3_ := Aside0.mk (Kd.N_elder' (by (with_reducible repeat (first | apply Kd.N_alloc | apply Kd.N_drewN | apply Kd.N_drew)); exact HO368.out) (Kd.N_base ho0) hb)
    have n4_ := Aside0.mk (Kd.N_elder' (by (with_reducible repeat (first | apply Kd.N_alloc | apply Kd.N_drewN | apply Kd.N_drew)); exact HO371.out) (Kd.N_base ho0) hb)
    have n5_ := Aside0.mk (Kd.N_lower (Kd.N_mono (ok' := fun k_ => ((P0_3_ k_ ∨ P1_3_ k_) ∨ w.heap.size ≤ k_) ∧ some k_ ≠ (.slice Ao30 y363.length co30 : Value).ownBlock ∧ some k_ ≠ (v367 : Value).ownBlock ∧ some k_ ≠ (v370 : Value).ownBlock ∧ k_ ≠ gb358 ∧ k_ ≠ gb359) ho0 (fun k_ hk_ => ⟨Or.elim hk_ (fun hs_ => hs_.1.1.1.1) (fun hn_ => (.inr (Nat.le_trans (below_size (by repeat (first | (with_reducible first | exact HB.out | apply below_alloc | apply pw_below_drewN | apply below_drew1 | refine below_set ?_ GE358.out | refine below_set ?_ GE359.out) | exact HB.out))) hn_))), Or.elim hk_ (fun hs_ => hs_.1.1.2) (fun hn_ => (Kd.fresh' (Kd.N_lt (by (with_reducible repeat (first | apply Kd.N_alloc | apply Kd.N_drewN | apply Kd.N_drew)); exact HO365.out)) k_ hn_)), Or.elim hk_ (fun hs_ => hs_.1.2) (fun hn_ => (Kd.fresh' (Kd.N_lt (by (with_reducible repeat (first | apply Kd.N_alloc | apply Kd.N_drewN | apply Kd.N_drew)); exact HO368.out)) k_ hn_)), Or.elim hk_ (fun hs_ => hs_.2) (fun hn_ => (Kd.fresh' (Kd.N_lt (by (with_reducible repeat (first | apply Kd.N_alloc | apply Kd.N_drewN | apply Kd.N_drew)); exact HO371.out)) k_ hn_)), Or.elim hk_ (fun hs_ => hs_.1.1.1.2.1) (fun hn_ => (Kd.freshB (g := gb358) (o := .cells #[.int .i64 a0_0, .string a0_1, .string a0_2, .slice A0_3 l0_3.length c0_3] 24 (0, 0)) (by (with_reducible repeat (first | refine blk_drewN ?_ _ | refine blk_drew ?_ | refine blk_alloc ?_ _)); exact BK358.out) k_ hn_)), Or.elim hk_ (fun hs_ => hs_.1.1.1.2.2) (fun hn_ => (Kd.freshB (g := gb359) (o := .cells #[.int .i64 a1_0, .string a1_1, .string a1_2, .slice A1_3 l1_3.length c1_3] 24 (0, 0)) (by (with_reducible repeat (first | refine blk_drewN ?_ _ | refine blk_drew ?_ | refine blk_alloc ?_ _)); exact BK359.out) k_ hn_))⟩)) (below_size (by repeat (first | (with_reducible first | exact HB.out | apply below_alloc | apply pw_below_drewN | apply below_drew1 | refine below_set ?_ GE358.out | refine below_set ?_ GE359.out) | exact HB.out))))
    have n6_ := Aside0.mk (blk_below (g := gb358) (o := .cells #[.int .i64 a0_0, .string a0_1, .string a0_2, .slice A0_3 l0_3.length c0_3] 24 (0, 0)) (by (with_reducible repeat (first | refine blk_drewN ?_ _ | refine blk_drew ?_ | refine blk_alloc ?_ _)); exact BK358.out) hb)
    have n7_ := Aside0.mk (blk_below (g := gb359) (o := .cells #[.int .i64 a1_0, .string a1_1, .string a1_2, .slice A1_3 l1_3.length c1_3] 24 (0, 0)) (by (with_reducible repeat (first | refine blk_drewN ?_ _ | refine blk_drew ?_ | refine blk_alloc ?_ _)); exact BK359.out) hb)
    have n8_ := Aside0.mk (below_step (by repeat (first | (with_reducible first | exact HB.out | apply below_alloc | apply pw_below_drewN | apply below_drew1 | refine below_set ?_ GE358.out | refine below_set ?_ GE359.out) | exact HB.out)) hb)
    clear HO_359003
    clear HO_360003
    clear HO365
    clear HO368
    clear HO371
    clear BK358
    clear BK359
    clear HB
    have HO_359003 := n0_
    have HO_360003 := n1_
    have HO365 := n2_
    have HO368 := n3_
    have HO371 := n4_
    have HO374 := n5_
    have BK358 := n6_
    have BK359 := n7_
    have HB := n8_
    clear n0_ n1_ n2_ n3_ n4_ n5_ n6_ n7_ n8_
    (try clear hb)
    (try clear hb2)
    (try clear hk)
    (try clear hi)
    (try clear ho0)
    refine hK.out _ _ ⟨(blk_cell BK358.out 0).trans rfl, (blk_cell BK358.out 1).trans rfl, (blk_cell BK358.out 2).trans rfl, (blk_cell BK358.out 3).trans rfl, (blk_cell BK359.out 0).trans rfl, (blk_cell BK359.out 1).trans rfl, (blk_cell BK359.out 2).trans rfl, (blk_cell BK359.out 3).trans rfl⟩ (fun hHeld => ?_)
    clear hK K
    refine norm_ (a' := ?_) ?_ ?_
    rotate_left
    ·show Act.put _ (some 26) _ = _
     simp only [Act.put, List.setIfInBounds_toArray, List.set_cons_zero, List.set_cons_succ, i64_w, i32_w]
     rfl
    refine pure_ (i := 4) (N := some 6) (v := ?_) (a' := ?_) #[true, true, true, true, true, false] rfl rfl (by kernel_rfl) (fun _ _ _ h => h) (Or.inl ⟨by rfl, ?_⟩) ?_ ?_
    rotate_left
    ·intro w'
     go_simp
     with_reducible rfl
    rotate_left
    ·simp only [Act.put, List.setIfInBounds_toArray, List.set_cons_zero, List.set_cons_succ, i64_w, i32_w]
     rfl
    refine pure_ (i := 5) (N := some 7) (v := ?_) (a' := ?_) #[true, true, true, true, true, true] rfl rfl (by kernel_rfl) (fun _ _ _ h => h) (Or.inl ⟨by rfl, ?_⟩) ?_ ?_
    rotate_left
    ·intro w'
     go_simp
     with_reducible rfl
    rotate_left
    ·simp only [Act.put, List.setIfInBounds_toArray, List.set_cons_zero, List.set_cons_succ, i64_w, i32_w]
     rfl
    refine done_ (by kernel_rfl) ?_
    go_upto_region 5 with (fail)
    go_cut [51] (fun v51 wc => ∃ (kq : Nat) (x51_23 : Bool), v51 = .bool x51_23 ∧ Aside0 (scarflaw10_ShapeAlike.j1 kq t366 t369 t372 x51_23 = some true) ∧ Aside0 (kq ≤ kj2) ∧ Aside0 (Kd.N (Kd.slice 3 (Kd.int .i64)) 27 wc w.heap.size (fun k_ => ((P0_3_ k_ ∨ P1_3_ k_) ∨ w.heap.size ≤ k_) ∧ some k_ ≠ (v370 : Value).ownBlock ∧ some k_ ≠ (v373 : Value).ownBlock ∧ k_ ≠ gb358 ∧ k_ ≠ gb359) v367 t366) ∧ Aside0 (Kd.N k24 24 wc w.heap.size (fun k_ => ((P0_3_ k_ ∨ P1_3_ k_) ∨ w.heap.size ≤ k_) ∧ some k_ ≠ (v367 : Value).ownBlock ∧ some k_ ≠ (v373 : Value).ownBlock ∧ k_ ≠ gb358 ∧ k_ ≠ gb359) v370 t369) ∧ Aside0 (Kd.N k24 24 wc w.heap.size (fun k_ => ((P0_3_ k_ ∨ P1_3_ k_) ∨ w.heap.size ≤ k_) ∧ some k_ ≠ (v367 : Value).ownBlock ∧ some k_ ≠ (v370 : Value).ownBlock ∧ k_ ≠ gb358 ∧ k_ ≠ gb359) v373 t372) ∧ Aside0 (Kd.V k24 24 wc w.heap.size (fun k_ => ((P0_3_ k_ ∨ P1_3_ k_) ∨ w.heap.size ≤ k_) ∧ some k_ ≠ (v367 : Value).ownBlock ∧ some k_ ≠ (v370 : Value).ownBlock ∧ some k_ ≠ (v373 : Value).ownBlock ∧ k_ ≠ gb358 ∧ k_ ≠ gb359) (.slice A0_3 l0_3.length c0_3) l0_3) ∧ Aside0 (Kd.V k24 24 wc w.heap.size (fun k_ => ((P0_3_ k_ ∨ P1_3_ k_) ∨ w.heap.size ≤ k_) ∧ some k_ ≠ (v367 : Value).ownBlock ∧ some k_ ≠ (v370 : Value).ownBlock ∧ some k_ ≠ (v373 : Value).ownBlock ∧ k_ ≠ gb358 ∧ k_ ≠ gb359) (.slice A1_3 l1_3.length c1_3) l1_3) ∧ Aside0 (wc.heap[gb358]? = some (.cells #[.int .i64 a0_0, .string a0_1, .string a0_2, (.slice A0_3 l0_3.length c0_3)] 24 (0, 0))) ∧ Aside0 (wc.heap[gb359]? = some (.cells #[.int .i64 a1_0, .string a1_1, .string a1_2, (.slice A1_3 l1_3.length c1_3)] 24 (0, 0))) ∧ Aside0 (Below w.heap.size w wc))
    case first =>
     have H := HC24.out
     clear HC24
     replace H := Option.bind_eq_some_iff.mp H
     obtain ⟨t375, A350, H⟩ := H
     replace H : (if t375 = true then (if (t366.length : Int) = 2 then (if 0 < (t366.length : Int) then (if ((rd_L3 t366 0).length : Int) = (t369.length : Int) then (if 1 < (t366.length : Int) then (scarflaw10_ShapeAlike.j1 kj2 t366 t369 t372 (((rd_L3 t366 1).length : Int) != (t372.length : Int))) else (none)) else (scarflaw10_ShapeAlike.j1 kj2 t366 t369 t372 true)) else (none)) else (scarflaw10_ShapeAlike.j1 kj2 t366 t369 t372 true)) else (scarflaw10_ShapeAlike.j1 kj2 t366 t369 t372 true)) = some true := H
     have A35 := Aside0.mk A350
     clear A350
     by_cases c36 : t375 = true
     ·subst c36
      have H1 : (if (t366.length : Int) = 2 then (if 0 < (t366.length : Int) then (if ((rd_L3 t366 0).length : Int) = (t369.length : Int) then (if 1 < (t366.length : Int) then (scarflaw10_ShapeAlike.j1 kj2 t366 t369 t372 (((rd_L3 t366 1).length : Int) != (t372.length : Int))) else (none)) else (scarflaw10_ShapeAlike.j1 kj2 t366 t369 t372 true)) else (none)) else (scarflaw10_ShapeAlike.j1 kj2 t366 t369 t372 true)) = some true := by first | with_reducible rfl | (rw [if_pos rfl] at H; exact H)
      clear H
      have H := H1
      clear H1
      by_cases c37 : (t366.length : Int) = 2
      ·rw [if_pos c37] at H
       have c37b0 : ((t366.length : Int) == 2) = true := beq_iff_eq.mpr c37
       have c37b1 : ((t366.length : Int) != 2) = false := bne_eq_false_iff_eq.mpr c37
       clear c37
       (first | rw [c37b0] | (simp only [i64_w, i32_w]; rw [c37b0]) | skip)
       by_cases c38 : 0 < (t366.length : Int)
       ·rw [if_pos c38] at H
        have c38b0 : decide (0 < (t366.length : Int)) = true := decide_eq_true c38
        have c38b1 : decide (0 < t366.length) = true := decide_eq_true (by omega)
        clear c38
        by_cases c39 : ((rd_L3 t366 0).length : Int) = (t369.length : Int)
        ·rw [if_pos c39] at H
         have c39b0 : (((rd_L3 t366 0).length : Int) == (t369.length : Int)) = true := beq_iff_eq.mpr c39
         have c39b1 : (((rd_L3 t366 0).length : Int) != (t369.length : Int)) = false := bne_eq_false_iff_eq.mpr c39
         have c39b2 : ((rd_L3 t366 0).length == t369.length) = true := by first | simpa using c39 | (simp at c39 ⊢; omega)
         clear c39
         by_cases c40 : 1 < (t366.length : Int)
         ·rw [if_pos c40] at H
          have c40b0 : decide (1 < (t366.length : Int)) = true := decide_eq_true c40
          have c40b1 : decide (1 < t366.length) = true := decide_eq_true (by omega)
          clear c40
          have H' := Aside0.mk H
          clear H
          go_wp2_with (first | ((with_reducible refine gate_callee (f := 9) rfl ?_); refine goesL_ (some 27) rfl rfl Tryd.func9 (by kernel_rfl) rfl #[] rfl (by (try simp only [List.map_toArray, List.map_cons, List.map_nil]); first | done | rfl | (simp only [List.length_drop, List.length_take]; rfl)) ?_; (with_reducible refine (scarflaw10_known.callsA kj2  true _ (tab_below HTAB.out (by repeat (first | (with_reducible first | exact HB.out | apply below_alloc | apply pw_below_drewN | apply below_drew1 | refine below_set ?_ GE358.out | refine below_set ?_ GE359.out) | exact HB.out))) A35.out).mono ?_); rintro e w41 ⟨rfl, hb⟩; refine ⟨_, rfl, ?_⟩; have n0_ := Aside0.mk (Kd.V_below (by (with_reducible repeat (first | apply Kd.V_alloc | apply Kd.V_drewN | apply Kd.V_drew)); exact HO_359003.out) hb); have n1_ := Aside0.mk (Kd.V_below (by (with_reducible repeat (first | apply Kd.V_alloc | apply Kd.V_drewN | apply Kd.V_drew)); exact HO_360003.out) hb); have n2_ := Aside0.mk (Kd.N_below (by (with_reducible repeat (first | apply Kd.N_alloc | apply Kd.N_drewN | apply Kd.N_drew)); exact HO365.out) hb); have n3_ := Aside0.mk (Kd.N_below (by (with_reducible repeat (first | apply Kd.N_alloc | apply Kd.N_drewN | apply Kd.N_drew)); exact HO368.out) hb); have n4_ := Aside0.mk (Kd.N_below (by (with_reducible repeat (first | apply Kd.N_alloc | apply Kd.N_drewN | apply Kd.N_drew)); exact HO371.out) hb); have n5_ := Aside0.mk (Kd.N_below (by (with_reducible repeat (first | apply Kd.N_alloc | apply Kd.N_drewN | apply Kd.N_drew)); exact HO374.out) hb); have n6_ := Aside0.mk (blk_below (g := gb358) (o := .cells #[.int .i64 a0_0, .string a0_1, .string a0_2, .slice A0_3 l0_3.length c0_3] 24 (0, 0)) (by (with_reducible repeat (first | refine blk_drewN ?_ _ | refine blk_drew ?_ | refine blk_alloc ?_ _)); exact BK358.out) hb); have n7_ := Aside0.mk (blk_below (g := gb359) (o := .cells #[.int .i64 a1_0, .string a1_1, .string a1_2, .slice A1_3 l1_3.length c1_3] 24 (0, 0)) (by (with_reducible repeat (first | refine blk_drewN ?_ _ | refine blk_drew ?_ | refine blk_alloc ?_ _)); exact BK359.out) hb); have n8_ := Aside0.mk (below_step (by repeat (first | (with_reducible first | exact HB.out | apply below_alloc | apply pw_below_drewN | apply below_drew1 | refine below_set ?_ GE358.out | refine below_set ?_ GE359.out) | exact HB.out)) hb); clear HO_359003; clear HO_360003; clear HO365; clear HO368; clear HO371; clear HO374; clear BK358; clear BK359; clear HB; have HO_359003 := n0_; have HO_360003 := n1_; have HO365 := n2_; have HO368 := n3_; have HO371 := n4_; have HO374 := n5_; have BK358 := n6_; have BK359 := n7_; have HB := n8_; clear n0_ n1_ n2_ n3_ n4_ n5_ n6_ n7_ n8_; (try clear hb); (try clear hb2); (try clear hk); (try clear hi); obtain ⟨Ao42, co42, eo42⟩ := Kd.N_slice HO368.out; subst eo42; have p376 : 0 ≤ (0 : Int) := (by omega); have q376 : 0 < (t366.length : Int) := of_decide_eq_true (by first | (with_reducible assumption) | assumption); obtain ⟨ad376, A376_0, c376_0, e376, hx376_0, hl376_0, hi376_0⟩ := at_L3 (Kd.N_reads' HO368.out).2.2 0 p376 q376; cases e376; obtain ⟨ce376, hce376, hMe376, hcc376⟩ := Kd.N_get HO368.out [] 0 p376 (by first | exact q376 | exact of_decide_eq_true (by first | (with_reducible assumption) | assumption) | (have e_ := (Kd.N_reads' HO368.out).1; omega)); obtain ⟨ua376_0, uc376_0, rfl, ul376_0, ge376_0⟩ := Kd.FK_slice_open hMe376; have hv376_0 := hcc376 0 _ rfl; rw [Nat.add_zero, show ((Kd.slice 3 (Kd.int .i64))).sz = 1 from rfl, Nat.mul_one] at hv376_0; replace hv376_0 := Option.some.inj (hv376_0.symm.trans hx376_0); injection hv376_0 with hva_ hvn_ hvc_; rw [hva_] at ge376_0; rw [hvc_] at ul376_0; have HL376_0 := Aside0.mk (show Kd.V (Kd.int .i64) 3 _ w.heap.size _ _ (rd_L3 t366 0) from Kd.V_mk ul376_0 ge376_0); clear hva_ hvn_ hvc_ ge376_0 ul376_0; clear hcc376 hce376; have qi376 : (0 < t366.length) = True := eq_true (by omega); (try rw [show ((0 : Int)).toNat = 0 from rfl] at hx376_0); (try rw [Addr.add_zero'] at hx376_0); have HR376_0 := Aside0.mk hi376_0; have HC376_0 := Aside0.mk hl376_0; clear hi376_0 hl376_0; replace p376 := eq_true p376; replace q376 := eq_true q376; obtain ⟨Ao43, co43, eo43⟩ := Kd.N_slice HO371.out; subst eo43; have p377 : 0 ≤ (1 : Int) := (by omega); have q377 : 1 < (t366.length : Int) := of_decide_eq_true (by first | (with_reducible assumption) | assumption); obtain ⟨ad377, A377_0, c377_0, e377, hx377_0, hl377_0, hi377_0⟩ := at_L3 (Kd.N_reads' HO368.out).2.2 1 p377 q377; obtain rfl : ad376 = ad377 := (by injection e377); obtain ⟨ce377, hce377, hMe377, hcc377⟩ := Kd.N_get HO368.out [] 1 p377 (by first | exact q377 | exact of_decide_eq_true (by first | (with_reducible assumption) | assumption) | (have e_ := (Kd.N_reads' HO368.out).1; omega)); obtain ⟨ua377_0, uc377_0, rfl, ul377_0, ge377_0⟩ := Kd.FK_slice_open hMe377; have hv377_0 := hcc377 0 _ rfl; rw [Nat.add_zero, show ((Kd.slice 3 (Kd.int .i64))).sz = 1 from rfl, Nat.mul_one] at hv377_0; replace hv377_0 := Option.some.inj (hv377_0.symm.trans hx377_0); injection hv377_0 with hva_ hvn_ hvc_; rw [hva_] at ge377_0; rw [hvc_] at ul377_0; have HL377_0 := Aside0.mk (show Kd.V (Kd.int .i64) 3 _ w.heap.size _ _ (rd_L3 t366 1) from Kd.V_mk ul377_0 ge377_0); clear hva_ hvn_ hvc_ ge377_0 ul377_0; clear hcc377 hce377; (try simp only [show (1 : Int).toNat = 1 from rfl, Nat.reduceMul, Nat.reduceEqDiff, Go.Addr.add, ↓reduceIte] at hx377_0); have qi377 : (1 < t366.length) = True := eq_true (by omega); (try rw [show ((1 : Int)).toNat = 1 from rfl] at hx377_0); have HR377_0 := Aside0.mk hi377_0; have HC377_0 := Aside0.mk hl377_0; clear hi377_0 hl377_0; replace p377 := eq_true p377; replace q377 := eq_true q377; obtain ⟨Ao44, co44, eo44⟩ := Kd.N_slice HO374.out; subst eo44))
          go_meet
          case rel => exact ⟨_, ((((rd_L3 t366 1).length : Int) != (t372.length : Int))), (by first | rfl | (simp; done) | (simp [*]; done)), H', ⟨by have := HJ2.out; first | omega | exact Nat.le_refl _⟩, ⟨by (with_reducible repeat (first | apply Kd.N_alloc | apply Kd.N_drewN | apply Kd.N_drew)); exact Kd.N_mono HO368.out (fun _ hk => ⟨hk.1.1.1, ⟨hk.1.2, ⟨hk.2, ⟨hk.1.1.2.2.1, hk.1.1.2.2.2⟩⟩⟩⟩)⟩, ⟨by (with_reducible repeat (first | apply Kd.N_alloc | apply Kd.N_drewN | apply Kd.N_drew)); exact Kd.N_mono HO371.out (fun _ hk => ⟨hk.1.1, ⟨hk.1.2.2.1, ⟨hk.2, ⟨hk.1.2.2.2.1, hk.1.2.2.2.2⟩⟩⟩⟩)⟩, ⟨by (with_reducible repeat (first | apply Kd.N_alloc | apply Kd.N_drewN | apply Kd.N_drew)); exact Kd.N_mono HO374.out (fun _ hk => ⟨hk.1, ⟨hk.2.2.1, ⟨hk.2.2.2.1, ⟨hk.2.2.2.2.1, hk.2.2.2.2.2⟩⟩⟩⟩)⟩, ⟨by (with_reducible repeat (first | apply Kd.V_alloc | apply Kd.V_drewN | apply Kd.V_drew)); exact Kd.V_mono HO_359003.out (fun _ hk => ⟨hk.1.1.1.1.1, ⟨hk.1.1.2, ⟨hk.1.2, ⟨hk.2, ⟨hk.1.1.1.1.2.1, hk.1.1.1.1.2.2⟩⟩⟩⟩⟩)⟩, ⟨by (with_reducible repeat (first | apply Kd.V_alloc | apply Kd.V_drewN | apply Kd.V_drew)); exact Kd.V_mono HO_360003.out (fun _ hk => ⟨hk.1.1.1.1.1, ⟨hk.1.1.2, ⟨hk.1.2, ⟨hk.2, ⟨hk.1.1.1.1.2.1, hk.1.1.1.1.2.2⟩⟩⟩⟩⟩)⟩, ⟨by (with_reducible repeat (first | refine blk_drewN ?_ _ | refine blk_drew ?_ | refine blk_alloc ?_ _)); exact BK358.out⟩, ⟨by (with_reducible repeat (first | refine blk_drewN ?_ _ | refine blk_drew ?_ | refine blk_alloc ?_ _)); exact BK359.out⟩, ⟨by repeat (first | (with_reducible first | exact HB.out | apply below_alloc | apply pw_below_drewN | apply below_drew1 | refine below_set ?_ GE358.out | refine below_set ?_ GE359.out) | exact HB.out)⟩⟩
         ·rw [if_neg c40] at H
          exact absurd H (by simp)
        ·rw [if_neg c39] at H
         have c39b0 : (((rd_L3 t366 0).length : Int) == (t369.length : Int)) = false := beq_eq_false_iff_ne.mpr c39
         have c39b1 : (((rd_L3 t366 0).length : Int) != (t369.length : Int)) = true := bne_iff_ne.mpr c39
         have c39b2 : ((rd_L3 t366 0).length == t369.length) = false := by first | simpa using c39 | (simp at c39 ⊢; omega)
         have H' := Aside0.mk H
         clear H
         go_wp2_with (first | ((with_reducible refine gate_callee (f := 9) rfl ?_); refine goesL_ (some 27) rfl rfl Tryd.func9 (by kernel_rfl) rfl #[] rfl (by (try simp only [List.map_toArray, List.map_cons, List.map_nil]); first | done | rfl | (simp only [List.length_drop, List.length_take]; rfl)) ?_; (with_reducible refine (scarflaw10_known.callsA kj2  true _ (tab_below HTAB.out (by repeat (first | (with_reducible first | exact HB.out | apply below_alloc | apply pw_below_drewN | apply below_drew1 | refine below_set ?_ GE358.out | refine below_set ?_ GE359.out) | exact HB.out))) A35.out).mono ?_); rintro e w45 ⟨rfl, hb⟩; refine ⟨_, rfl, ?_⟩; have n0_ := Aside0.mk (Kd.V_below (by (with_reducible repeat (first | apply Kd.V_alloc | apply Kd.V_drewN | apply Kd.V_drew)); exact HO_359003.out) hb); have n1_ := Aside0.mk (Kd.V_below (by (with_reducible repeat (first | apply Kd.V_alloc | apply Kd.V_drewN | apply Kd.V_drew)); exact HO_360003.out) hb); have n2_ := Aside0.mk (Kd.N_below (by (with_reducible repeat (first | apply Kd.N_alloc | apply Kd.N_drewN | apply Kd.N_drew)); exact HO365.out) hb); have n3_ := Aside0.mk (Kd.N_below (by (with_reducible repeat (first | apply Kd.N_alloc | apply Kd.N_drewN | apply Kd.N_drew)); exact HO368.out) hb); have n4_ := Aside0.mk (Kd.N_below (by (with_reducible repeat (first | apply Kd.N_alloc | apply Kd.N_drewN | apply Kd.N_drew)); exact HO371.out) hb); have n5_ := Aside0.mk (Kd.N_below (by (with_reducible repeat (first | apply Kd.N_alloc | apply Kd.N_drewN | apply Kd.N_drew)); exact HO374.out) hb); have n6_ := Aside0.mk (blk_below (g := gb358) (o := .cells #[.int .i64 a0_0, .string a0_1, .string a0_2, .slice A0_3 l0_3.length c0_3] 24 (0, 0)) (by (with_reducible repeat (first | refine blk_drewN ?_ _ | refine blk_drew ?_ | refine blk_alloc ?_ _)); exact BK358.out) hb); have n7_ := Aside0.mk (blk_below (g := gb359) (o := .cells #[.int .i64 a1_0, .string a1_1, .string a1_2, .slice A1_3 l1_3.length c1_3] 24 (0, 0)) (by (with_reducible repeat (first | refine blk_drewN ?_ _ | refine blk_drew ?_ | refine blk_alloc ?_ _)); exact BK359.out) hb); have n8_ := Aside0.mk (below_step (by repeat (first | (with_reducible first | exact HB.out | apply below_alloc | apply pw_below_drewN | apply below_drew1 | refine below_set ?_ GE358.out | refine below_set ?_ GE359.out) | exact HB.out)) hb); clear HO_359003; clear HO_360003; clear HO365; clear HO368; clear HO371; clear HO374; clear BK358; clear BK359; clear HB; have HO_359003 := n0_; have HO_360003 := n1_; have HO365 := n2_; have HO368 := n3_; have HO371 := n4_; have HO374 := n5_; have BK358 := n6_; have BK359 := n7_; have HB := n8_; clear n0_ n1_ n2_ n3_ n4_ n5_ n6_ n7_ n8_; (try clear hb); (try clear hb2); (try clear hk); (try clear hi); obtain ⟨Ao46, co46, eo46⟩ := Kd.N_slice HO368.out; subst eo46; (try clear hx376_0); (repeat (first | clear HS0_ | clear HS1_ | clear HS2_ | clear HS3_ | clear HS4_ | clear HS5_ | clear HS6_ | clear HS7_ | clear HS8_ | clear HS9_ | clear HS10_ | clear HS11_ | clear HS12_ | clear HS13_ | clear HS14_ | clear HS15_ | clear HS16_ | clear HS17_ | clear HS18_ | clear HS19_ | clear HS20_ | clear HS21_ | clear HS22_ | clear HS23_)); (try clear hHeld); have p376 : 0 ≤ (0 : Int) := (by omega); have q376 : 0 < (t366.length : Int) := of_decide_eq_true (by first | (with_reducible assumption) | assumption); obtain ⟨ad376, A376_0, c376_0, e376, hx376_0, hl376_0, hi376_0⟩ := at_L3 (Kd.N_reads' HO368.out).2.2 0 p376 q376; cases e376; obtain ⟨ce376, hce376, hMe376, hcc376⟩ := Kd.N_get HO368.out [] 0 p376 (by first | exact q376 | exact of_decide_eq_true (by first | (with_reducible assumption) | assumption) | (have e_ := (Kd.N_reads' HO368.out).1; omega)); obtain ⟨ua376_0, uc376_0, rfl, ul376_0, ge376_0⟩ := Kd.FK_slice_open hMe376; have hv376_0 := hcc376 0 _ rfl; rw [Nat.add_zero, show ((Kd.slice 3 (Kd.int .i64))).sz = 1 from rfl, Nat.mul_one] at hv376_0; replace hv376_0 := Option.some.inj (hv376_0.symm.trans hx376_0); injection hv376_0 with hva_ hvn_ hvc_; rw [hva_] at ge376_0; rw [hvc_] at ul376_0; have HL376_0 := Aside0.mk (show Kd.V (Kd.int .i64) 3 _ w.heap.size _ _ (rd_L3 t366 0) from Kd.V_mk ul376_0 ge376_0); clear hva_ hvn_ hvc_ ge376_0 ul376_0; clear hcc376 hce376; have qi376 : (0 < t366.length) = True := eq_true (by omega); (try rw [show ((0 : Int)).toNat = 0 from rfl] at hx376_0); (try rw [Addr.add_zero'] at hx376_0); have HR376_0 := Aside0.mk hi376_0; have HC376_0 := Aside0.mk hl376_0; clear hi376_0 hl376_0; replace p376 := eq_true p376; replace q376 := eq_true q376; obtain ⟨Ao47, co47, eo47⟩ := Kd.N_slice HO371.out; subst eo47))
         go_meet
         case rel => exact ⟨_, (true), (by first | rfl | (simp; done) | (simp [*]; done)), H', ⟨by have := HJ2.out; first | omega | exact Nat.le_refl _⟩, ⟨by (with_reducible repeat (first | apply Kd.N_alloc | apply Kd.N_drewN | apply Kd.N_drew)); exact Kd.N_mono HO368.out (fun _ hk => ⟨hk.1.1.1, ⟨hk.1.2, ⟨hk.2, ⟨hk.1.1.2.2.1, hk.1.1.2.2.2⟩⟩⟩⟩)⟩, ⟨by (with_reducible repeat (first | apply Kd.N_alloc | apply Kd.N_drewN | apply Kd.N_drew)); exact Kd.N_mono HO371.out (fun _ hk => ⟨hk.1.1, ⟨hk.1.2.2.1, ⟨hk.2, ⟨hk.1.2.2.2.1, hk.1.2.2.2.2⟩⟩⟩⟩)⟩, ⟨by (with_reducible repeat (first | apply Kd.N_alloc | apply Kd.N_drewN | apply Kd.N_drew)); exact Kd.N_mono HO374.out (fun _ hk => ⟨hk.1, ⟨hk.2.2.1, ⟨hk.2.2.2.1, ⟨hk.2.2.2.2.1, hk.2.2.2.2.2⟩⟩⟩⟩)⟩, ⟨by (with_reducible repeat (first | apply Kd.V_alloc | apply Kd.V_drewN | apply Kd.V_drew)); exact Kd.V_mono HO_359003.out (fun _ hk => ⟨hk.1.1.1.1.1, ⟨hk.1.1.2, ⟨hk.1.2, ⟨hk.2, ⟨hk.1.1.1.1.2.1, hk.1.1.1.1.2.2⟩⟩⟩⟩⟩)⟩, ⟨by (with_reducible repeat (first | apply Kd.V_alloc | apply Kd.V_drewN | apply Kd.V_drew)); exact Kd.V_mono HO_360003.out (fun _ hk => ⟨hk.1.1.1.1.1, ⟨hk.1.1.2, ⟨hk.1.2, ⟨hk.2, ⟨hk.1.1.1.1.2.1, hk.1.1.1.1.2.2⟩⟩⟩⟩⟩)⟩, ⟨by (with_reducible repeat (first | refine blk_drewN ?_ _ | refine blk_drew ?_ | refine blk_alloc ?_ _)); exact BK358.out⟩, ⟨by (with_reducible repeat (first | refine blk_drewN ?_ _ | refine blk_drew ?_ | refine blk_alloc ?_ _)); exact BK359.out⟩, ⟨by repeat (first | (with_reducible first | exact HB.out | apply below_alloc | apply pw_below_drewN | apply below_drew1 | refine below_set ?_ GE358.out | refine below_set ?_ GE359.out) | exact HB.out)⟩⟩
       ·rw [if_neg c38] at H
        exact absurd H (by simp)
      ·rw [if_neg c37] at H
       have c37b0 : ((t366.length : Int) == 2) = false := beq_eq_false_iff_ne.mpr c37
       have c37b1 : ((t366.length : Int) != 2) = true := bne_iff_ne.mpr c37
       (first | rw [c37b0] | (simp only [i64_w, i32_w]; rw [c37b0]) | skip)
       have H' := Aside0.mk H
       clear H
       go_wp2_with (first | ((with_reducible refine gate_callee (f := 9) rfl ?_); refine goesL_ (some 27) rfl rfl Tryd.func9 (by kernel_rfl) rfl #[] rfl (by (try simp only [List.map_toArray, List.map_cons, List.map_nil]); first | done | rfl | (simp only [List.length_drop, List.length_take]; rfl)) ?_; (with_reducible refine (scarflaw10_known.callsA kj2  true _ (tab_below HTAB.out (by repeat (first | (with_reducible first | exact HB.out | apply below_alloc | apply pw_below_drewN | apply below_drew1 | refine below_set ?_ GE358.out | refine below_set ?_ GE359.out) | exact HB.out))) A35.out).mono ?_); rintro e w48 ⟨rfl, hb⟩; refine ⟨_, rfl, ?_⟩; have n0_ := Aside0.mk (Kd.V_below (by (with_reducible repeat (first | apply Kd.V_alloc | apply Kd.V_drewN | apply Kd.V_drew)); exact HO_359003.out) hb); have n1_ := Aside0.mk (Kd.V_below (by (with_reducible repeat (first | apply Kd.V_alloc | apply Kd.V_drewN | apply Kd.V_drew)); exact HO_360003.out) hb); have n2_ := Aside0.mk (Kd.N_below (by (with_reducible repeat (first | apply Kd.N_alloc | apply Kd.N_drewN | apply Kd.N_drew)); exact HO365.out) hb); have n3_ := Aside0.mk (Kd.N_below (by (with_reducible repeat (first | apply Kd.N_alloc | apply Kd.N_drewN | apply Kd.N_drew)); exact HO368.out) hb); have n4_ := Aside0.mk (Kd.N_below (by (with_reducible repeat (first | apply Kd.N_alloc | apply Kd.N_drewN | apply Kd.N_drew)); exact HO371.out) hb); have n5_ := Aside0.mk (Kd.N_below (by (with_reducible repeat (first | apply Kd.N_alloc | apply Kd.N_drewN | apply Kd.N_drew)); exact HO374.out) hb); have n6_ := Aside0.mk (blk_below (g := gb358) (o := .cells #[.int .i64 a0_0, .string a0_1, .string a0_2, .slice A0_3 l0_3.length c0_3] 24 (0, 0)) (by (with_reducible repeat (first | refine blk_drewN ?_ _ | refine blk_drew ?_ | refine blk_alloc ?_ _)); exact BK358.out) hb); have n7_ := Aside0.mk (blk_below (g := gb359) (o := .cells #[.int .i64 a1_0, .string a1_1, .string a1_2, .slice A1_3 l1_3.length c1_3] 24 (0, 0)) (by (with_reducible repeat (first | refine blk_drewN ?_ _ | refine blk_drew ?_ | refine blk_alloc ?_ _)); exact BK359.out) hb); have n8_ := Aside0.mk (below_step (by repeat (first | (with_reducible first | exact HB.out | apply below_alloc | apply pw_below_drewN | apply below_drew1 | refine below_set ?_ GE358.out | refine below_set ?_ GE359.out) | exact HB.out)) hb); clear HO_359003; clear HO_360003; clear HO365; clear HO368; clear HO371; clear HO374; clear BK358; clear BK359; clear HB; have HO_359003 := n0_; have HO_360003 := n1_; have HO365 := n2_; have HO368 := n3_; have HO371 := n4_; have HO374 := n5_; have BK358 := n6_; have BK359 := n7_; have HB := n8_; clear n0_ n1_ n2_ n3_ n4_ n5_ n6_ n7_ n8_; (try clear hb); (try clear hb2); (try clear hk); (try clear hi); obtain ⟨Ao49, co49, eo49⟩ := Kd.N_slice HO368.out; subst eo49))
       go_meet
       case rel => exact ⟨_, (true), (by first | rfl | (simp; done) | (simp [*]; done)), H', ⟨by have := HJ2.out; first | omega | exact Nat.le_refl _⟩, ⟨by (with_reducible repeat (first | apply Kd.N_alloc | apply Kd.N_drewN | apply Kd.N_drew)); exact Kd.N_mono HO368.out (fun _ hk => ⟨hk.1.1.1, ⟨hk.1.2, ⟨hk.2, ⟨hk.1.1.2.2.1, hk.1.1.2.2.2⟩⟩⟩⟩)⟩, ⟨by (with_reducible repeat (first | apply Kd.N_alloc | apply Kd.N_drewN | apply Kd.N_drew)); exact Kd.N_mono HO371.out (fun _ hk => ⟨hk.1.1, ⟨hk.1.2.2.1, ⟨hk.2, ⟨hk.1.2.2.2.1, hk.1.2.2.2.2⟩⟩⟩⟩)⟩, ⟨by (with_reducible repeat (first | apply Kd.N_alloc | apply Kd.N_drewN | apply Kd.N_drew)); exact Kd.N_mono HO374.out (fun _ hk => ⟨hk.1, ⟨hk.2.2.1, ⟨hk.2.2.2.1, ⟨hk.2.2.2.2.1, hk.2.2.2.2.2⟩⟩⟩⟩)⟩, ⟨by (with_reducible repeat (first | apply Kd.V_alloc | apply Kd.V_drewN | apply Kd.V_drew)); exact Kd.V_mono HO_359003.out (fun _ hk => ⟨hk.1.1.1.1.1, ⟨hk.1.1.2, ⟨hk.1.2, ⟨hk.2, ⟨hk.1.1.1.1.2.1, hk.1.1.1.1.2.2⟩⟩⟩⟩⟩)⟩, ⟨by (with_reducible repeat (first | apply Kd.V_alloc | apply Kd.V_drewN | apply Kd.V_drew)); exact Kd.V_mono HO_360003.out (fun _ hk => ⟨hk.1.1.1.1.1, ⟨hk.1.1.2, ⟨hk.1.2, ⟨hk.2, ⟨hk.1.1.1.1.2.1, hk.1.1.1.1.2.2⟩⟩⟩⟩⟩)⟩, ⟨by (with_reducible repeat (first | refine blk_drewN ?_ _ | refine blk_drew ?_ | refine blk_alloc ?_ _)); exact BK358.out⟩, ⟨by (with_reducible repeat (first | refine blk_drewN ?_ _ | refine blk_drew ?_ | refine blk_alloc ?_ _)); exact BK359.out⟩, ⟨by repeat (first | (with_reducible first | exact HB.out | apply below_alloc | apply pw_below_drewN | apply below_drew1 | refine below_set ?_ GE358.out | refine below_set ?_ GE359.out) | exact HB.out)⟩⟩
     ·replace c36 := Bool.eq_false_iff.mpr c36
      subst c36
      exact absurd (scarflaw10_known.tells kj2 false A35.out) (by decide)
    case rest =>
     clear HC24
     try clear c1
     try clear c2
     try clear p2
     try clear c3
     try clear p3
     try clear q3
     try clear hx3
     try clear qi3
     try clear c4
     try clear c5
     try clear c7
     try clear c8
     try clear c9
     try clear c14
     try clear c15
     try clear c17
     try clear c19
     try clear c25
     try clear c36
     try clear c37
     try clear c37b0
     try clear c37b1
     try clear p37
     try clear q37
     try clear hx37
     try clear qi37
     try clear c38
     try clear c38b0
     try clear c38b1
     try clear c39
     try clear c39b0
     try clear c39b1
     try clear c39b2
     try clear c40
     try clear c40b0
     try clear c40b1
     try clear hcz10_0
     try clear hcz10_1
     try clear hcz10_2
     try clear hcz10_3
     try clear hcz12_0
     try clear hcz12_1
     try clear hcz12_2
     try clear hcz12_3
     try clear hcz15_0
     try clear hcz15_1
     try clear hcz15_2
     try clear hcz15_3
     try clear hcz26_0
     try clear hcz26_1
     try clear hcz26_2
     try clear hcz26_3
     try clear hcz27_0
     try clear hcz27_1
     try clear hcz27_2
     try clear hcz27_3
     try clear hfz10_0
     try clear hfz10_1
     try clear hfz10_2
     try clear hfz10_3
     try clear hfz12_0
     try clear hfz12_1
     try clear hfz12_2
     try clear hfz12_3
     try clear hfz15_0
     try clear hfz15_1
     try clear hfz15_2
     try clear hfz15_3
     try clear hfz26_0
     try clear hfz26_1
     try clear hfz26_2
     try clear hfz26_3
     try clear hfz27_0
     try clear hfz27_1
     try clear hfz27_2
     try clear hfz27_3
     try clear hx376_0
     try clear hx377_0
     try clear p2
     try clear p376
     try clear p377
     try clear q376
     try clear q377
     obtain ⟨kq, x51_23, rfl, HA, HJ23, HO_5, HO_6, HO_7, HO_359003, HO_360003, BK358, BK359, HB⟩ := hcut
     cases kq with
     | zero => exact absurd HA.out (by simp [scarflaw10_ShapeAlike.j1])
     | succ kj23 =>
      have H := HA.out
      clear HA
      simp only [scarflaw10_ShapeAlike.j1] at H
      by_cases c51 : x51_23 = true
      ·subst c51
       have H1 : (some false) = some true := by first | with_reducible rfl | (rw [if_pos rfl] at H; exact H)
       clear H
       have H := H1
       clear H1
       exact absurd H (by simp)
      ·replace c51 := Bool.eq_false_iff.mpr c51
       subst c51
       have H1 : (scarflaw10_ShapeAlike.l0 kj23 t366 t369 t372 0) = some true := by first | with_reducible rfl | (rw [if_neg (show ¬ (false = true) by decide)] at H; exact H)
       clear H
       have H := H1
       clear H1
       have H' := Aside0.mk H
       clear H
       go_wp2
       go_loopg [8] kj23 (fun kq v8 w' => ∃ (x8_3 : Int), v8 = .int .i64 x8_3 ∧ Aside0 (scarflaw10_ShapeAlike.l0 kq t366 t369 t372 x8_3 = some true) ∧ Aside0 (kq ≤ kj23) ∧ Aside0 (Kd.N (Kd.slice 3 (Kd.int .i64)) 27 w' w.heap.size (fun k_ => ((P0_3_ k_ ∨ P1_3_ k_) ∨ w.heap.size ≤ k_) ∧ some k_ ≠ (v370 : Value).ownBlock ∧ some k_ ≠ (v373 : Value).ownBlock ∧ k_ ≠ gb358 ∧ k_ ≠ gb359) v367 t366) ∧ Aside0 (Kd.N k24 24 w' w.heap.size (fun k_ => ((P0_3_ k_ ∨ P1_3_ k_) ∨ w.heap.size ≤ k_) ∧ some k_ ≠ (v367 : Value).ownBlock ∧ some k_ ≠ (v373 : Value).ownBlock ∧ k_ ≠ gb358 ∧ k_ ≠ gb359) v370 t369) ∧ Aside0 (Kd.N k24 24 w' w.heap.size (fun k_ => ((P0_3_ k_ ∨ P1_3_ k_) ∨ w.heap.size ≤ k_) ∧ some k_ ≠ (v367 : Value).ownBlock ∧ some k_ ≠ (v370 : Value).ownBlock ∧ k_ ≠ gb358 ∧ k_ ≠ gb359) v373 t372) ∧ Aside0 (Kd.V k24 24 w' w.heap.size (fun k_ => ((P0_3_ k_ ∨ P1_3_ k_) ∨ w.heap.size ≤ k_) ∧ some k_ ≠ (v367 : Value).ownBlock ∧ some k_ ≠ (v370 : Value).ownBlock ∧ some k_ ≠ (v373 : Value).ownBlock ∧ k_ ≠ gb358 ∧ k_ ≠ gb359) (.slice A0_3 l0_3.length c0_3) l0_3) ∧ Aside0 (Kd.V k24 24 w' w.heap.size (fun k_ => ((P0_3_ k_ ∨ P1_3_ k_) ∨ w.heap.size ≤ k_) ∧ some k_ ≠ (v367 : Value).ownBlock ∧ some k_ ≠ (v370 : Value).ownBlock ∧ some k_ ≠ (v373 : Value).ownBlock ∧ k_ ≠ gb358 ∧ k_ ≠ gb359) (.slice A1_3 l1_3.length c1_3) l1_3) ∧ Aside0 (w'.heap[gb358]? = some (.cells #[.int .i64 a0_0, .string a0_1, .string a0_2, (.slice A0_3 l0_3.length c0_3)] 24 (0, 0))) ∧ Aside0 (w'.heap[gb359]? = some (.cells #[.int .i64 a1_0, .string a1_1, .string a1_2, (.slice A1_3 l1_3.length c1_3)] 24 (0, 0))) ∧ Aside0 (Below w.heap.size w w'))
       case atStart => exact ⟨(0), (by first | rfl | (simp; done) | (simp [*]; done)), H', ⟨Nat.le_refl _⟩, ⟨by (with_reducible repeat (first | apply Kd.N_alloc | apply Kd.N_drewN | apply Kd.N_drew)); exact HO_5.out⟩, ⟨by (with_reducible repeat (first | apply Kd.N_alloc | apply Kd.N_drewN | apply Kd.N_drew)); exact HO_6.out⟩, ⟨by (with_reducible repeat (first | apply Kd.N_alloc | apply Kd.N_drewN | apply Kd.N_drew)); exact HO_7.out⟩, ⟨by (with_reducible repeat (first | apply Kd.V_alloc | apply Kd.V_drewN | apply Kd.V_drew)); exact HO_359003.out⟩, ⟨by (with_reducible repeat (first | apply Kd.V_alloc | apply Kd.V_drewN | apply Kd.V_drew)); exact HO_360003.out⟩, ⟨by (with_reducible repeat (first | refine blk_drewN ?_ _ | refine blk_drew ?_ | refine blk_alloc ?_ _)); exact BK358.out⟩, ⟨by (with_reducible repeat (first | refine blk_drewN ?_ _ | refine blk_drew ?_ | refine blk_alloc ?_ _)); exact BK359.out⟩, ⟨by repeat (first | (with_reducible first | exact HB.out | apply below_alloc | apply pw_below_drewN | apply below_drew1 | refine below_set ?_ GE358.out | refine below_set ?_ GE359.out) | exact HB.out)⟩⟩
       case round =>
        clear H'
        try clear c1
        try clear c2
        try clear p2
        try clear c3
        try clear p3
        try clear q3
        try clear hx3
        try clear qi3
        try clear c4
        try clear c5
        try clear c7
        try clear c8
        try clear c9
        try clear c14
        try clear c15
        try clear c17
        try clear c19
        try clear c25
        try clear c36
        try clear c37
        try clear c37b0
        try clear c37b1
        try clear p37
        try clear q37
        try clear hx37
        try clear qi37
        try clear c38
        try clear c38b0
        try clear c38b1
        try clear c39
        try clear c39b0
        try clear c39b1
        try clear c39b2
        try clear c40
        try clear c40b0
        try clear c40b1
        try clear c51
        try clear hcz10_0
        try clear hcz10_1
        try clear hcz10_2
        try clear hcz10_3
        try clear hcz12_0
        try clear hcz12_1
        try clear hcz12_2
        try clear hcz12_3
        try clear hcz15_0
        try clear hcz15_1
        try clear hcz15_2
        try clear hcz15_3
        try clear hcz26_0
        try clear hcz26_1
        try clear hcz26_2
        try clear hcz26_3
        try clear hcz27_0
        try clear hcz27_1
        try clear hcz27_2
        try clear hcz27_3
        try clear hfz10_0
        try clear hfz10_1
        try clear hfz10_2
        try clear hfz10_3
        try clear hfz12_0
        try clear hfz12_1
        try clear hfz12_2
        try clear hfz12_3
        try clear hfz15_0
        try clear hfz15_1
        try clear hfz15_2
        try clear hfz15_3
        try clear hfz26_0
        try clear hfz26_1
        try clear hfz26_2
        try clear hfz26_3
        try clear hfz27_0
        try clear hfz27_1
        try clear hfz27_2
        try clear hfz27_3
        try clear hx376_0
        try clear hx377_0
        try clear p2
        try clear p3
        try clear p37
        try clear p376
        try clear p377
        try clear q3
        try clear q37
        try clear q376
        try clear q377
        obtain ⟨x8_3, rfl, HA, HK3, HO_5, HO_6, HO_7, HO_359003, HO_360003, BK358, BK359, HB⟩ := hrel
        cases gk with
        | zero => exact absurd HA.out (by simp [scarflaw10_ShapeAlike.l0])
        | succ k3 =>
         have H := HA.out
         clear HA
         simp only [scarflaw10_ShapeAlike.l0] at H
         by_cases c52 : x8_3 < (t369.length : Int)
         ·rw [if_pos c52] at H
          have c52b0 : decide (x8_3 < (t369.length : Int)) = true := decide_eq_true c52
          clear c52
          have H' := Aside0.mk H
          clear H
          obtain ⟨Ao53, co53, eo53⟩ := Kd.N_slice HO_6.out
          subst eo53
          go_wp2
          go_loopg [9] k3 (fun kq v9 w' => ∃ (x9_4 : Int), v9 = .int .i64 x9_4 ∧ Aside0 (scarflaw10_ShapeAlike.l1 kq t366 t369 t372 x8_3 x9_4 = some true) ∧ Aside0 (kq ≤ k3) ∧ Aside0 (Kd.N (Kd.slice 3 (Kd.int .i64)) 27 w' w.heap.size (fun k_ => ((P0_3_ k_ ∨ P1_3_ k_) ∨ w.heap.size ≤ k_) ∧ some k_ ≠ ((.slice Ao53 t369.length co53) : Value).ownBlock ∧ some k_ ≠ (v373 : Value).ownBlock ∧ k_ ≠ gb358 ∧ k_ ≠ gb359) v367 t366) ∧ Aside0 (Kd.N k24 24 w' w.heap.size (fun k_ => ((P0_3_ k_ ∨ P1_3_ k_) ∨ w.heap.size ≤ k_) ∧ some k_ ≠ (v367 : Value).ownBlock ∧ some k_ ≠ (v373 : Value).ownBlock ∧ k_ ≠ gb358 ∧ k_ ≠ gb359) (.slice Ao53 t369.length co53) t369) ∧ Aside0 (Kd.N k24 24 w' w.heap.size (fun k_ => ((P0_3_ k_ ∨ P1_3_ k_) ∨ w.heap.size ≤ k_) ∧ some k_ ≠ (v367 : Value).ownBlock ∧ some k_ ≠ ((.slice Ao53 t369.length co53) : Value).ownBlock ∧ k_ ≠ gb358 ∧ k_ ≠ gb359) v373 t372) ∧ Aside0 (Kd.V k24 24 w' w.heap.size (fun k_ => ((P0_3_ k_ ∨ P1_3_ k_) ∨ w.heap.size ≤ k_) ∧ some k_ ≠ (v367 : Value).ownBlock ∧ some k_ ≠ ((.slice Ao53 t369.length co53) : Value).ownBlock ∧ some k_ ≠ (v373 : Value).ownBlock ∧ k_ ≠ gb358 ∧ k_ ≠ gb359) (.slice A0_3 l0_3.length c0_3) l0_3) ∧ Aside0 (Kd.V k24 24 w' w.heap.size (fun k_ => ((P0_3_ k_ ∨ P1_3_ k_) ∨ w.heap.size ≤ k_) ∧ some k_ ≠ (v367 : Value).ownBlock ∧ some k_ ≠ ((.slice Ao53 t369.length co53) : Value).ownBlock ∧ some k_ ≠ (v373 : Value).ownBlock ∧ k_ ≠ gb358 ∧ k_ ≠ gb359) (.slice A1_3 l1_3.length c1_3) l1_3) ∧ Aside0 (w'.heap[gb358]? = some (.cells #[.int .i64 a0_0, .string a0_1, .string a0_2, (.slice A0_3 l0_3.length c0_3)] 24 (0, 0))) ∧ Aside0 (w'.heap[gb359]? = some (.cells #[.int .i64 a1_0, .string a1_1, .string a1_2, (.slice A1_3 l1_3.length c1_3)] 24 (0, 0))) ∧ Aside0 (Below w.heap.size w w'))
          case atStart => exact ⟨(0), (by first | rfl | (simp; done) | (simp [*]; done)), H', ⟨Nat.le_refl _⟩, ⟨by (with_reducible repeat (first | apply Kd.N_alloc | apply Kd.N_drewN | apply Kd.N_drew)); exact HO_5.out⟩, ⟨by (with_reducible repeat (first | apply Kd.N_alloc | apply Kd.N_drewN | apply Kd.N_drew)); exact HO_6.out⟩, ⟨by (with_reducible repeat (first | apply Kd.N_alloc | apply Kd.N_drewN | apply Kd.N_drew)); exact HO_7.out⟩, ⟨by (with_reducible repeat (first | apply Kd.V_alloc | apply Kd.V_drewN | apply Kd.V_drew)); exact HO_359003.out⟩, ⟨by (with_reducible repeat (first | apply Kd.V_alloc | apply Kd.V_drewN | apply Kd.V_drew)); exact HO_360003.out⟩, ⟨by (with_reducible repeat (first | refine blk_drewN ?_ _ | refine blk_drew ?_ | refine blk_alloc ?_ _)); exact BK358.out⟩, ⟨by (with_reducible repeat (first | refine blk_drewN ?_ _ | refine blk_drew ?_ | refine blk_alloc ?_ _)); exact BK359.out⟩, ⟨by repeat (first | (with_reducible first | exact HB.out | apply below_alloc | apply pw_below_drewN | apply below_drew1 | refine below_set ?_ GE358.out | refine below_set ?_ GE359.out) | exact HB.out)⟩⟩
          case round =>
           clear H'
           try clear c1
           try clear c2
           try clear p2
           try clear c3
           try clear p3
           try clear q3
           try clear hx3
           try clear qi3
           try clear c4
           try clear c5
           try clear c7
           try clear c8
           try clear c9
           try clear c14
           try clear c15
           try clear c17
           try clear c19
           try clear c25
           try clear c36
           try clear c37
           try clear c37b0
           try clear c37b1
           try clear p37
           try clear q37
           try clear hx37
           try clear qi37
           try clear c38
           try clear c38b0
           try clear c38b1
           try clear c39
           try clear c39b0
           try clear c39b1
           try clear c39b2
           try clear c40
           try clear c40b0
           try clear c40b1
           try clear c51
           try clear c52
           try clear c52b0
           try clear hcz10_0
           try clear hcz10_1
           try clear hcz10_2
           try clear hcz10_3
           try clear hcz12_0
           try clear hcz12_1
           try clear hcz12_2
           try clear hcz12_3
           try clear hcz15_0
           try clear hcz15_1
           try clear hcz15_2
           try clear hcz15_3
           try clear hcz26_0
           try clear hcz26_1
           try clear hcz26_2
           try clear hcz26_3
           try clear hcz27_0
           try clear hcz27_1
           try clear hcz27_2
           try clear hcz27_3
           try clear hfz10_0
           try clear hfz10_1
           try clear hfz10_2
           try clear hfz10_3
           try clear hfz12_0
           try clear hfz12_1
           try clear hfz12_2
           try clear hfz12_3
           try clear hfz15_0
           try clear hfz15_1
           try clear hfz15_2
           try clear hfz15_3
           try clear hfz26_0
           try clear hfz26_1
           try clear hfz26_2
           try clear hfz26_3
           try clear hfz27_0
           try clear hfz27_1
           try clear hfz27_2
           try clear hfz27_3
           try clear hx376_0
           try clear hx377_0
           try clear p2
           try clear p3
           try clear p37
           try clear p376
           try clear p377
           try clear q3
           try clear q37
           try clear q376
           try clear q377
           obtain ⟨x9_4, rfl, HA, HK4, HO_5, HO_6, HO_7, HO_359003, HO_360003, BK358, BK359, HB⟩ := hrel
           cases gk with
           | zero => exact absurd HA.out (by simp [scarflaw10_ShapeAlike.l1])
           | succ k4 =>
            have H := HA.out
            clear HA
            simp only [scarflaw10_ShapeAlike.l1] at H
            by_cases c54 : x9_4 < (t372.length : Int)
            ·rw [if_pos c54] at H
             have c54b0 : decide (x9_4 < (t372.length : Int)) = true := decide_eq_true c54
             clear c54
             by_cases c55 : 0 < (t366.length : Int)
             ·rw [if_pos c55] at H
              have c55b0 : decide (0 < (t366.length : Int)) = true := decide_eq_true c55
              have c55b1 : decide (0 < t366.length) = true := decide_eq_true (by omega)
              clear c55
              by_cases c56 : 0 ≤ x8_3
              ·rw [if_pos c56] at H
               have c56b0 : decide (0 ≤ x8_3) = true := decide_eq_true c56
               clear c56
               by_cases c57 : x8_3 < ((rd_L3 t366 0).length : Int)
               ·rw [if_pos c57] at H
                have c57b0 : decide (x8_3 < ((rd_L3 t366 0).length : Int)) = true := decide_eq_true c57
                clear c57
                by_cases c58 : 1 < (t366.length : Int)
                ·rw [if_pos c58] at H
                 have c58b0 : decide (1 < (t366.length : Int)) = true := decide_eq_true c58
                 have c58b1 : decide (1 < t366.length) = true := decide_eq_true (by omega)
                 clear c58
                 by_cases c59 : 0 ≤ x9_4
                 ·rw [if_pos c59] at H
                  have c59b0 : decide (0 ≤ x9_4) = true := decide_eq_true c59
                  clear c59
                  by_cases c60 : x9_4 < ((rd_L3 t366 1).length : Int)
                  ·rw [if_pos c60] at H
                   have c60b0 : decide (x9_4 < ((rd_L3 t366 1).length : Int)) = true := decide_eq_true c60
                   clear c60
                   by_cases c61 : x8_3 < (t369.length : Int)
                   ·rw [if_pos c61] at H
                    have c61b0 : decide (x8_3 < (t369.length : Int)) = true := decide_eq_true c61
                    clear c61
                    replace H := Option.bind_eq_some_iff.mp H
                    obtain ⟨t384, A620, H⟩ := H
                    replace H : (if (((rd (rd_L3 t366 0) x8_3) == (rd (rd_L3 t366 1) x9_4)) != t384) = true then (some false) else (scarflaw10_ShapeAlike.l1 k4 t366 t369 t372 x8_3 (wrap64 (x9_4 + 1)))) = some true := H
                    have A62 := Aside0.mk A620
                    clear A620
                    by_cases c63 : (((rd (rd_L3 t366 0) x8_3) == (rd (rd_L3 t366 1) x9_4)) != t384) = true
                    ·rw [if_pos c63] at H
                     have c63b0 : (((rd (rd_L3 t366 0) x8_3) == (rd (rd_L3 t366 1) x9_4)) != t384) = true := c63
                     (try (have c63b1 : decide (((rd (rd_L3 t366 0) x8_3) == (rd (rd_L3 t366 1) x9_4)) = t384) = false := by simpa using c63))
                     (try (have c63b2 : (((rd (rd_L3 t366 0) x8_3) == (rd (rd_L3 t366 1) x9_4)) == t384) = false := by simpa using c63))
                     (try (have c63b3 : ¬ (((rd (rd_L3 t366 0) x8_3) == (rd (rd_L3 t366 1) x9_4)) = t384) := by simpa using c63))
                     clear c63
                     exact absurd H (by simp)
                    ·rw [if_neg c63] at H
                     have c63b0 : (((rd (rd_L3 t366 0) x8_3) == (rd (rd_L3 t366 1) x9_4)) != t384) = false := by simpa using c63
                     (try (have c63b1 : decide (((rd (rd_L3 t366 0) x8_3) == (rd (rd_L3 t366 1) x9_4)) = t384) = true := by simpa using c63))
                     (try (have c63b2 : (((rd (rd_L3 t366 0) x8_3) == (rd (rd_L3 t366 1) x9_4)) == t384) = true := by simpa using c63))
                     clear c63
                     have H' := Aside0.mk H
                     clear H
                     obtain ⟨Ao64, co64, eo64⟩ := Kd.N_slice HO_7.out
                     subst eo64
                     try go_wp2
                     have n0_ := Aside0.mk (Kd.N_drew HO_5.out)
                     have n1_ := Aside0.mk (Kd.N_drew HO_6.out)
                     have n2_ := Aside0.mk (Kd.N_drew HO_7.out)
                     have n3_ := Aside0.mk (Kd.V_drew HO_359003.out)
                     have n4_ := Aside0.mk (Kd.V_drew HO_360003.out)
                     have n5_ := Aside0.mk (blk_drew BK358.out)
                     have n6_ := Aside0.mk (blk_drew BK359.out)
                     have n7_ := Aside0.mk (below_drew1 HB.out)
                     clear HO_5
                     clear HO_6
                     clear HO_7
                     clear HO_359003
                     clear HO_360003
                     clear BK358
                     clear BK359
                     clear HB
                     have HO_5 := n0_
                     have HO_6 := n1_
                     have HO_7 := n2_
                     have HO_359003 := n3_
                     have HO_360003 := n4_
                     have BK358 := n5_
                     have BK359 := n6_
                     have HB := n7_
                     clear n0_ n1_ n2_ n3_ n4_ n5_ n6_ n7_
                     obtain ⟨Ao66, co66, eo66⟩ := Kd.N_slice HO_5.out
                     (first | subst eo66 | (injection eo66 with f1_ f2_ f3_; have f4_ := f1_.symm; have f5_ := f3_.symm; clear f1_ f2_ f3_; subst f4_; subst f5_))
                     have p378 : 0 ≤ (0 : Int) := (by omega)
                     have q378 : 0 < (t366.length : Int) := of_decide_eq_true (by first | (with_reducible assumption) | assumption)
                     obtain ⟨ad378, A378_0, c378_0, e378, hx378_0, hl378_0, hi378_0⟩ := at_L3 (Kd.N_reads' HO_5.out).2.2 0 p378 q378
                     cases e378
                     obtain ⟨ce378, hce378, hMe378, hcc378⟩ := Kd.N_get HO_5.out [] 0 p378 (by first | exact q378 | exact of_decide_eq_true (by first | (with_reducible assumption) | assumption) | (have e_ := (Kd.N_reads' HO_5.out).1; omega))
                     obtain ⟨ua378_0, uc378_0, rfl, ul378_0, ge378_0⟩ := Kd.FK_slice_open hMe378
                     have hv378_0 := hcc378 0 _ rfl
                     rw [Nat.add_zero, show ((Kd.slice 3 (Kd.int .i64))).sz = 1 from rfl, Nat.mul_one] at hv378_0
                     replace hv378_0 := Option.some.inj (hv378_0.symm.trans hx378_0)
                     injection hv378_0 with hva_ hvn_ hvc_
                     rw [hva_] at ge378_0
                     rw [hvc_] at ul378_0
                     have HL378_0 := Aside0.mk (show Kd.V (Kd.int .i64) 3 _ w.heap.size _ _ (rd_L3 t366 0) from Kd.V_mk ul378_0 ge378_0)
                     clear hva_ hvn_ hvc_ ge378_0 ul378_0
                     clear hcc378 hce378
                     have qi378 : (0 < t366.length) = True := eq_true (by omega)
                     (try rw [show ((0 : Int)).toNat = 0 from rfl] at hx378_0)
                     (try rw [Addr.add_zero'] at hx378_0)
                     have HR378_0 := Aside0.mk hi378_0
                     have HC378_0 := Aside0.mk hl378_0
                     clear hi378_0 hl378_0
                     replace p378 := eq_true p378
                     replace q378 := eq_true q378
                     have p379 : 0 ≤ (x8_3 : Int) := of_decide_eq_true (by first | (with_reducible assumption) | assumption)
                     have q379 : x8_3 < ((rd_L3 t366 0).length : Int) := of_decide_eq_true (by first | (with_reducible assumption) | assumption)
                     obtain ⟨ad379, e379, hx379_0⟩ := Kd.at_int (by repeat (first | (with_reducible exact HR378_0.out) | (with_reducible refine Kd.C_alloc ?_ _) | (with_reducible refine Kd.C_drewN ?_ _) | (with_reducible refine Kd.C_drew ?_) | exact HR378_0.out)) x8_3 p379 q379
                     cases e379
                     replace p379 := eq_true p379
                     replace q379 := eq_true q379
                     have p380 : 0 ≤ (1 : Int) := (by omega)
                     have q380 : 1 < (t366.length : Int) := of_decide_eq_true (by first | (with_reducible assumption) | assumption)
                     obtain ⟨ad380, A380_0, c380_0, e380, hx380_0, hl380_0, hi380_0⟩ := at_L3 (Kd.N_reads' HO_5.out).2.2 1 p380 q380
                     obtain rfl : ad378 = ad380 := (by injection e380)
                     obtain ⟨ce380, hce380, hMe380, hcc380⟩ := Kd.N_get HO_5.out [] 1 p380 (by first | exact q380 | exact of_decide_eq_true (by first | (with_reducible assumption) | assumption) | (have e_ := (Kd.N_reads' HO_5.out).1; omega))
                     obtain ⟨ua380_0, uc380_0, rfl, ul380_0, ge380_0⟩ := Kd.FK_slice_open hMe380
                     have hv380_0 := hcc380 0 _ rfl
                     rw [Nat.add_zero, show ((Kd.slice 3 (Kd.int .i64))).sz = 1 from rfl, Nat.mul_one] at hv380_0
                     replace hv380_0 := Option.some.inj (hv380_0.symm.trans hx380_0)
                     injection hv380_0 with hva_ hvn_ hvc_
                     rw [hva_] at ge380_0
                     rw [hvc_] at ul380_0
                     have HL380_0 := Aside0.mk (show Kd.V (Kd.int .i64) 3 _ w.heap.size _ _ (rd_L3 t366 1) from Kd.V_mk ul380_0 ge380_0)
                     clear hva_ hvn_ hvc_ ge380_0 ul380_0
                     clear hcc380 hce380
                     (try simp only [show (1 : Int).toNat = 1 from rfl, Nat.reduceMul, Nat.reduceEqDiff, Go.Addr.add, ↓reduceIte] at hx380_0)
                     have qi380 : (1 < t366.length) = True := eq_true (by omega)
                     (try rw [show ((1 : Int)).toNat = 1 from rfl] at hx380_0)
                     have HR380_0 := Aside0.mk hi380_0
                     have HC380_0 := Aside0.mk hl380_0
                     clear hi380_0 hl380_0
                     replace p380 := eq_true p380
                     replace q380 := eq_true q380
                     have p381 : 0 ≤ (x9_4 : Int) := of_decide_eq_true (by first | (with_reducible assumption) | assumption)
                     have q381 : x9_4 < ((rd_L3 t366 1).length : Int) := of_decide_eq_true (by first | (with_reducible assumption) | assumption)
                     obtain ⟨ad381, e381, hx381_0⟩ := Kd.at_int (by repeat (first | (with_reducible exact HR380_0.out) | (with_reducible refine Kd.C_alloc ?_ _) | (with_reducible refine Kd.C_drewN ?_ _) | (with_reducible refine Kd.C_drew ?_) | exact HR380_0.out)) x9_4 p381 q381
                     cases e381
                     replace p381 := eq_true p381
                     replace q381 := eq_true q381
                     have p382 : 0 ≤ (x8_3 : Int) := of_decide_eq_true (by first | (with_reducible assumption) | assumption)
                     have q382 : x8_3 < (t369.length : Int) := of_decide_eq_true (by first | (with_reducible assumption) | assumption)
                     obtain ⟨ad382, A382_3, c382_3, e382, hx382_0, hx382_1, hx382_2, hx382_3, hl382_3, hi382_3⟩ := at_T24 (Kd.N_reads' HO_6.out).2.2 x8_3 p382 q382
                     cases e382
                     obtain ⟨ce382, hce382, hMe382, hcc382⟩ := Kd.N_get HO_6.out z24 x8_3 p382 (by first | exact q382 | exact of_decide_eq_true (by first | (with_reducible assumption) | assumption) | (have e_ := (Kd.N_reads' HO_6.out).1; omega))
                     obtain ⟨ua382_3, uc382_3, rfl, ul382_3, ge382_3⟩ := k24_openF hMe382
                     have hv382_3 := hcc382 3 _ rfl
                     rw [add_field _ _ 3 (by omega)] at hv382_3
                     replace hv382_3 := Option.some.inj (hv382_3.symm.trans hx382_3)
                     injection hv382_3 with hva_ hvn_ hvc_
                     rw [hva_] at ge382_3
                     rw [hvc_] at ul382_3
                     have HL382_3 := Aside0.mk (show Kd.V k24 24 _ w.heap.size _ _ ((rd_T24 t369 x8_3).f3) from Kd.V_mk ul382_3 ge382_3)
                     clear hva_ hvn_ hvc_ ge382_3 ul382_3
                     clear hcc382 hce382
                     have HR382_3 := Aside0.mk hi382_3
                     have HC382_3 := Aside0.mk hl382_3
                     clear hi382_3 hl382_3
                     replace p382 := eq_true p382
                     replace q382 := eq_true q382
                     have p383 : 0 ≤ (x9_4 : Int) := of_decide_eq_true (by first | (with_reducible assumption) | assumption)
                     have q383 : x9_4 < (t372.length : Int) := of_decide_eq_true (by first | (with_reducible assumption) | assumption)
                     obtain ⟨ad383, A383_3, c383_3, e383, hx383_0, hx383_1, hx383_2, hx383_3, hl383_3, hi383_3⟩ := at_T24 (Kd.N_reads' HO_7.out).2.2 x9_4 p383 q383
                     cases e383
                     obtain ⟨ce383, hce383, hMe383, hcc383⟩ := Kd.N_get HO_7.out z24 x9_4 p383 (by first | exact q383 | exact of_decide_eq_true (by first | (with_reducible assumption) | assumption) | (have e_ := (Kd.N_reads' HO_7.out).1; omega))
                     obtain ⟨ua383_3, uc383_3, rfl, ul383_3, ge383_3⟩ := k24_openF hMe383
                     have hv383_3 := hcc383 3 _ rfl
                     rw [add_field _ _ 3 (by omega)] at hv383_3
                     replace hv383_3 := Option.some.inj (hv383_3.symm.trans hx383_3)
                     injection hv383_3 with hva_ hvn_ hvc_
                     rw [hva_] at ge383_3
                     rw [hvc_] at ul383_3
                     have HL383_3 := Aside0.mk (show Kd.V k24 24 _ w.heap.size _ _ ((rd_T24 t372 x9_4).f3) from Kd.V_mk ul383_3 ge383_3)
                     clear hva_ hvn_ hvc_ ge383_3 ul383_3
                     clear hcc383 hce383
                     have HR383_3 := Aside0.mk hi383_3
                     have HC383_3 := Aside0.mk hl383_3
                     clear hi383_3 hl383_3
                     replace p383 := eq_true p383
                     replace q383 := eq_true q383
                     refine start_ (n := 23) (S := fun w' => w'.cell? ad378 = some (.slice (some ad379) (rd_L3 t366 0).length c378_0) ∧ w'.cell? (ad379.add (x8_3).toNat) = some (.int .i64 (rd (rd_L3 t366 0) x8_3)) ∧ w'.cell? ⟨ad378.block, ad378.off + 1, none⟩ = some (.slice (some ad381) (rd_L3 t366 1).length c380_0) ∧ w'.cell? (ad381.add (x9_4).toNat) = some (.int .i64 (rd (rd_L3 t366 1) x9_4)) ∧ w'.cell? (ad382.add ((x8_3).toNat * 4)) = some (.int .i64 ((rd_T24 t369 x8_3).f0)) ∧ w'.cell? ⟨(ad382.add ((x8_3).toNat * 4)).block, (ad382.add ((x8_3).toNat * 4)).off + 1, none⟩ = some (.string ((rd_T24 t369 x8_3).f1)) ∧ w'.cell? ⟨(ad382.add ((x8_3).toNat * 4)).block, (ad382.add ((x8_3).toNat * 4)).off + 2, none⟩ = some (.string ((rd_T24 t369 x8_3).f2)) ∧ w'.cell? ⟨(ad382.add ((x8_3).toNat * 4)).block, (ad382.add ((x8_3).toNat * 4)).off + 3, none⟩ = some (.slice A382_3 ((rd_T24 t369 x8_3).f3).length c382_3) ∧ w'.cell? (ad383.add ((x9_4).toNat * 4)) = some (.int .i64 ((rd_T24 t372 x9_4).f0)) ∧ w'.cell? ⟨(ad383.add ((x9_4).toNat * 4)).block, (ad383.add ((x9_4).toNat * 4)).off + 1, none⟩ = some (.string ((rd_T24 t372 x9_4).f1)) ∧ w'.cell? ⟨(ad383.add ((x9_4).toNat * 4)).block, (ad383.add ((x9_4).toNat * 4)).off + 2, none⟩ = some (.string ((rd_T24 t372 x9_4).f2)) ∧ w'.cell? ⟨(ad383.add ((x9_4).toNat * 4)).block, (ad383.add ((x9_4).toNat * 4)).off + 3, none⟩ = some (.slice A383_3 ((rd_T24 t372 x9_4).f3).length c383_3)) (ds := []) #[false, false, false, false, false, false, false, false, false, false, false, false, false, false, false, false, false, false, false, false, false, false, false] (by kernel_rfl) rfl rfl ⟨hx378_0, hx379_0, hx380_0, hx381_0, hx382_0, hx382_1, hx382_2, hx382_3, hx383_0, hx383_1, hx383_2, hx383_3⟩ (fun hHeld => ?_); refine with_tabW scarflaw10_ShapeAlike.tab13 scarflaw10_ShapeAlike.bits13 (fun HT_ HW_ => ?_)
                     generalize wr.drew = w65 at HO_5 HO_6 HO_7 HO_359003 HO_360003 BK358 BK359 HB HL378_0 HL380_0 HL382_3 HL383_3 HR378_0 HR380_0 HR382_3 HR383_3 hx378_0 hx379_0 hx380_0 hx381_0 hx382_0 hx382_1 hx382_2 hx382_3 hx383_0 hx383_1 hx383_2 hx383_3 hHeld ⊢
                     refine pure_ (i := 0) (N := some 64) (v := ?_) (a' := ?_) #[true, false, false, false, false, false, false, false, false, false, false, false, false, false, false, false, false, false, false, false, false, false, false] rfl rfl (any_of HT_.out (by kernel_rfl)) (fun _ _ _ h => h) (Or.inl ⟨by rfl, ?_⟩) ?_ ?_
                     rotate_left
                     ·intro w'
                      go_simp
                      with_reducible rfl
                     rotate_left
                     ·simp only [Act.put, List.setIfInBounds_toArray, List.set_cons_zero, List.set_cons_succ, i64_w, i32_w]
                      rfl
                     refine pure_ (i := 1) (N := some 65) (v := ?_) (a' := ?_) #[true, true, false, false, false, false, false, false, false, false, false, false, false, false, false, false, false, false, false, false, false, false, false] rfl rfl (any_of HT_.out (by kernel_rfl)) (fun _ _ _ h => h) (Or.inl ⟨by rfl, ?_⟩) ?_ ?_
                     rotate_left
                     ·intro w'
                      go_simp
                      with_reducible rfl
                     rotate_left
                     ·simp only [Act.put, List.setIfInBounds_toArray, List.set_cons_zero, List.set_cons_succ, i64_w, i32_w]
                      rfl
                     refine pure_ (i := 3) (N := some 67) (v := ?_) (a' := ?_) #[true, true, false, true, false, false, false, false, false, false, false, false, false, false, false, false, false, false, false, false, false, false, false] rfl rfl (any_of HT_.out (by kernel_rfl)) (fun _ _ _ h => h) (Or.inl ⟨by rfl, ?_⟩) ?_ ?_
                     rotate_left
                     ·intro w'
                      go_simp
                      with_reducible rfl
                     rotate_left
                     ·simp only [Act.put, List.setIfInBounds_toArray, List.set_cons_zero, List.set_cons_succ, i64_w, i32_w]
                      rfl
                     refine pure_ (i := 6) (N := some 70) (v := ?_) (a' := ?_) #[true, true, false, true, false, false, true, false, false, false, false, false, false, false, false, false, false, false, false, false, false, false, false] rfl rfl (any_of HT_.out (by kernel_rfl)) (fun _ _ _ h => h) (Or.inl ⟨by rfl, ?_⟩) ?_ ?_
                     rotate_left
                     ·intro w'
                      go_simp
                      with_reducible rfl
                     rotate_left
                     ·simp only [Act.put, List.setIfInBounds_toArray, List.set_cons_zero, List.set_cons_succ, i64_w, i32_w]
                      rfl
                     refine pure_ (i := 7) (N := some 71) (v := ?_) (a' := ?_) #[true, true, false, true, false, false, true, true, false, false, false, false, false, false, false, false, false, false, false, false, false, false, false] rfl rfl (any_of HT_.out (by kernel_rfl)) (fun _ _ _ h => h) (Or.inl ⟨by rfl, ?_⟩) ?_ ?_
                     rotate_left
                     ·intro w'
                      go_simp
                      with_reducible rfl
                     rotate_left
                     ·simp only [Act.put, List.setIfInBounds_toArray, List.set_cons_zero, List.set_cons_succ, i64_w, i32_w]
                      rfl
                     refine pure_ (i := 9) (N := some 73) (v := ?_) (a' := ?_) #[true, true, false, true, false, false, true, true, false, true, false, false, false, false, false, false, false, false, false, false, false, false, false] rfl rfl (any_of HT_.out (by kernel_rfl)) (fun _ _ _ h => h) (Or.inl ⟨by rfl, ?_⟩) ?_ ?_
                     rotate_left
                     ·intro w'
                      go_simp
                      with_reducible rfl
                     rotate_left
                     ·simp only [Act.put, List.setIfInBounds_toArray, List.set_cons_zero, List.set_cons_succ, i64_w, i32_w]
                      rfl
                     refine pure_ (i := 13) (N := some 77) (v := ?_) (a' := ?_) #[true, true, false, true, false, false, true, true, false, true, false, false, false, true, false, false, false, false, false, false, false, false, false] rfl rfl (any_of HT_.out (by kernel_rfl)) (fun _ _ _ h => h) (Or.inl ⟨by rfl, ?_⟩) ?_ ?_
                     rotate_left
                     ·intro w'
                      go_simp
                      with_reducible rfl
                     rotate_left
                     ·simp only [Act.put, List.setIfInBounds_toArray, List.set_cons_zero, List.set_cons_succ, i64_w, i32_w]
                      rfl
                     refine pure_ (i := 14) (N := some 78) (v := ?_) (a' := ?_) #[true, true, false, true, false, false, true, true, false, true, false, false, false, true, true, false, false, false, false, false, false, false, false] rfl rfl (any_of HT_.out (by kernel_rfl)) (fun _ _ _ h => h) (Or.inl ⟨by rfl, ?_⟩) ?_ ?_
                     rotate_left
                     ·intro w'
                      go_simp
                      with_reducible rfl
                     rotate_left
                     ·simp only [Act.put, List.setIfInBounds_toArray, List.set_cons_zero, List.set_cons_succ, i64_w, i32_w]
                      rfl
                     refine pure_ (i := 15) (N := some 79) (v := ?_) (a' := ?_) #[true, true, false, true, false, false, true, true, false, true, false, false, false, true, true, true, false, false, false, false, false, false, false] rfl rfl (any_of HT_.out (by kernel_rfl)) (fun _ _ _ h => h) (Or.inl ⟨by rfl, ?_⟩) ?_ ?_
                     rotate_left
                     ·intro w'
                      go_simp
                      with_reducible rfl
                     rotate_left
                     ·simp only [Act.put, List.setIfInBounds_toArray, List.set_cons_zero, List.set_cons_succ, i64_w, i32_w]
                      rfl
                     refine pure_ (i := 17) (N := some 81) (v := ?_) (a' := ?_) #[true, true, false, true, false, false, true, true, false, true, false, false, false, true, true, true, false, true, false, false, false, false, false] rfl rfl (any_of HT_.out (by kernel_rfl)) (fun _ _ _ h => h) (Or.inl ⟨by rfl, ?_⟩) ?_ ?_
                     rotate_left
                     ·intro w'
                      go_simp
                      with_reducible rfl
                     rotate_left
                     ·simp only [Act.put, List.setIfInBounds_toArray, List.set_cons_zero, List.set_cons_succ, i64_w, i32_w]
                      rfl
                     refine pure_ (i := 18) (N := some 82) (v := ?_) (a' := ?_) #[true, true, false, true, false, false, true, true, false, true, false, false, false, true, true, true, false, true, true, false, false, false, false] rfl rfl (any_of HT_.out (by kernel_rfl)) (fun _ _ _ h => h) (Or.inl ⟨by rfl, ?_⟩) ?_ ?_
                     rotate_left
                     ·intro w'
                      go_simp
                      with_reducible rfl
                     rotate_left
                     ·simp only [Act.put, List.setIfInBounds_toArray, List.set_cons_zero, List.set_cons_succ, i64_w, i32_w]
                      rfl
                     refine pure_ (i := 19) (N := some 83) (v := ?_) (a' := ?_) #[true, true, false, true, false, false, true, true, false, true, false, false, false, true, true, true, false, true, true, true, false, false, false] rfl rfl (any_of HT_.out (by kernel_rfl)) (fun _ _ _ h => h) (Or.inl ⟨by rfl, ?_⟩) ?_ ?_
                     rotate_left
                     ·intro w'
                      go_simp
                      with_reducible rfl
                     rotate_left
                     ·simp only [Act.put, List.setIfInBounds_toArray, List.set_cons_zero, List.set_cons_succ, i64_w, i32_w]
                      rfl
                     refine take_ (i := 2) (N := some 66) (v := ?_) (a' := ?_) #[true, true, true, true, false, false, true, true, false, true, false, false, false, true, true, true, false, true, true, true, false, false, false] rfl rfl (take_ofW HT_.out HW_.out (by kernel_rfl)) (fun _ _ _ h => h) (Or.inl ⟨by rfl, ?_⟩) hHeld ?_ ?_
                     rotate_left
                     ·rintro w' ⟨s0, s1, s2, s3, s4, s5, s6, s7, s8, s9, s10, s11⟩
                      go_simp
                      with_reducible rfl
                     rotate_left
                     ·simp only [Act.put, List.setIfInBounds_toArray, List.set_cons_zero, List.set_cons_succ, i64_w, i32_w]
                      rfl
                     refine pure_ (i := 4) (N := some 68) (v := ?_) (a' := ?_) #[true, true, true, true, true, false, true, true, false, true, false, false, false, true, true, true, false, true, true, true, false, false, false] rfl rfl (any_of HT_.out (by kernel_rfl)) (fun _ _ _ h => h) (Or.inl ⟨by rfl, ?_⟩) ?_ ?_
                     rotate_left
                     ·intro w'
                      go_simp
                      with_reducible rfl
                     rotate_left
                     ·simp only [Act.put, List.setIfInBounds_toArray, List.set_cons_zero, List.set_cons_succ, i64_w, i32_w]
                      rfl
                     refine take_ (i := 5) (N := some 69) (v := ?_) (a' := ?_) #[true, true, true, true, true, true, true, true, false, true, false, false, false, true, true, true, false, true, true, true, false, false, false] rfl rfl (take_ofW HT_.out HW_.out (by kernel_rfl)) (fun _ _ _ h => h) (Or.inl ⟨by rfl, ?_⟩) hHeld ?_ ?_
                     rotate_left
                     ·rintro w' ⟨s0, s1, s2, s3, s4, s5, s6, s7, s8, s9, s10, s11⟩
                      go_simp
                      with_reducible rfl
                     rotate_left
                     ·simp only [Act.put, List.setIfInBounds_toArray, List.set_cons_zero, List.set_cons_succ, i64_w, i32_w]
                      rfl
                     refine take_ (i := 8) (N := some 72) (v := ?_) (a' := ?_) #[true, true, true, true, true, true, true, true, true, true, false, false, false, true, true, true, false, true, true, true, false, false, false] rfl rfl (take_ofW HT_.out HW_.out (by kernel_rfl)) (fun _ _ _ h => h) (Or.inl ⟨by rfl, ?_⟩) hHeld ?_ ?_
                     rotate_left
                     ·rintro w' ⟨s0, s1, s2, s3, s4, s5, s6, s7, s8, s9, s10, s11⟩
                      go_simp
                      with_reducible rfl
                     rotate_left
                     ·simp only [Act.put, List.setIfInBounds_toArray, List.set_cons_zero, List.set_cons_succ, i64_w, i32_w]
                      rfl
                     refine pure_ (i := 10) (N := some 74) (v := ?_) (a' := ?_) #[true, true, true, true, true, true, true, true, true, true, true, false, false, true, true, true, false, true, true, true, false, false, false] rfl rfl (any_of HT_.out (by kernel_rfl)) (fun _ _ _ h => h) (Or.inl ⟨by rfl, ?_⟩) ?_ ?_
                     rotate_left
                     ·intro w'
                      go_simp
                      with_reducible rfl
                     rotate_left
                     ·simp only [Act.put, List.setIfInBounds_toArray, List.set_cons_zero, List.set_cons_succ, i64_w, i32_w]
                      rfl
                     refine take_ (i := 11) (N := some 75) (v := ?_) (a' := ?_) #[true, true, true, true, true, true, true, true, true, true, true, true, false, true, true, true, false, true, true, true, false, false, false] rfl rfl (take_ofW HT_.out HW_.out (by kernel_rfl)) (fun _ _ _ h => h) (Or.inl ⟨by rfl, ?_⟩) hHeld ?_ ?_
                     rotate_left
                     ·rintro w' ⟨s0, s1, s2, s3, s4, s5, s6, s7, s8, s9, s10, s11⟩
                      go_simp
                      with_reducible rfl
                     rotate_left
                     ·simp only [Act.put, List.setIfInBounds_toArray, List.set_cons_zero, List.set_cons_succ, i64_w, i32_w]
                      rfl
                     refine pure_ (i := 12) (N := some 76) (v := ?_) (a' := ?_) #[true, true, true, true, true, true, true, true, true, true, true, true, true, true, true, true, false, true, true, true, false, false, false] rfl rfl (any_of HT_.out (by kernel_rfl)) (fun _ _ _ h => h) (Or.inl ⟨by rfl, ?_⟩) ?_ ?_
                     rotate_left
                     ·intro w'
                      go_simp
                      with_reducible rfl
                     rotate_left
                     ·simp only [Act.put, List.setIfInBounds_toArray, List.set_cons_zero, List.set_cons_succ, i64_w, i32_w]
                      rfl
                     refine take_ (i := 16) (N := some 80) (v := ?_) (a' := ?_) #[true, true, true, true, true, true, true, true, true, true, true, true, true, true, true, true, true, true, true, true, false, false, false] rfl rfl (take_ofW HT_.out HW_.out (by kernel_rfl)) (fun _ _ _ h => h) (Or.inl ⟨by rfl, ?_⟩) hHeld ?_ ?_
                     rotate_left
                     ·rintro w' ⟨s0, s1, s2, s3, s4, s5, s6, s7, s8, s9, s10, s11⟩
                      go_simp
                      with_reducible rfl
                     rotate_left
                     ·simp only [Act.put, List.setIfInBounds_toArray, List.set_cons_zero, List.set_cons_succ, i64_w, i32_w]
                      rfl
                     refine take_ (i := 20) (N := some 84) (v := ?_) (a' := ?_) #[true, true, true, true, true, true, true, true, true, true, true, true, true, true, true, true, true, true, true, true, true, false, false] rfl rfl (take_ofW HT_.out HW_.out (by kernel_rfl)) (fun _ _ _ h => h) (Or.inl ⟨by rfl, ?_⟩) hHeld ?_ ?_
                     rotate_left
                     ·rintro w' ⟨s0, s1, s2, s3, s4, s5, s6, s7, s8, s9, s10, s11⟩
                      go_simp
                      with_reducible rfl
                     rotate_left
                     ·simp only [Act.put, List.setIfInBounds_toArray, List.set_cons_zero, List.set_cons_succ, i64_w, i32_w]
                      rfl
                     refine one_ (i := 21) (N := some 85) #[true, true, true, true, true, true, true, true, true, true, true, true, true, true, true, true, true, true, true, true, true, true, false] rfl rfl (one_of HT_.out (by kernel_rfl)) (by decide) (fun K hK => ?_)
                     refine goes_ Tryd.func13 (by kernel_rfl) rfl #[.agg #[.int .i64 ((rd_T24 t369 x8_3).f0), .string ((rd_T24 t369 x8_3).f1), .string ((rd_T24 t369 x8_3).f2), .slice A382_3 ((rd_T24 t369 x8_3).f3).length c382_3], .agg #[.int .i64 ((rd_T24 t372 x9_4).f0), .string ((rd_T24 t372 x9_4).f1), .string ((rd_T24 t372 x9_4).f2), .slice A383_3 ((rd_T24 t372 x9_4).f3).length c383_3]] (by rfl) rfl rfl (by (try simp only [List.map_toArray, List.map_cons, List.map_nil]); first | done | rfl | (simp only [List.length_drop, List.length_take]; rfl)) ?_
                     with_reducible refine (scarfref05_Same.calls k4 ((rd_T24 t369 x8_3).f0) ((rd_T24 t369 x8_3).f1) ((rd_T24 t369 x8_3).f2) _ _ ((rd_T24 t369 x8_3).f3) ((rd_T24 t372 x9_4).f0) ((rd_T24 t372 x9_4).f1) ((rd_T24 t372 x9_4).f2) _ _ ((rd_T24 t372 x9_4).f3) t384 _ ?side1 ?side2 ?side3 ?side4 A62.out).mono ?_
                     (case side1 => repeat (first | exact (by repeat (first | (with_reducible exact HR382_3.out) | (with_reducible refine Kd.C_alloc ?_ _) | (with_reducible refine Kd.C_drewN ?_ _) | (with_reducible refine Kd.C_drew ?_) | exact HR382_3.out)) | (with_reducible refine Kd.C_alloc ?_ _) | (with_reducible refine Kd.C_drewN ?_ _) | (with_reducible refine Kd.C_drew ?_)))
                     (case side2 => exact HC382_3.out)
                     (case side3 => repeat (first | exact (by repeat (first | (with_reducible exact HR383_3.out) | (with_reducible refine Kd.C_alloc ?_ _) | (with_reducible refine Kd.C_drewN ?_ _) | (with_reducible refine Kd.C_drew ?_) | exact HR383_3.out)) | (with_reducible refine Kd.C_alloc ?_ _) | (with_reducible refine Kd.C_drewN ?_ _) | (with_reducible refine Kd.C_drew ?_)))
                     (case side4 => exact HC383_3.out)
                     rintro e w67 ⟨rfl, hb⟩
                     have HS0_ := (hb.cell (World.block_lt_of_cell? _ _ (hHeld.1))).trans (hHeld.1)
                     have HS1_ := (hb.cell (World.block_lt_of_cell? _ _ (hHeld.2.1))).trans (hHeld.2.1)
                     have HS2_ := (hb.cell (World.block_lt_of_cell? _ _ (hHeld.2.2.1))).trans (hHeld.2.2.1)
                     have HS3_ := (hb.cell (World.block_lt_of_cell? _ _ (hHeld.2.2.2.1))).trans (hHeld.2.2.2.1)
                     have HS4_ := (hb.cell (World.block_lt_of_cell? _ _ (hHeld.2.2.2.2.1))).trans (hHeld.2.2.2.2.1)
                     have HS5_ := (hb.cell (World.block_lt_of_cell? _ _ (hHeld.2.2.2.2.2.1))).trans (hHeld.2.2.2.2.2.1)
                     have HS6_ := (hb.cell (World.block_lt_of_cell? _ _ (hHeld.2.2.2.2.2.2.1))).trans (hHeld.2.2.2.2.2.2.1)
                     have HS7_ := (hb.cell (World.block_lt_of_cell? _ _ (hHeld.2.2.2.2.2.2.2.1))).trans (hHeld.2.2.2.2.2.2.2.1)
                     have HS8_ := (hb.cell (World.block_lt_of_cell? _ _ (hHeld.2.2.2.2.2.2.2.2.1))).trans (hHeld.2.2.2.2.2.2.2.2.1)
                     have HS9_ := (hb.cell (World.block_lt_of_cell? _ _ (hHeld.2.2.2.2.2.2.2.2.2.1))).trans (hHeld.2.2.2.2.2.2.2.2.2.1)
                     have HS10_ := (hb.cell (World.block_lt_of_cell? _ _ (hHeld.2.2.2.2.2.2.2.2.2.2.1))).trans (hHeld.2.2.2.2.2.2.2.2.2.2.1)
                     have HS11_ := (hb.cell (World.block_lt_of_cell? _ _ (hHeld.2.2.2.2.2.2.2.2.2.2.2))).trans (hHeld.2.2.2.2.2.2.2.2.2.2.2)
                     refine ⟨_, rfl, ?_⟩
                     have n0_ := Aside0.mk (Kd.N_below (by (with_reducible repeat (first | apply Kd.N_alloc | apply Kd.N_drewN | apply Kd.N_drew)); exact HO_5.out) hb)
                     have n1_ := Aside0.mk (Kd.N_below (by (with_reducible repeat (first | apply Kd.N_alloc | apply Kd.N_drewN | apply Kd.N_drew)); exact HO_6.out) hb)
                     have n2_ := Aside0.mk (Kd.N_below (by (with_reducible repeat (first | apply Kd.N_alloc | apply Kd.N_drewN | apply Kd.N_drew)); exact HO_7.out) hb)
                     have n3_ := Aside0.mk (Kd.V_below (by (with_reducible repeat (first | apply Kd.V_alloc | apply Kd.V_drewN | apply Kd.V_drew)); exact HO_359003.out) hb)
                     have n4_ := Aside0.mk (Kd.V_below (by (with_reducible repeat (first | apply Kd.V_alloc | apply Kd.V_drewN | apply Kd.V_drew)); exact HO_360003.out) hb)
                     have n5_ := Aside0.mk (Kd.V_below (by (with_reducible repeat (first | apply Kd.V_alloc | apply Kd.V_drewN | apply Kd.V_drew)); exact HL378_0.out) hb)
                     have n6_ := Aside0.mk (Kd.V_below (by (with_reducible repeat (first | apply Kd.V_alloc | apply Kd.V_drewN | apply Kd.V_drew)); exact HL380_0.out) hb)
                     have n7_ := Aside0.mk (Kd.V_below (by (with_reducible repeat (first | apply Kd.V_alloc | apply Kd.V_drewN | apply Kd.V_drew)); exact HL382_3.out) hb)
                     have n8_ := Aside0.mk (Kd.V_below (by (with_reducible repeat (first | apply Kd.V_alloc | apply Kd.V_drewN | apply Kd.V_drew)); exact HL383_3.out) hb)
                     have n9_ := Aside0.mk (blk_below (g := gb358) (o := .cells #[.int .i64 a0_0, .string a0_1, .string a0_2, .slice A0_3 l0_3.length c0_3] 24 (0, 0)) (by (with_reducible repeat (first | refine blk_drewN ?_ _ | refine blk_drew ?_ | refine blk_alloc ?_ _)); exact BK358.out) hb)
                     have n10_ := Aside0.mk (blk_below (g := gb359) (o := .cells #[.int .i64 a1_0, .string a1_1, .string a1_2, .slice A1_3 l1_3.length c1_3] 24 (0, 0)) (by (with_reducible repeat (first | refine blk_drewN ?_ _ | refine blk_drew ?_ | refine blk_alloc ?_ _)); exact BK359.out) hb)
                     have n11_ := Aside0.mk (Kd.C_below (by repeat (first | (with_reducible exact HR378_0.out) | (with_reducible refine Kd.C_alloc ?_ _) | (with_reducible refine Kd.C_drewN ?_ _) | (with_reducible refine Kd.C_drew ?_) | exact HR378_0.out)) hb)
                     have n12_ := Aside0.mk (Kd.C_below (by repeat (first | (with_reducible exact HR380_0.out) | (with_reducible refine Kd.C_alloc ?_ _) | (with_reducible refine Kd.C_drewN ?_ _) | (with_reducible refine Kd.C_drew ?_) | exact HR380_0.out)) hb)
                     have n13_ := Aside0.mk (Kd.C_below (by repeat (first | (with_reducible exact HR382_3.out) | (with_reducible refine Kd.C_alloc ?_ _) | (with_reducible refine Kd.C_drewN ?_ _) | (with_reducible refine Kd.C_drew ?_) | exact HR382_3.out)) hb)
                     have n14_ := Aside0.mk (Kd.C_below (by repeat (first | (with_reducible exact HR383_3.out) | (with_reducible refine Kd.C_alloc ?_ _) | (with_reducible refine Kd.C_drewN ?_ _) | (with_reducible refine Kd.C_drew ?_) | exact HR383_3.out)) hb)
                     have n15_ := Aside0.mk (below_step (by repeat (first | (with_reducible first | exact HB.out | apply below_alloc | apply pw_below_drewN | apply below_drew1 | refine below_set ?_ GE358.out | refine below_set ?_ GE359.out) | exact HB.out)) hb)
                     clear HO_5
                     clear HO_6
                     clear HO_7
                     clear HO_359003
                     clear HO_360003
                     clear HL378_0
                     clear HL380_0
                     clear HL382_3
                     clear HL383_3
                     clear BK358
                     clear BK359
                     clear HR378_0
                     clear HR380_0
                     clear HR382_3
                     clear HR383_3
                     clear HB
                     have HO_5 := n0_
                     have HO_6 := n1_
                     have HO_7 := n2_
                     have HO_359003 := n3_
                     have HO_360003 := n4_
                     have HL378_0 := n5_
                     have HL380_0 := n6_
                     have HL382_3 := n7_
                     have HL383_3 := n8_
                     have BK358 := n9_
                     have BK359 := n10_
                     have HR378_0 := n11_
                     have HR380_0 := n12_
                     have HR382_3 := n13_
                     have HR383_3 := n14_
                     have HB := n15_
                     clear n0_ n1_ n2_ n3_ n4_ n5_ n6_ n7_ n8_ n9_ n10_ n11_ n12_ n13_ n14_ n15_
                     (try clear hb)
                     (try clear hb2)
                     (try clear hk)
                     (try clear hi)
                     refine hK.out _ _ ⟨HS0_, HS1_, HS2_, HS3_, HS4_, HS5_, HS6_, HS7_, HS8_, HS9_, HS10_, HS11_⟩ (fun hHeld => ?_)
                     clear hK K
                     refine norm_ (a' := ?_) ?_ ?_
                     rotate_left
                     ·show Act.put _ (some 85) _ = _
                      simp only [Act.put, List.setIfInBounds_toArray, List.set_cons_zero, List.set_cons_succ, i64_w, i32_w]
                      rfl
                     refine pure_ (i := 22) (N := some 86) (v := ?_) (a' := ?_) #[true, true, true, true, true, true, true, true, true, true, true, true, true, true, true, true, true, true, true, true, true, true, true] rfl rfl (any_of HT_.out (by kernel_rfl)) (fun _ _ _ h => h) (Or.inl ⟨by rfl, ?_⟩) ?_ ?_
                     rotate_left
                     ·intro w'
                      go_simp
                      with_reducible rfl
                     rotate_left
                     ·simp only [Act.put, List.setIfInBounds_toArray, List.set_cons_zero, List.set_cons_succ, i64_w, i32_w]
                      rfl
                     refine done_ (done_of HT_.out (by kernel_rfl)) ?_
                     try go_wp2
                     go_roundg k4
                     case measure => have := HJ2.out; have := HJ23.out; have := HK3.out; have := HK4.out; omega
                     case rel => exact ⟨(wrap64 (x9_4 + 1)), (by first | rfl | (simp; done) | (simp [*]; done)), H', ⟨by have := HJ2.out; have := HJ23.out; have := HK3.out; have := HK4.out; omega⟩, ⟨by (with_reducible repeat (first | apply Kd.N_alloc | apply Kd.N_drewN | apply Kd.N_drew)); exact HO_5.out⟩, ⟨by (with_reducible repeat (first | apply Kd.N_alloc | apply Kd.N_drewN | apply Kd.N_drew)); exact HO_6.out⟩, ⟨by (with_reducible repeat (first | apply Kd.N_alloc | apply Kd.N_drewN | apply Kd.N_drew)); exact HO_7.out⟩, ⟨by (with_reducible repeat (first | apply Kd.V_alloc | apply Kd.V_drewN | apply Kd.V_drew)); exact HO_359003.out⟩, ⟨by (with_reducible repeat (first | apply Kd.V_alloc | apply Kd.V_drewN | apply Kd.V_drew)); exact HO_360003.out⟩, ⟨by (with_reducible repeat (first | refine blk_drewN ?_ _ | refine blk_drew ?_ | refine blk_alloc ?_ _)); exact BK358.out⟩, ⟨by (with_reducible repeat (first | refine blk_drewN ?_ _ | refine blk_drew ?_ | refine blk_alloc ?_ _)); exact BK359.out⟩, ⟨by repeat (first | (with_reducible first | exact HB.out | apply below_alloc | apply pw_below_drewN | apply below_drew1 | refine below_set ?_ GE358.out | refine below_set ?_ GE359.out) | exact HB.out)⟩⟩
                   ·rw [if_neg c61] at H
                    exact absurd H (by simp)
                  ·rw [if_neg c60] at H
                   exact absurd H (by simp)
                 ·rw [if_neg c59] at H
                  exact absurd H (by simp)
                ·rw [if_neg c58] at H
                 exact absurd H (by simp)
               ·rw [if_neg c57] at H
                exact absurd H (by simp)
              ·rw [if_neg c56] at H
               exact absurd H (by simp)
             ·rw [if_neg c55] at H
              exact absurd H (by simp)
            ·rw [if_neg c54] at H
             have c54b0 : decide (x9_4 < (t372.length : Int)) = false := decide_eq_false c54
             clear c54
             have H' := Aside0.mk H
             clear H
             obtain ⟨Ao68, co68, eo68⟩ := Kd.N_slice HO_7.out
             subst eo68
             go_wp2
             go_roundg k4
             case measure => have := HJ2.out; have := HJ23.out; have := HK3.out; have := HK4.out; omega
             case rel => exact ⟨(wrap64 (x8_3 + 1)), (by first | rfl | (simp; done) | (simp [*]; done)), H', ⟨by have := HJ2.out; have := HJ23.out; have := HK3.out; have := HK4.out; omega⟩, ⟨by (with_reducible repeat (first | apply Kd.N_alloc | apply Kd.N_drewN | apply Kd.N_drew)); exact HO_5.out⟩, ⟨by (with_reducible repeat (first | apply Kd.N_alloc | apply Kd.N_drewN | apply Kd.N_drew)); exact HO_6.out⟩, ⟨by (with_reducible repeat (first | apply Kd.N_alloc | apply Kd.N_drewN | apply Kd.N_drew)); exact HO_7.out⟩, ⟨by (with_reducible repeat (first | apply Kd.V_alloc | apply Kd.V_drewN | apply Kd.V_drew)); exact HO_359003.out⟩, ⟨by (with_reducible repeat (first | apply Kd.V_alloc | apply Kd.V_drewN | apply Kd.V_drew)); exact HO_360003.out⟩, ⟨by (with_reducible repeat (first | refine blk_drewN ?_ _ | refine blk_drew ?_ | refine blk_alloc ?_ _)); exact BK358.out⟩, ⟨by (with_reducible repeat (first | refine blk_drewN ?_ _ | refine blk_drew ?_ | refine blk_alloc ?_ _)); exact BK359.out⟩, ⟨by repeat (first | (with_reducible first | exact HB.out | apply below_alloc | apply pw_below_drewN | apply below_drew1 | refine below_set ?_ GE358.out | refine below_set ?_ GE359.out) | exact HB.out)⟩⟩
         ·rw [if_neg c52] at H
          have c52b0 : decide (x8_3 < (t369.length : Int)) = false := decide_eq_false c52
          clear c52
          obtain ⟨Ao69, co69, eo69⟩ := Kd.N_slice HO_6.out
          subst eo69
          go_wp2
          go_ret
          exact ⟨by first | rfl | (simp [errW_none, errW_some] <;> rfl) | (simp [*, errW_none, errW_some] <;> rfl), by repeat (first | (with_reducible first | exact HB.out | apply below_alloc | apply pw_below_drewN | apply below_drew1 | refine below_set ?_ GE358.out | refine below_set ?_ GE359.out) | exact HB.out)⟩

end Go.Proofs.YtfmlpkeaiohknaaDoor.Q
