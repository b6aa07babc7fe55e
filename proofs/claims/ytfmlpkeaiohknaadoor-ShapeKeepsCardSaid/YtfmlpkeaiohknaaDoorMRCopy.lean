-- Written by a program of this session (wip/mkprint.py, wip/pr.sh, wip/cutcopy.py) for this claim; Lean checks it.
import Derived.Test.YtfmlpkeaiohknaaDoorQx0
namespace Go.Proofs.YtfmlpkeaiohknaaDoor.Q
open Go.RowKit Go.Proofs.YtfmlpkeaiohknaaDoorW.PrintWords Go.Proofs.YtfmlpkeaiohknaaDoorW.PrintLast Go.Proofs.YtfmlpkeaiohknaaDoorW.PrintMore
attribute [local go_sem] max2_int min2_int max_two min_two max_three min_three max_four min_four
set_option linter.unusedVariables false
set_option linter.unusedSimpArgs false

/-! ### scarfref05_Copy: function 18 -/
mutual
def scarfref05_Copy.l0 : Nat → Int → Int → ByteArray → ByteArray → List (S24) → Int → ByteArray → ByteArray → List (S24) → Option (Int × ByteArray × ByteArray × (List (S24)))
 | 0, _, _, _, _, _, _, _, _, _ => none
 | k + 1, x4, x386000, x386001, x386002, x386003, x388000, x388001, x388002, x388003 => if x4 < (x386003.length : Int) then (if 0 ≤ x4 then ((scarfref05_Copy.f k ((rd_T24 x386003 x4).f0) ((rd_T24 x386003 x4).f1) ((rd_T24 x386003 x4).f2) ((rd_T24 x386003 x4).f3)).bind fun bt389 => (if x388003.length < 2199023255552 then (scarfref05_Copy.l0 k (wrap64 (x4 + 1)) x386000 x386001 x386002 x386003 x388000 x388001 x388002 (x388003 ++ [(⟨bt389.1, bt389.2.1, bt389.2.2.1, bt389.2.2.2⟩ : S24)])) else (none))) else (none)) else (some (x388000, x388001, x388002, x388003))
def scarfref05_Copy.f : Nat → Int → ByteArray → ByteArray → List (S24) → Option (Int × ByteArray × ByteArray × (List (S24)))
 | 0, _, _, _, _ => none
 | k + 1, a0_0, a0_1, a0_2, l0_3 => scarfref05_Copy.l0 k 0 a0_0 a0_1 a0_2 l0_3 a0_0 a0_1 a0_2 ([] : List (S24))
end
theorem scarfref05_Copy.mono_l : ∀ k, (∀ y0 y1 y2 y3, LeO (scarfref05_Copy.f k y0 y1 y2 y3) (scarfref05_Copy.f (k + 1) y0 y1 y2 y3)) ∧ (∀ y0 y1 y2 y3 y4 y5 y6 y7 y8, LeO (scarfref05_Copy.l0 k y0 y1 y2 y3 y4 y5 y6 y7 y8) (scarfref05_Copy.l0 (k + 1) y0 y1 y2 y3 y4 y5 y6 y7 y8))
 | 0 => ⟨fun _ _ _ _ r h => by simp [scarfref05_Copy.f] at h, fun _ _ _ _ _ _ _ _ _ r h => by simp [scarfref05_Copy.l0] at h⟩
 | k + 1 => by
  obtain ⟨ih0, ih1⟩ := scarfref05_Copy.mono_l k
  refine ⟨?_, ?_⟩
  ·intro y0 y1 y2 y3
   unfold scarfref05_Copy.f
   repeat' first
   | (with_reducible exact ih0 _ _ _ _)
   | (with_reducible exact ih1 _ _ _ _ _ _ _ _ _)
   | (with_reducible exact LeO.refl _)
   | (with_reducible exact LeO.none _)
   | (with_reducible refine LeO.ite ?_ ?_)
   | (with_reducible refine LeO.bind ?_ (fun _ => ?_))
   | exact ih0 _ _ _ _
   | exact ih1 _ _ _ _ _ _ _ _ _
   | exact LeO.none _
   | refine LeO.ite ?_ ?_
   | refine LeO.bind ?_ (fun _ => ?_)
  ·intro y0 y1 y2 y3 y4 y5 y6 y7 y8
   unfold scarfref05_Copy.l0
   repeat' first
   | (with_reducible exact ih0 _ _ _ _)
   | (with_reducible exact ih1 _ _ _ _ _ _ _ _ _)
   | (with_reducible exact LeO.refl _)
   | (with_reducible exact LeO.none _)
   | (with_reducible refine LeO.ite ?_ ?_)
   | (with_reducible refine LeO.bind ?_ (fun _ => ?_))
   | exact ih0 _ _ _ _
   | exact ih1 _ _ _ _ _ _ _ _ _
   | exact LeO.none _
   | refine LeO.ite ?_ ?_
   | refine LeO.bind ?_ (fun _ => ?_)
theorem scarfref05_Copy.mono : ∀ a0 a1 a2 a3 k, LeO (scarfref05_Copy.f k a0 a1 a2 a3) (scarfref05_Copy.f (k + 1) a0 a1 a2 a3) := by
 intro a0 a1 a2 a3 k
 obtain ⟨ih0, ih1⟩ := scarfref05_Copy.mono_l k
 exact ih0 a0 a1 a2 a3
def scarfref05_Copy.T5 : Bool × List (List Nat × List Nat) := (true, [([], []), ([0], [0]), ([], []), ([2], [2]), ([], []), ([3, 4], [3, 4]), ([5], [5]), ([6], [6]), ([7], [7]), ([1, 8, 7], [1, 8]), ([0, 1, 2, 3, 4, 5, 6, 7, 8, 9], []), ([10, 9, 9, 0, 1, 2, 3, 4, 5, 6, 7, 8, 9], [9, 10])])
def scarfref05_Copy.B5 : List Nat := [0, 1, 0, 4, 0, 28, 60, 124, 252, 511, 1023, 2047]
theorem scarfref05_Copy.tab5 : rtab .any (opsOf Tryd.f18 5) = scarfref05_Copy.T5 := by kernel_rfl
theorem scarfref05_Copy.bits5 : waitsOk scarfref05_Copy.T5.2 scarfref05_Copy.B5 = true := by kernel_rfl
set_option maxHeartbeats 8000000 in
set_option maxRecDepth 100000 in
theorem scarfref05_Copy.calls (k : Nat) : ∀ (a0_0 : Int) (a0_1 : ByteArray) (a0_2 : ByteArray) (A0_3 : Option Addr) (c0_3 : Nat) (l0_3 : List (S24)) (r1 : Int) (r2 : ByteArray) (r3 : ByteArray) (r4 : List (S24)) (w : World) (hr0_3 : Kd.C k24 w A0_3 l0_3.length l0_3) (hc0_3 : l0_3.length ≤ c0_3) (h : scarfref05_Copy.f k a0_0 a0_1 a0_2 l0_3 = some (r1, r2, r3, r4)),
  Calls Tryd.prog 18 #[.agg #[.int .i64 a0_0, .string a0_1, .string a0_2, .slice A0_3 l0_3.length c0_3]] w fun e w' => ∃ v3_ : Value, e = .returned (.agg #[.int .i64 r1, .string r2, .string r3, v3_]) ∧ Kd.R k24 24 w' w.heap.size (fun _ => True) v3_ r4 ∧ Below w.heap.size w w' := by
 induction k using Nat.strongRecOn with
 | _ k ih =>
 intro a0_0 a0_1 a0_2 A0_3 c0_3 l0_3 r1 r2 r3 r4 w hr0_3 hc0_3 h
 cases k with
 | zero => exact absurd h (by simp [scarfref05_Copy.f])
 | succ k =>
 simp only [scarfref05_Copy.f] at h
 have hu24 := Tryd.underlying24
 have HR0_3 := Aside0.mk hr0_3
 have HC0_3 := Aside0.mk hc0_3
 clear hr0_3 hc0_3
 have HB := Aside0.mk (Below.refl w.heap.size w)
 have H : (scarfref05_Copy.l0 k 0 a0_0 a0_1 a0_2 l0_3 a0_0 a0_1 a0_2 ([] : List (S24))) = some (r1, r2, r3, r4) := h
 clear h
 have H' := Aside0.mk H
 clear H
 go_enter Tryd.func18, Tryd.ntmps18
 go_wp2_with (first | ((with_reducible refine gate_dst (N := 1) rfl ?_); refine box_event ?hg (N := 1) ?hd (cs := #[.int .i64 a0_0, .string a0_1, .string a0_2, .slice A0_3 l0_3.length c0_3]) (t := 24) ?hr ?_; (case hd => rfl); (case hg => rfl); (case hr => first | (go_simp; done) | (go_simp; rfl)); intro gb385 hg w2 hbox hb; have n0_ := Aside0.mk (below_step (by repeat (first | (with_reducible first | exact HB.out | apply below_alloc | apply pw_below_drewN | apply below_drew1) | exact HB.out)) hb); have n1_ := Aside0.mk (hbox); have n2_ := Aside0.mk ((by rw [hg]; exact (below_size (by repeat (first | (with_reducible first | exact HB.out | apply below_alloc | apply pw_below_drewN | apply below_drew1) | exact HB.out))) : w.heap.size ≤ gb385)); have n3_ := Aside0.mk ((by rw [hg]; exact (below_size (by repeat (first | (with_reducible first | exact HB.out | apply below_alloc | apply pw_below_drewN | apply below_drew1) | exact HB.out))) : w.heap.size ≤ gb385)); clear HB; have HB := n0_; have BK385 := n1_; have GW385 := n2_; have GE385 := n3_; clear n0_ n1_ n2_ n3_; clear hb hbox hg) | ((with_reducible refine gate_dst (N := 2) rfl ?_); refine box_event ?hg (N := 2) ?hd (cs := #[.int .i64 0, .string (⟨#[]⟩ : ByteArray), .string (⟨#[]⟩ : ByteArray), .slice none 0 0]) (t := 24) ?hr ?_; (case hd => rfl); (case hg => rfl); (case hr => first | (go_simp; done) | (go_simp; rfl)); intro gb386 hg w3 hbox hb; have n0_ := Aside0.mk (blk_below (g := gb385) (o := .cells #[.int .i64 a0_0, .string a0_1, .string a0_2, .slice A0_3 l0_3.length c0_3] 24 (0, 0)) (by (with_reducible repeat (first | refine blk_drewN ?_ _ | refine blk_drew ?_ | refine blk_alloc ?_ _)); exact BK385.out) hb); have n1_ := Aside0.mk (below_step (by repeat (first | (with_reducible first | exact HB.out | apply below_alloc | apply pw_below_drewN | apply below_drew1 | refine below_set ?_ GE385.out) | exact HB.out)) hb); have n2_ := Aside0.mk (hbox); have n3_ := Aside0.mk ((by rw [hg]; exact (below_size (by repeat (first | (with_reducible first | exact HB.out | apply below_alloc | apply pw_below_drewN | apply below_drew1 | refine below_set ?_ GE385.out) | exact HB.out))) : w.heap.size ≤ gb386)); have n4_ := Aside0.mk ((by rw [hg]; exact (below_size (by repeat (first | (with_reducible first | exact HB.out | apply below_alloc | apply pw_below_drewN | apply below_drew1 | refine below_set ?_ GE385.out) | exact HB.out))) : w.heap.size ≤ gb386)); have n5_ := Aside0.mk ((by rw [hg]; exact Nat.ne_of_lt (blk_lt (g := gb385) (o := .cells #[.int .i64 a0_0, .string a0_1, .string a0_2, .slice A0_3 l0_3.length c0_3] 24 (0, 0)) (by (with_reducible repeat (first | refine blk_drewN ?_ _ | refine blk_drew ?_ | refine blk_alloc ?_ _)); exact BK385.out)) : gb385 ≠ gb386)); have n6_ := Aside0.mk ((by rw [hg]; exact Nat.ne_of_gt (blk_lt (g := gb385) (o := .cells #[.int .i64 a0_0, .string a0_1, .string a0_2, .slice A0_3 l0_3.length c0_3] 24 (0, 0)) (by (with_reducible repeat (first | refine blk_drewN ?_ _ | refine blk_drew ?_ | refine blk_alloc ?_ _)); exact BK385.out)) : gb386 ≠ gb385)); clear BK385; clear HB; have BK385 := n0_; have HB := n1_; have BK386 := n2_; have GW386 := n3_; have GE386 := n4_; have NB385_386 := n5_; have NB386_385 := n6_; clear n0_ n1_ n2_ n3_ n4_ n5_ n6_; clear hb hbox hg; have hnb4 := NB385_386.out; have hnc4 := NB386_385.out; have hcz5_0 : w3.cell? ⟨gb385, 0, none⟩ = some (.int .i64 a0_0) := (blk_cell BK385.out 0).trans rfl; have hcz5_1 : w3.cell? ⟨gb385, 1, none⟩ = some (.string a0_1) := (blk_cell BK385.out 1).trans rfl; have hcz5_2 : w3.cell? ⟨gb385, 2, none⟩ = some (.string a0_2) := (blk_cell BK385.out 2).trans rfl; have hcz5_3 : w3.cell? ⟨gb385, 3, none⟩ = some (.slice A0_3 l0_3.length c0_3) := (blk_cell BK385.out 3).trans rfl; have hfz5_0 := blk_frozen BK385.out 0; have hfz5_1 := blk_frozen BK385.out 1; have hfz5_2 := blk_frozen BK385.out 2; have hfz5_3 := blk_frozen BK385.out 3) | ((with_reducible refine gate_dst (N := 3) rfl ?_); refine box_event ?hg (N := 3) ?hd (cs := #[.int .i64 0, .string (⟨#[]⟩ : ByteArray), .string (⟨#[]⟩ : ByteArray), .slice none 0 0]) (t := 24) ?hr ?_; (case hd => rfl); (case hg => rfl); (case hr => first | (go_simp; done) | (go_simp; rfl)); intro gb387 hg w6 hbox hb; have n0_ := Aside0.mk (blk_below (g := gb385) (o := .cells #[.int .i64 a0_0, .string a0_1, .string a0_2, .slice A0_3 l0_3.length c0_3] 24 (0, 0)) (by (with_reducible repeat (first | refine blk_drewN ?_ _ | refine blk_drew ?_ | refine blk_alloc ?_ _)); exact BK385.out) hb); have n1_ := Aside0.mk (blk_below (g := gb386) (o := .cells #[.int .i64 0, .string (⟨#[]⟩ : ByteArray), .string (⟨#[]⟩ : ByteArray), .slice none 0 0] 24 (0, 0)) (by (with_reducible repeat (first | refine blk_drewN ?_ _ | refine blk_drew ?_ | refine blk_alloc ?_ _)); exact BK386.out) hb); have n2_ := Aside0.mk (below_step (by repeat (first | (with_reducible first | exact HB.out | apply below_alloc | apply pw_below_drewN | apply below_drew1 | refine below_set ?_ GE385.out | refine below_set ?_ GE386.out) | exact HB.out)) hb); have n3_ := Aside0.mk (hbox); have n4_ := Aside0.mk ((by rw [hg]; exact (below_size (by repeat (first | (with_reducible first | exact HB.out | apply below_alloc | apply pw_below_drewN | apply below_drew1 | refine below_set ?_ GE385.out | refine below_set ?_ GE386.out) | exact HB.out))) : w.heap.size ≤ gb387)); have n5_ := Aside0.mk ((by rw [hg]; exact (below_size (by repeat (first | (with_reducible first | exact HB.out | apply below_alloc | apply pw_below_drewN | apply below_drew1 | refine below_set ?_ GE385.out | refine below_set ?_ GE386.out) | exact HB.out))) : w.heap.size ≤ gb387)); have n6_ := Aside0.mk ((by rw [hg]; exact Nat.ne_of_lt (blk_lt (g := gb385) (o := .cells #[.int .i64 a0_0, .string a0_1, .string a0_2, .slice A0_3 l0_3.length c0_3] 24 (0, 0)) (by (with_reducible repeat (first | refine blk_drewN ?_ _ | refine blk_drew ?_ | refine blk_alloc ?_ _)); exact BK385.out)) : gb385 ≠ gb387)); have n7_ := Aside0.mk ((by rw [hg]; exact Nat.ne_of_gt (blk_lt (g := gb385) (o := .cells #[.int .i64 a0_0, .string a0_1, .string a0_2, .slice A0_3 l0_3.length c0_3] 24 (0, 0)) (by (with_reducible repeat (first | refine blk_drewN ?_ _ | refine blk_drew ?_ | refine blk_alloc ?_ _)); exact BK385.out)) : gb387 ≠ gb385)); have n8_ := Aside0.mk ((by rw [hg]; exact Nat.ne_of_lt (blk_lt (g := gb386) (o := .cells #[.int .i64 0, .string (⟨#[]⟩ : ByteArray), .string (⟨#[]⟩ : ByteArray), .slice none 0 0] 24 (0, 0)) (by (with_reducible repeat (first | refine blk_drewN ?_ _ | refine blk_drew ?_ | refine blk_alloc ?_ _)); exact BK386.out)) : gb386 ≠ gb387)); have n9_ := Aside0.mk ((by rw [hg]; exact Nat.ne_of_gt (blk_lt (g := gb386) (o := .cells #[.int .i64 0, .string (⟨#[]⟩ : ByteArray), .string (⟨#[]⟩ : ByteArray), .slice none 0 0] 24 (0, 0)) (by (with_reducible repeat (first | refine blk_drewN ?_ _ | refine blk_drew ?_ | refine blk_alloc ?_ _)); exact BK386.out)) : gb387 ≠ gb386)); clear BK385; clear BK386; clear HB; have BK385 := n0_; have BK386 := n1_; have HB := n2_; have BK387 := n3_; have GW387 := n4_; have GE387 := n5_; have NB385_387 := n6_; have NB387_385 := n7_; have NB386_387 := n8_; have NB387_386 := n9_; clear n0_ n1_ n2_ n3_ n4_ n5_ n6_ n7_ n8_ n9_; clear hb hbox hg; have hnb7 := NB387_385.out; have hnc7 := NB385_387.out; have hnb8 := NB387_386.out; have hnc8 := NB386_387.out; have hcz9_0 : w6.cell? ⟨gb387, 0, none⟩ = some (.int .i64 0) := (blk_cell BK387.out 0).trans rfl; have hcz9_1 : w6.cell? ⟨gb387, 1, none⟩ = some (.string (⟨#[]⟩ : ByteArray)) := (blk_cell BK387.out 1).trans rfl; have hcz9_2 : w6.cell? ⟨gb387, 2, none⟩ = some (.string (⟨#[]⟩ : ByteArray)) := (blk_cell BK387.out 2).trans rfl; have hcz9_3 : w6.cell? ⟨gb387, 3, none⟩ = some (.slice none 0 0) := (blk_cell BK387.out 3).trans rfl; have hfz9_0 := blk_frozen BK387.out 0; have hfz9_1 := blk_frozen BK387.out 1; have hfz9_2 := blk_frozen BK387.out 2; have hfz9_3 := blk_frozen BK387.out 3))
 go_loopg [4] k (fun kq v4 w' => ∃ (x4_1 : Int) (x388003_1 : List (S24)) (u388003 : Value), v4 = .int .i64 x4_1 ∧ Aside0 (scarfref05_Copy.l0 kq x4_1 a0_0 a0_1 a0_2 l0_3 a0_0 a0_1 a0_2 x388003_1 = some (r1, r2, r3, r4)) ∧ Aside0 (kq ≤ k) ∧ Aside0 (Kd.R k24 24 w' w.heap.size (fun k_ => k_ ≠ gb385 ∧ k_ ≠ gb386 ∧ k_ ≠ gb387) u388003 x388003_1) ∧ Aside0 (w'.heap[gb385]? = some (.cells #[.int .i64 a0_0, .string a0_1, .string a0_2, (.slice A0_3 l0_3.length c0_3)] 24 (0, 0))) ∧ Aside0 (w'.heap[gb386]? = some (.cells #[.int .i64 0, .string (⟨#[]⟩ : ByteArray), .string (⟨#[]⟩ : ByteArray), (.slice none 0 0)] 24 (0, 0))) ∧ Aside0 (w'.heap[gb387]? = some (.cells #[.int .i64 a0_0, .string a0_1, .string a0_2, u388003] 24 (0, 0))) ∧ Aside0 (Below w.heap.size w w'))
 case atStart => exact ⟨(0), (([] : List (S24))), (.slice none 0 0), (by first | rfl | (simp; done) | (simp [*]; done)), H', ⟨Nat.le_refl _⟩, ⟨by first | exact Kd.R_nil _ _ _ _ _ | exact Kd.N_nil _ _ _ _ _ | exact Kd.V_nil _ _ _ _ _ | exact Kd.Q_nil _ _ _ _ _ | exact Kd.S_nil _ _ _ _ _⟩, ⟨by (with_reducible repeat (first | refine blk_drewN ?_ _ | refine blk_drew ?_ | refine blk_alloc ?_ _)); refine blk_far ?_ NB385_387.out _; (with_reducible repeat (first | refine blk_drewN ?_ _ | refine blk_drew ?_ | refine blk_alloc ?_ _)); refine blk_far ?_ NB385_387.out _; (with_reducible repeat (first | refine blk_drewN ?_ _ | refine blk_drew ?_ | refine blk_alloc ?_ _)); refine blk_far ?_ NB385_387.out _; (with_reducible repeat (first | refine blk_drewN ?_ _ | refine blk_drew ?_ | refine blk_alloc ?_ _)); refine blk_far ?_ NB385_387.out _; (with_reducible repeat (first | refine blk_drewN ?_ _ | refine blk_drew ?_ | refine blk_alloc ?_ _)); exact BK385.out⟩, ⟨by (with_reducible repeat (first | refine blk_drewN ?_ _ | refine blk_drew ?_ | refine blk_alloc ?_ _)); refine blk_far ?_ NB386_387.out _; (with_reducible repeat (first | refine blk_drewN ?_ _ | refine blk_drew ?_ | refine blk_alloc ?_ _)); refine blk_far ?_ NB386_387.out _; (with_reducible repeat (first | refine blk_drewN ?_ _ | refine blk_drew ?_ | refine blk_alloc ?_ _)); refine blk_far ?_ NB386_387.out _; (with_reducible repeat (first | refine blk_drewN ?_ _ | refine blk_drew ?_ | refine blk_alloc ?_ _)); refine blk_far ?_ NB386_387.out _; (with_reducible repeat (first | refine blk_drewN ?_ _ | refine blk_drew ?_ | refine blk_alloc ?_ _)); exact BK386.out⟩, ⟨by (with_reducible repeat (first | refine blk_drewN ?_ _ | refine blk_drew ?_ | refine blk_alloc ?_ _)); refine blk_put (cs := #[.int .i64 a0_0, .string a0_1, .string a0_2, .slice none 0 0]) ?_ 3 _ rfl; (with_reducible repeat (first | refine blk_drewN ?_ _ | refine blk_drew ?_ | refine blk_alloc ?_ _)); refine blk_put (cs := #[.int .i64 a0_0, .string a0_1, .string (⟨#[]⟩ : ByteArray), .slice none 0 0]) ?_ 2 _ rfl; (with_reducible repeat (first | refine blk_drewN ?_ _ | refine blk_drew ?_ | refine blk_alloc ?_ _)); refine blk_put (cs := #[.int .i64 a0_0, .string (⟨#[]⟩ : ByteArray), .string (⟨#[]⟩ : ByteArray), .slice none 0 0]) ?_ 1 _ rfl; (with_reducible repeat (first | refine blk_drewN ?_ _ | refine blk_drew ?_ | refine blk_alloc ?_ _)); refine blk_put (cs := #[.int .i64 0, .string (⟨#[]⟩ : ByteArray), .string (⟨#[]⟩ : ByteArray), .slice none 0 0]) ?_ 0 _ rfl; (with_reducible repeat (first | refine blk_drewN ?_ _ | refine blk_drew ?_ | refine blk_alloc ?_ _)); exact BK387.out⟩, ⟨by repeat (first | (with_reducible first | exact HB.out | apply below_alloc | apply pw_below_drewN | apply below_drew1 | refine below_set ?_ GE385.out | refine below_set ?_ GE386.out | refine below_set ?_ GE387.out) | exact HB.out)⟩⟩
 case round =>
  clear H'
  try clear c1
  try clear p2
  try clear c4
  try clear c7
  try clear c8
  try clear hcz5_0
  try clear hcz5_1
  try clear hcz5_2
  try clear hcz5_3
  try clear hcz9_0
  try clear hcz9_1
  try clear hcz9_2
  try clear hcz9_3
  try clear hfz5_0
  try clear hfz5_1
  try clear hfz5_2
  try clear hfz5_3
  try clear hfz9_0
  try clear hfz9_1
  try clear hfz9_2
  try clear hfz9_3
  obtain ⟨x4_1, x388003_1, u388003, rfl, HA, HK1, HO_388003, BK385, BK386, BK387, HB⟩ := hrel
  cases gk with
  | zero => exact absurd HA.out (by simp [scarfref05_Copy.l0])
  | succ k1 =>
   have H := HA.out
   clear HA
   simp only [scarfref05_Copy.l0] at H
   by_cases c10 : x4_1 < (l0_3.length : Int)
   ·rw [if_pos c10] at H
    have c10b0 : decide (x4_1 < (l0_3.length : Int)) = true := decide_eq_true c10
    clear c10
    by_cases c11 : 0 ≤ x4_1
    ·rw [if_pos c11] at H
     have c11b0 : decide (0 ≤ x4_1) = true := decide_eq_true c11
     clear c11
     replace H := Option.bind_eq_some_iff.mp H
     obtain ⟨⟨t389, t390, t391, t392⟩, A120, H⟩ := H
     replace H : (if x388003_1.length < 2199023255552 then (scarfref05_Copy.l0 k1 (wrap64 (x4_1 + 1)) a0_0 a0_1 a0_2 l0_3 a0_0 a0_1 a0_2 (x388003_1 ++ [(⟨t389, t390, t391, t392⟩ : S24)])) else (none)) = some (r1, r2, r3, r4) := H
     have A12 := Aside0.mk A120
     clear A120
     by_cases c13 : x388003_1.length < 2199023255552
     ·rw [if_pos c13] at H
      have LMc13 := Aside0.mk c13
      clear c13
      obtain ⟨y395, hy395⟩ : ∃ y_ : List (S24), y_ = (x388003_1 ++ [(⟨t389, t390, t391, t392⟩ : S24)]) := ⟨_, rfl⟩
      replace H : (scarfref05_Copy.l0 k1 (wrap64 (x4_1 + 1)) a0_0 a0_1 a0_2 l0_3 a0_0 a0_1 a0_2 y395) = some (r1, r2, r3, r4) := by first | (rw [hy395]; with_reducible exact H) | (have H2_ := (Option.bind_some _ _).symm.trans H; rw [hy395]; with_reducible exact H2_) | (have H2_ := (Option.bind_some _ _).symm.trans H; with_reducible exact H2_) | with_reducible exact H | (rw [hy395]; exact H) | exact H
      have Ny395 := Aside0.mk hy395
      clear hy395
      have H' := Aside0.mk H
      clear H
      have hnb14 := NB385_386.out
      have hnc14 := NB386_385.out
      have hnb15 := NB385_387.out
      have hnc15 := NB387_385.out
      have hcz16_0 : wr.cell? ⟨gb385, 0, none⟩ = some (.int .i64 a0_0) := (blk_cell BK385.out 0).trans rfl
      have hcz16_1 : wr.cell? ⟨gb385, 1, none⟩ = some (.string a0_1) := (blk_cell BK385.out 1).trans rfl
      have hcz16_2 : wr.cell? ⟨gb385, 2, none⟩ = some (.string a0_2) := (blk_cell BK385.out 2).trans rfl
      have hcz16_3 : wr.cell? ⟨gb385, 3, none⟩ = some (.slice A0_3 l0_3.length c0_3) := (blk_cell BK385.out 3).trans rfl
      have hfz16_0 := blk_frozen BK385.out 0
      have hfz16_1 := blk_frozen BK385.out 1
      have hfz16_2 := blk_frozen BK385.out 2
      have hfz16_3 := blk_frozen BK385.out 3
      try go_wp2
      have n0_ := Aside0.mk (Kd.R_drew HO_388003.out)
      have n1_ := Aside0.mk (blk_drew BK385.out)
      have n2_ := Aside0.mk (blk_drew BK386.out)
      have n3_ := Aside0.mk (blk_drew BK387.out)
      have n4_ := Aside0.mk (below_drew1 HB.out)
      clear HO_388003
      clear BK385
      clear BK386
      clear BK387
      clear HB
      have HO_388003 := n0_
      have BK385 := n1_
      have BK386 := n2_
      have BK387 := n3_
      have HB := n4_
      clear n0_ n1_ n2_ n3_ n4_
      have p388 : 0 ≤ (x4_1 : Int) := of_decide_eq_true (by first | (with_reducible assumption) | assumption)
      have q388 : x4_1 < (l0_3.length : Int) := of_decide_eq_true (by first | (with_reducible assumption) | assumption)
      obtain ⟨ad388, A388_3, c388_3, e388, hx388_0, hx388_1, hx388_2, hx388_3, hl388_3, hi388_3⟩ := at_T24 HR0_3.out x4_1 p388 q388
      have hw388_3 := hx388_3
      have hw388_2 := hx388_2
      have hw388_1 := hx388_1
      have hw388_0 := hx388_0
      cases e388
      replace hx388_0 := (HB.out.cell (World.block_lt_of_cell? w _ hx388_0)).trans hx388_0
      replace hx388_1 := (HB.out.cell (World.block_lt_of_cell? w _ hx388_1)).trans hx388_1
      replace hx388_2 := (HB.out.cell (World.block_lt_of_cell? w _ hx388_2)).trans hx388_2
      replace hx388_3 := (HB.out.cell (World.block_lt_of_cell? w _ hx388_3)).trans hx388_3
      have HR388_3 := Aside0.mk hi388_3
      have HC388_3 := Aside0.mk hl388_3
      clear hi388_3 hl388_3
      replace p388 := eq_true p388
      replace q388 := eq_true q388
      refine start_ (n := 12) (S := fun w' => w'.cell? ⟨gb387, 0, none⟩ = some (.int .i64 a0_0) ∧ w'.cell? ⟨gb387, 1, none⟩ = some (.string a0_1) ∧ w'.cell? ⟨gb387, 2, none⟩ = some (.string a0_2) ∧ w'.cell? ⟨gb387, 3, none⟩ = some (u388003) ∧ w'.cell? ⟨gb385, 0, none⟩ = some (.int .i64 a0_0) ∧ w'.cell? ⟨gb385, 1, none⟩ = some (.string a0_1) ∧ w'.cell? ⟨gb385, 2, none⟩ = some (.string a0_2) ∧ w'.cell? ⟨gb385, 3, none⟩ = some (.slice (some ad388) l0_3.length c0_3) ∧ w'.cell? (ad388.add ((x4_1).toNat * 4)) = some (.int .i64 ((rd_T24 l0_3 x4_1).f0)) ∧ w'.cell? ⟨(ad388.add ((x4_1).toNat * 4)).block, (ad388.add ((x4_1).toNat * 4)).off + 1, none⟩ = some (.string ((rd_T24 l0_3 x4_1).f1)) ∧ w'.cell? ⟨(ad388.add ((x4_1).toNat * 4)).block, (ad388.add ((x4_1).toNat * 4)).off + 2, none⟩ = some (.string ((rd_T24 l0_3 x4_1).f2)) ∧ w'.cell? ⟨(ad388.add ((x4_1).toNat * 4)).block, (ad388.add ((x4_1).toNat * 4)).off + 3, none⟩ = some (.slice A388_3 ((rd_T24 l0_3 x4_1).f3).length c388_3)) (ds := [11]) #[false, false, false, false, false, false, false, false, false, false, false, false] (by kernel_rfl) rfl rfl ⟨(blk_cell BK387.out 0).trans rfl, (blk_cell BK387.out 1).trans rfl, (blk_cell BK387.out 2).trans rfl, (blk_cell BK387.out 3).trans rfl, (blk_cell BK385.out 0).trans rfl, (blk_cell BK385.out 1).trans rfl, (blk_cell BK385.out 2).trans rfl, (blk_cell BK385.out 3).trans rfl, ((HB.out.cell (World.block_lt_of_cell? w _ hw388_0)).trans hw388_0), ((HB.out.cell (World.block_lt_of_cell? w _ hw388_1)).trans hw388_1), ((HB.out.cell (World.block_lt_of_cell? w _ hw388_2)).trans hw388_2), ((HB.out.cell (World.block_lt_of_cell? w _ hw388_3)).trans hw388_3)⟩ (fun hHeld => ?_); refine with_tabW scarfref05_Copy.tab5 scarfref05_Copy.bits5 (fun HT_ HW_ => ?_)
      generalize wr.drew = w17 at HO_388003 BK385 BK386 BK387 HB HR388_3 hx388_0 hx388_1 hx388_2 hx388_3 hHeld ⊢
      refine pure_ (i := 0) (N := some 19) (v := ?_) (a' := ?_) #[true, false, false, false, false, false, false, false, false, false, false, false] rfl rfl (any_of HT_.out (by kernel_rfl)) (fun _ _ _ h => h) (Or.inl ⟨by rfl, ?_⟩) ?_ ?_
      rotate_left
      ·intro w'
       go_simp
       with_reducible rfl
      rotate_left
      ·simp only [Act.put, List.setIfInBounds_toArray, List.set_cons_zero, List.set_cons_succ, i64_w, i32_w]
       rfl
      refine pure_ (i := 2) (N := some 21) (v := ?_) (a' := ?_) #[true, false, true, false, false, false, false, false, false, false, false, false] rfl rfl (any_of HT_.out (by kernel_rfl)) (fun _ _ _ h => h) (Or.inl ⟨by rfl, ?_⟩) ?_ ?_
      rotate_left
      ·intro w'
       go_simp
       with_reducible rfl
      rotate_left
      ·simp only [Act.put, List.setIfInBounds_toArray, List.set_cons_zero, List.set_cons_succ, i64_w, i32_w]
       rfl
      refine pure_ (i := 4) (N := some 23) (v := ?_) (a' := ?_) #[true, false, true, false, true, false, false, false, false, false, false, false] rfl rfl (any_of HT_.out (by kernel_rfl)) (fun _ _ _ h => h) (Or.inl ⟨by rfl, ?_⟩) ?_ ?_
      rotate_left
      ·intro w'
       go_simp
       with_reducible rfl
      rotate_left
      ·simp only [Act.put, List.setIfInBounds_toArray, List.set_cons_zero, List.set_cons_succ, i64_w, i32_w]
       rfl
      refine take_ (i := 1) (N := some 20) (v := ?_) (a' := ?_) #[true, true, true, false, true, false, false, false, false, false, false, false] rfl rfl (take_ofW HT_.out HW_.out (by kernel_rfl)) (fun _ _ _ h => h) (Or.inl ⟨by rfl, ?_⟩) hHeld ?_ ?_
      rotate_left
      ·rintro w' ⟨s0, s1, s2, s3, s4, s5, s6, s7, s8, s9, s10, s11⟩
       go_simp
       with_reducible rfl
      rotate_left
      ·simp only [Act.put, List.setIfInBounds_toArray, List.set_cons_zero, List.set_cons_succ, i64_w, i32_w]
       rfl
      refine take_ (i := 3) (N := some 22) (v := ?_) (a' := ?_) #[true, true, true, true, true, false, false, false, false, false, false, false] rfl rfl (take_ofW HT_.out HW_.out (by kernel_rfl)) (fun _ _ _ h => h) (Or.inl ⟨by rfl, ?_⟩) hHeld ?_ ?_
      rotate_left
      ·rintro w' ⟨s0, s1, s2, s3, s4, s5, s6, s7, s8, s9, s10, s11⟩
       go_simp
       with_reducible rfl
      rotate_left
      ·simp only [Act.put, List.setIfInBounds_toArray, List.set_cons_zero, List.set_cons_succ, i64_w, i32_w]
       rfl
      refine pure_ (i := 5) (N := some 24) (v := ?_) (a' := ?_) #[true, true, true, true, true, true, false, false, false, false, false, false] rfl rfl (any_of HT_.out (by kernel_rfl)) (fun _ _ _ h => h) (Or.inl ⟨by rfl, ?_⟩) ?_ ?_
      rotate_left
      ·intro w'
       go_simp
       with_reducible rfl
      rotate_left
      ·simp only [Act.put, List.setIfInBounds_toArray, List.set_cons_zero, List.set_cons_succ, i64_w, i32_w]
       rfl
      refine take_ (i := 6) (N := some 25) (v := ?_) (a' := ?_) #[true, true, true, true, true, true, true, false, false, false, false, false] rfl rfl (take_ofW HT_.out HW_.out (by kernel_rfl)) (fun _ _ _ h => h) (Or.inl ⟨by rfl, ?_⟩) hHeld ?_ ?_
      rotate_left
      ·rintro w' ⟨s0, s1, s2, s3, s4, s5, s6, s7, s8, s9, s10, s11⟩
       go_simp
       with_reducible rfl
      rotate_left
      ·simp only [Act.put, List.setIfInBounds_toArray, List.set_cons_zero, List.set_cons_succ, i64_w, i32_w]
       rfl
      refine one_ (i := 7) (N := some 26) #[true, true, true, true, true, true, true, true, false, false, false, false] rfl rfl (one_of HT_.out (by kernel_rfl)) (by decide) (fun K hK => ?_)
      refine goes_ Tryd.func18 (by kernel_rfl) rfl #[.agg #[.int .i64 ((rd_T24 l0_3 x4_1).f0), .string ((rd_T24 l0_3 x4_1).f1), .string ((rd_T24 l0_3 x4_1).f2), .slice A388_3 ((rd_T24 l0_3 x4_1).f3).length c388_3]] (by rfl) rfl rfl (by (try simp only [List.map_toArray, List.map_cons, List.map_nil]); first | done | rfl | (simp only [List.length_drop, List.length_take]; rfl)) ?_
      with_reducible refine (ih k1 (by have := HK1.out; omega) ((rd_T24 l0_3 x4_1).f0) ((rd_T24 l0_3 x4_1).f1) ((rd_T24 l0_3 x4_1).f2) _ _ ((rd_T24 l0_3 x4_1).f3) t389 t390 t391 t392 _ ?side1 ?side2 A12.out).mono ?_
      (case side1 => repeat (first | exact (Kd.C_below HR388_3.out HB.out) | (with_reducible refine Kd.C_alloc ?_ _) | (with_reducible refine Kd.C_drewN ?_ _) | (with_reducible refine Kd.C_drew ?_)))
      (case side2 => exact HC388_3.out)
      rintro e w18 ⟨v393, rfl, ho0, hb⟩
      refine ⟨_, rfl, ?_⟩
      have n0_ := Aside0.mk (Kd.R_elder' (by (with_reducible repeat (first | apply Kd.R_alloc | apply Kd.R_drewN | apply Kd.R_drew)); exact HO_388003.out) (Kd.R_base ho0) hb)
      have n1_ := Aside0.mk (Kd.R_lower (Kd.R_newB (Kd.R_newB (Kd.R_newB (Kd.R_new' ho0 (Kd.R_lt (by (with_reducible repeat (first | apply Kd.R_alloc | apply Kd.R_drewN | apply Kd.R_drew)); exact HO_388003.out))) (g := gb385) (o := .cells #[.int .i64 a0_0, .string a0_1, .string a0_2, .slice (some ad388) l0_3.length c0_3] 24 (0, 0)) (by (with_reducible repeat (first | refine blk_drewN ?_ _ | refine blk_drew ?_ | refine blk_alloc ?_ _)); exact BK385.out)) (g := gb386) (o := .cells #[.int .i64 0, .string (⟨#[]⟩ : ByteArray), .string (⟨#[]⟩ : ByteArray), .slice none 0 0] 24 (0, 0)) (by (with_reducible repeat (first | refine blk_drewN ?_ _ | refine blk_drew ?_ | refine blk_alloc ?_ _)); exact BK386.out)) (g := gb387) (o := .cells #[.int .i64 a0_0, .string a0_1, .string a0_2, u388003] 24 (0, 0)) (by (with_reducible repeat (first | refine blk_drewN ?_ _ | refine blk_drew ?_ | refine blk_alloc ?_ _)); exact BK387.out)) (below_size (by repeat (first | (with_reducible first | exact HB.out | apply below_alloc | apply pw_below_drewN | apply below_drew1 | refine below_set ?_ GE385.out | refine below_set ?_ GE386.out | refine below_set ?_ GE387.out) | exact HB.out))))
      have n2_ := Aside0.mk (blk_below (g := gb385) (o := .cells #[.int .i64 a0_0, .string a0_1, .string a0_2, .slice (some ad388) l0_3.length c0_3] 24 (0, 0)) (by (with_reducible repeat (first | refine blk_drewN ?_ _ | refine blk_drew ?_ | refine blk_alloc ?_ _)); exact BK385.out) hb)
      have n3_ := Aside0.mk (blk_below (g := gb386) (o := .cells #[.int .i64 0, .string (⟨#[]⟩ : ByteArray), .string (⟨#[]⟩ : ByteArray), .slice none 0 0] 24 (0, 0)) (by (with_reducible repeat (first | refine blk_drewN ?_ _ | refine blk_drew ?_ | refine blk_alloc ?_ _)); exact BK386.out) hb)
      have n4_ := Aside0.mk (blk_below (g := gb387) (o := .cells #[.int .i64 a0_0, .string a0_1, .string a0_2, u388003] 24 (0, 0)) (by (with_reducible repeat (first | refine blk_drewN ?_ _ | refine blk_drew ?_ | refine blk_alloc ?_ _)); exact BK387.out) hb)
      have n5_ := Aside0.mk (below_step (by repeat (first | (with_reducible first | exact HB.out | apply below_alloc | apply pw_below_drewN | apply below_drew1 | refine below_set ?_ GE385.out | refine below_set ?_ GE386.out | refine below_set ?_ GE387.out) | exact HB.out)) hb)
      clear HO_388003
      clear BK385
      clear BK386
      clear BK387
      clear HB
      have HO_388003 := n0_
      have HO394 := n1_
      have BK385 := n2_
      have BK386 := n3_
      have BK387 := n4_
      have HB := n5_
      clear n0_ n1_ n2_ n3_ n4_ n5_
      (try clear hb)
      (try clear hb2)
      (try clear hk)
      (try clear hi)
      (try clear ho0)
      obtain ⟨Ao20, co20, eo20⟩ := Kd.R_slice HO394.out
      (first | subst eo20 | (injection eo20 with f1_ f2_ f3_; have f4_ := f1_.symm; have f5_ := f3_.symm; clear f1_ f2_ f3_; subst f4_; subst f5_))
      refine hK.out _ _ ⟨(blk_cell BK387.out 0).trans rfl, (blk_cell BK387.out 1).trans rfl, (blk_cell BK387.out 2).trans rfl, (blk_cell BK387.out 3).trans rfl, (blk_cell BK385.out 0).trans rfl, (blk_cell BK385.out 1).trans rfl, (blk_cell BK385.out 2).trans rfl, (blk_cell BK385.out 3).trans rfl, ((HB.out.cell (World.block_lt_of_cell? w _ hw388_0)).trans hw388_0), ((HB.out.cell (World.block_lt_of_cell? w _ hw388_1)).trans hw388_1), ((HB.out.cell (World.block_lt_of_cell? w _ hw388_2)).trans hw388_2), ((HB.out.cell (World.block_lt_of_cell? w _ hw388_3)).trans hw388_3)⟩ (fun hHeld => ?_)
      clear hK K
      refine norm_ (a' := ?_) ?_ ?_
      rotate_left
      ·show Act.put _ (some 26) _ = _
       simp only [Act.put, List.setIfInBounds_toArray, List.set_cons_zero, List.set_cons_succ, i64_w, i32_w]
       rfl
      refine one_ (i := 8) (N := some 27) #[true, true, true, true, true, true, true, true, true, false, false, false] rfl rfl (one_of HT_.out (by kernel_rfl)) (by decide) (fun K hK => ?_)
      refine value_ (w1 := ?_) (v := ?_) (by rfl) rfl ?_ ?_
      rotate_left 2
      ·go_simp
       constructor
       ·rfl
       ·rfl
      refine hK.out _ _ ⟨(blk_cell (blk_alloc BK387.out _) 0).trans rfl, (blk_cell (blk_alloc BK387.out _) 1).trans rfl, (blk_cell (blk_alloc BK387.out _) 2).trans rfl, (blk_cell (blk_alloc BK387.out _) 3).trans rfl, (blk_cell (blk_alloc BK385.out _) 0).trans rfl, (blk_cell (blk_alloc BK385.out _) 1).trans rfl, (blk_cell (blk_alloc BK385.out _) 2).trans rfl, (blk_cell (blk_alloc BK385.out _) 3).trans rfl, (World.cell?_alloc_lt _ _ _ (World.block_lt_of_cell? _ _ (((HB.out.cell (World.block_lt_of_cell? w _ hw388_0)).trans hw388_0)))).trans (((HB.out.cell (World.block_lt_of_cell? w _ hw388_0)).trans hw388_0)), (World.cell?_alloc_lt _ _ _ (World.block_lt_of_cell? _ _ (((HB.out.cell (World.block_lt_of_cell? w _ hw388_1)).trans hw388_1)))).trans (((HB.out.cell (World.block_lt_of_cell? w _ hw388_1)).trans hw388_1)), (World.cell?_alloc_lt _ _ _ (World.block_lt_of_cell? _ _ (((HB.out.cell (World.block_lt_of_cell? w _ hw388_2)).trans hw388_2)))).trans (((HB.out.cell (World.block_lt_of_cell? w _ hw388_2)).trans hw388_2)), (World.cell?_alloc_lt _ _ _ (World.block_lt_of_cell? _ _ (((HB.out.cell (World.block_lt_of_cell? w _ hw388_3)).trans hw388_3)))).trans (((HB.out.cell (World.block_lt_of_cell? w _ hw388_3)).trans hw388_3))⟩ (fun hHeld => ?_)
      clear hK K
      refine norm_ (a' := ?_) ?_ ?_
      rotate_left
      ·show Act.put _ (some 27) _ = _
       simp only [Act.put, List.setIfInBounds_toArray, List.set_cons_zero, List.set_cons_succ, i64_w, i32_w]
       rfl
      refine one_ (i := 9) (N := some 28) #[true, true, true, true, true, true, true, true, true, true, false, false] rfl rfl (one_of HT_.out (by kernel_rfl)) (by decide) (fun K hK => ?_)
      refine Kd.R_append_step k24 (w0 := w) w.heap.size (by rfl) (.tmp 20) (.tmp 27) 22 24 (.agg #[(.int .i64 0), (.string ⟨#[]⟩), (.string ⟨#[]⟩), (.slice none 0 0)]) 64 rfl Tryd.underlying22 info24 rfl (by decide) (by omega) u388003 x388003_1 (⟨t389, t390, t391, t392⟩ : S24) [.int .i64 t389, .string t390, .string t391, .slice Ao20 t392.length co20] (fun k_ => k_ ≠ gb385 ∧ k_ ≠ gb386 ∧ k_ ≠ gb387) (fun k_ => ((fun k_ => k_ ≠ gb385 ∧ k_ ≠ gb386 ∧ k_ ≠ gb387)) k_ ∧ some k_ ≠ (u388003 : Value).ownBlock) rfl rfl ?aP (fun _ hk => hk) ?aF ?aO ?aB ?aS ?aL ?_
      (case aP => exact k24_mkM _ _ _ (⟨t389, t390, t391, t392⟩ : S24) (Kd.R_mono (HO394.out) (fun k_ hk => ⟨⟨hk.1.1.2, ⟨hk.1.2, hk.2⟩⟩, hk.1.1.1.2⟩)))
      (case aB => exact (by repeat (first | (with_reducible first | exact HB.out | apply below_alloc | apply pw_below_drewN | apply below_drew1 | refine below_set ?_ GE385.out | refine below_set ?_ GE386.out | refine below_set ?_ GE387.out) | exact HB.out)))
      (case aF => exact (fun k_ hk => ⟨Kd.freshB (g := gb385) (o := .cells #[.int .i64 a0_0, .string a0_1, .string a0_2, .slice (some ad388) l0_3.length c0_3] 24 (0, 0)) (by (with_reducible repeat (first | refine blk_drewN ?_ _ | refine blk_drew ?_ | refine blk_alloc ?_ _)); exact BK385.out) k_ hk, Kd.freshB (g := gb386) (o := .cells #[.int .i64 0, .string (⟨#[]⟩ : ByteArray), .string (⟨#[]⟩ : ByteArray), .slice none 0 0] 24 (0, 0)) (by (with_reducible repeat (first | refine blk_drewN ?_ _ | refine blk_drew ?_ | refine blk_alloc ?_ _)); exact BK386.out) k_ hk, Kd.freshB (g := gb387) (o := .cells #[.int .i64 a0_0, .string a0_1, .string a0_2, u388003] 24 (0, 0)) (by (with_reducible repeat (first | refine blk_drewN ?_ _ | refine blk_drew ?_ | refine blk_alloc ?_ _)); exact BK387.out) k_ hk⟩))
      (case aO => exact (by (with_reducible repeat (first | apply Kd.R_alloc | apply Kd.R_drewN | apply Kd.R_drew)); exact Kd.R_mono HO_388003.out (fun _ hk => ⟨hk.1.1, ⟨hk.1.2.1, hk.1.2.2⟩⟩)))
      (case aS => exact (below_size (by repeat (first | (with_reducible first | exact HB.out | apply below_alloc | apply pw_below_drewN | apply below_drew1 | refine below_set ?_ GE385.out | refine below_set ?_ GE386.out | refine below_set ?_ GE387.out) | exact HB.out))))
      (case aL => have := LMc13.out; omega)
      intro v396 w19 ho hb hg hat
      rw [← Ny395.out] at ho
      have n0_ := Aside0.mk (blk_grown (g := gb385) (o := .cells #[.int .i64 a0_0, .string a0_1, .string a0_2, .slice (some ad388) l0_3.length c0_3] 24 (0, 0)) (by (with_reducible repeat (first | refine blk_drewN ?_ _ | refine blk_drew ?_ | refine blk_alloc ?_ _)); exact BK385.out) hg (Kd.R_away HO_388003.out (fun _ hk => hk.1.1)))
      have n1_ := Aside0.mk (blk_grown (g := gb386) (o := .cells #[.int .i64 0, .string (⟨#[]⟩ : ByteArray), .string (⟨#[]⟩ : ByteArray), .slice none 0 0] 24 (0, 0)) (by (with_reducible repeat (first | refine blk_drewN ?_ _ | refine blk_drew ?_ | refine blk_alloc ?_ _)); exact BK386.out) hg (Kd.R_away HO_388003.out (fun _ hk => hk.1.2.1)))
      have n2_ := Aside0.mk (blk_grown (g := gb387) (o := .cells #[.int .i64 a0_0, .string a0_1, .string a0_2, u388003] 24 (0, 0)) (by (with_reducible repeat (first | refine blk_drewN ?_ _ | refine blk_drew ?_ | refine blk_alloc ?_ _)); exact BK387.out) hg (Kd.R_away HO_388003.out (fun _ hk => hk.1.2.2)))
      have n3_ := Aside0.mk (hb)
      have n4_ := Aside0.mk (ho)
      clear BK385
      clear BK386
      clear BK387
      clear HB
      clear HO_388003
      clear HO394
      have BK385 := n0_
      have BK386 := n1_
      have BK387 := n2_
      have HB := n3_
      have HO397 := n4_
      clear n0_ n1_ n2_ n3_ n4_
      clear ho hb hg hat
      obtain ⟨Ao21, co21, eo21⟩ := Kd.R_slice HO397.out
      (first | subst eo21 | (injection eo21 with f1_ f2_ f3_; have f4_ := f1_.symm; have f5_ := f3_.symm; clear f1_ f2_ f3_; subst f4_; subst f5_))
      refine hK.out _ _ ⟨(blk_cell BK387.out 0).trans rfl, (blk_cell BK387.out 1).trans rfl, (blk_cell BK387.out 2).trans rfl, (blk_cell BK387.out 3).trans rfl, (blk_cell BK385.out 0).trans rfl, (blk_cell BK385.out 1).trans rfl, (blk_cell BK385.out 2).trans rfl, (blk_cell BK385.out 3).trans rfl, ((HB.out.cell (World.block_lt_of_cell? w _ hw388_0)).trans hw388_0), ((HB.out.cell (World.block_lt_of_cell? w _ hw388_1)).trans hw388_1), ((HB.out.cell (World.block_lt_of_cell? w _ hw388_2)).trans hw388_2), ((HB.out.cell (World.block_lt_of_cell? w _ hw388_3)).trans hw388_3)⟩ (fun hHeld => ?_)
      clear hK K
      refine norm_ (a' := ?_) ?_ ?_
      rotate_left
      ·show Act.put _ (some 28) _ = _
       simp only [Act.put, List.setIfInBounds_toArray, List.set_cons_zero, List.set_cons_succ, i64_w, i32_w]
       rfl
      refine pure_ (i := 10) (N := some 29) (v := ?_) (a' := ?_) #[true, true, true, true, true, true, true, true, true, true, true, false] rfl rfl (any_of HT_.out (by kernel_rfl)) (fun _ _ _ h => h) (Or.inl ⟨by rfl, ?_⟩) ?_ ?_
      rotate_left
      ·intro w'
       go_simp
       with_reducible rfl
      rotate_left
      ·simp only [Act.put, List.setIfInBounds_toArray, List.set_cons_zero, List.set_cons_succ, i64_w, i32_w]
       rfl
      refine last_ (i := 11) (N := none) #[true, true, true, true, true, true, true, true, true, true, true, true] rfl rfl (one_of HT_.out (by kernel_rfl)) (by decide) (fun K hK => ?_)
      have hs22 : w19.cell? ⟨gb387, 3, none⟩ = some (u388003) := (blk_cell BK387.out 3).trans rfl
      have hfs22 := blk_frozen BK387.out 3
      have hns22_0 := NB385_387.out
      have hns22_1 := NB386_387.out
      have hms22_0 := NB387_385.out
      have hms22_1 := NB387_386.out
      refine skip_ (w1 := ?_) (by rfl) rfl ?_ ?_
      rotate_left
      ·go_simp
       rfl
      refine hK.out _ _ ?_
      clear hK K
      refine done_ (done_of HT_.out (by kernel_rfl)) ?_
      try go_wp2
      go_roundg k1
      case measure => have := HK1.out; omega
      case rel => exact ⟨(wrap64 (x4_1 + 1)), (y395), (.slice Ao21 y395.length co21), (by first | rfl | (simp; done) | (simp [*]; done)), H', ⟨by have := HK1.out; omega⟩, ⟨by (with_reducible repeat (first | apply Kd.R_alloc | apply Kd.R_drewN | apply Kd.R_drew)); exact Kd.R_mono (Kd.R_far (p := ⟨gb387, 3, none⟩) (Kd.R_mono HO397.out (fun k_ hk => (⟨hk, hk.2.2⟩ : _ ∧ k_ ≠ gb387))) (fun _ hk => hk.2) (.slice Ao21 y395.length co21)) (fun _ hk => ⟨hk.1.1, ⟨hk.1.2.1, hk.1.2.2⟩⟩)⟩, ⟨by (with_reducible repeat (first | refine blk_drewN ?_ _ | refine blk_drew ?_ | refine blk_alloc ?_ _)); refine blk_far ?_ NB385_387.out _; (with_reducible repeat (first | refine blk_drewN ?_ _ | refine blk_drew ?_ | refine blk_alloc ?_ _)); exact BK385.out⟩, ⟨by (with_reducible repeat (first | refine blk_drewN ?_ _ | refine blk_drew ?_ | refine blk_alloc ?_ _)); refine blk_far ?_ NB386_387.out _; (with_reducible repeat (first | refine blk_drewN ?_ _ | refine blk_drew ?_ | refine blk_alloc ?_ _)); exact BK386.out⟩, ⟨by (with_reducible repeat (first | refine blk_drewN ?_ _ | refine blk_drew ?_ | refine blk_alloc ?_ _)); refine blk_put (cs := #[.int .i64 a0_0, .string a0_1, .string a0_2, u388003]) ?_ 3 _ rfl; (with_reducible repeat (first | refine blk_drewN ?_ _ | refine blk_drew ?_ | refine blk_alloc ?_ _)); exact BK387.out⟩, ⟨by repeat (first | (with_reducible first | exact HB.out | apply below_alloc | apply pw_below_drewN | apply below_drew1 | refine below_set ?_ GE385.out | refine below_set ?_ GE386.out | refine below_set ?_ GE387.out) | exact HB.out)⟩⟩
     ·rw [if_neg c13] at H
      exact absurd H (by simp)
    ·rw [if_neg c11] at H
     exact absurd H (by simp)
   ·rw [if_neg c10] at H
    have c10b0 : decide (x4_1 < (l0_3.length : Int)) = false := decide_eq_false c10
    clear c10
    simp only [Option.some.injEq, Prod.mk.injEq] at H
    obtain ⟨rfl, rfl, rfl, rfl⟩ := H
    have hnb23 := NB385_386.out
    have hnc23 := NB386_385.out
    have hnb24 := NB385_387.out
    have hnc24 := NB387_385.out
    have hcz25_0 : wr.cell? ⟨gb385, 0, none⟩ = some (.int .i64 a0_0) := (blk_cell BK385.out 0).trans rfl
    have hcz25_1 : wr.cell? ⟨gb385, 1, none⟩ = some (.string a0_1) := (blk_cell BK385.out 1).trans rfl
    have hcz25_2 : wr.cell? ⟨gb385, 2, none⟩ = some (.string a0_2) := (blk_cell BK385.out 2).trans rfl
    have hcz25_3 : wr.cell? ⟨gb385, 3, none⟩ = some (.slice A0_3 l0_3.length c0_3) := (blk_cell BK385.out 3).trans rfl
    have hfz25_0 := blk_frozen BK385.out 0
    have hfz25_1 := blk_frozen BK385.out 1
    have hfz25_2 := blk_frozen BK385.out 2
    have hfz25_3 := blk_frozen BK385.out 3
    have hnb26 := NB387_386.out
    have hnc26 := NB386_387.out
    have hcz27_0 : wr.cell? ⟨gb387, 0, none⟩ = some (.int .i64 a0_0) := (blk_cell BK387.out 0).trans rfl
    have hcz27_1 : wr.cell? ⟨gb387, 1, none⟩ = some (.string a0_1) := (blk_cell BK387.out 1).trans rfl
    have hcz27_2 : wr.cell? ⟨gb387, 2, none⟩ = some (.string a0_2) := (blk_cell BK387.out 2).trans rfl
    have hcz27_3 : wr.cell? ⟨gb387, 3, none⟩ = some (u388003) := (blk_cell BK387.out 3).trans rfl
    have hfz27_0 := blk_frozen BK387.out 0
    have hfz27_1 := blk_frozen BK387.out 1
    have hfz27_2 := blk_frozen BK387.out 2
    have hfz27_3 := blk_frozen BK387.out 3
    have hcz28_0 : wr.cell? ⟨gb386, 0, none⟩ = some (.int .i64 0) := (blk_cell BK386.out 0).trans rfl
    have hcz28_1 : wr.cell? ⟨gb386, 1, none⟩ = some (.string (⟨#[]⟩ : ByteArray)) := (blk_cell BK386.out 1).trans rfl
    have hcz28_2 : wr.cell? ⟨gb386, 2, none⟩ = some (.string (⟨#[]⟩ : ByteArray)) := (blk_cell BK386.out 2).trans rfl
    have hcz28_3 : wr.cell? ⟨gb386, 3, none⟩ = some (.slice none 0 0) := (blk_cell BK386.out 3).trans rfl
    have hfz28_0 := blk_frozen BK386.out 0
    have hfz28_1 := blk_frozen BK386.out 1
    have hfz28_2 := blk_frozen BK386.out 2
    have hfz28_3 := blk_frozen BK386.out 3
    obtain ⟨Ao29, co29, eo29⟩ := Kd.R_slice HO_388003.out
    subst eo29
    go_wp2
    refine bodyPost_ret (results_cell_row rfl _ _ gb386 24 #[.int .i64 a0_0, .string a0_1, .string a0_2, .slice Ao29 x388003_1.length co29] (0, 0) _ rfl (by (with_reducible repeat (first | refine blk_drewN ?_ _ | refine blk_drew ?_ | refine blk_alloc ?_ _)); refine blk_put (cs := #[.int .i64 a0_0, .string a0_1, .string a0_2, .slice none 0 0]) ?_ 3 _ rfl; (with_reducible repeat (first | refine blk_drewN ?_ _ | refine blk_drew ?_ | refine blk_alloc ?_ _)); refine blk_put (cs := #[.int .i64 a0_0, .string a0_1, .string (⟨#[]⟩ : ByteArray), .slice none 0 0]) ?_ 2 _ rfl; (with_reducible repeat (first | refine blk_drewN ?_ _ | refine blk_drew ?_ | refine blk_alloc ?_ _)); refine blk_put (cs := #[.int .i64 a0_0, .string (⟨#[]⟩ : ByteArray), .string (⟨#[]⟩ : ByteArray), .slice none 0 0]) ?_ 1 _ rfl; (with_reducible repeat (first | refine blk_drewN ?_ _ | refine blk_drew ?_ | refine blk_alloc ?_ _)); refine blk_put (cs := #[.int .i64 0, .string (⟨#[]⟩ : ByteArray), .string (⟨#[]⟩ : ByteArray), .slice none 0 0]) ?_ 0 _ rfl; (with_reducible repeat (first | refine blk_drewN ?_ _ | refine blk_drew ?_ | refine blk_alloc ?_ _)); exact BK386.out) Tryd.underlying24 rfl (by kernel_rfl)) rfl ?_
    exact ⟨_, by first | rfl | (simp [errW_none, errW_some] <;> rfl) | (simp [*, errW_none, errW_some] <;> rfl), by (with_reducible repeat (first | apply Kd.R_alloc | apply Kd.R_drewN | apply Kd.R_drew)); exact Kd.R_mono (Kd.R_far (p := ⟨gb386, 3, none⟩) (Kd.R_far (p := ⟨gb386, 2, none⟩) (Kd.R_far (p := ⟨gb386, 1, none⟩) (Kd.R_far (p := ⟨gb386, 0, none⟩) (Kd.R_mono HO_388003.out (fun k_ hk => (⟨hk, hk.2.1⟩ : _ ∧ k_ ≠ gb386))) (fun _ hk => hk.2) (.int .i64 a0_0)) (fun _ hk => hk.2) (.string a0_1)) (fun _ hk => hk.2) (.string a0_2)) (fun _ hk => hk.2) (.slice Ao29 x388003_1.length co29)) (fun _ hk => trivial), by repeat (first | (with_reducible first | exact HB.out | apply below_alloc | apply pw_below_drewN | apply below_drew1 | refine below_set ?_ GE385.out | refine below_set ?_ GE386.out | refine below_set ?_ GE387.out) | exact HB.out)⟩

-- NOT PRINTED: function 6 (scarflaw10_ShapeKeeps)


end Go.Proofs.YtfmlpkeaiohknaaDoor.Q
