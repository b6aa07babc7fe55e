/- The texts of this claim that lie below its row, in their order: Qx4 KEv KMovL Qx5 KWs KPk KRw KBkL. -/
import Derived.Test.YtnnnbeimehfiiaaDoorZP2
-- Written by a program of this session (wip/mkprint.py, wip/pr.sh) for this claim; Lean checks it.
namespace Go.Proofs.YtnnnbeimehfiiaaDoor.Q
open Go.RowKit Go.Proofs.YtnnnbeimehfiiaaDoorW.PrintWords Go.Proofs.YtnnnbeimehfiiaaDoorW.PrintLast Go.Proofs.YtnnnbeimehfiiaaDoorW.PrintMore
attribute [local go_sem] max2_int min2_int max_two min_two max_three min_three max_four min_four   -- for this text's walks alone
set_option linter.unusedVariables false
set_option linter.unusedSimpArgs false
/-! ### mark_Length: function 16 -/
mutual
def mark_Length.j0 : Nat → Int → List (List Int) → Bool → Option (Int)
 | 0, _, _, _ => none
 | k + 1, x0, x1, x16 => if x16 = true then (mark_Length.j1 k 7 x1) else (mark_Length.j1 k x0 x1)
def mark_Length.j1 : Nat → Int → List (List Int) → Option (Int)
 | 0, _, _ => none
 | k + 1, x0, x1 => mark_Length.l0 k x0 x1 (x1.length : Int) 0
def mark_Length.l0 : Nat → Int → List (List Int) → Int → Int → Option (Int)
 | 0, _, _, _, _ => none
 | k + 1, x0, x17, x18, x19 => if x19 < x18 then (if 0 ≤ x19 then (if x19 < (x17.length : Int) then ((line_Split.f (rd_L1 x17 x19)).bind fun t151 => (mark_Length.l1 k x0 x17 x18 x19 t151 (t151.length : Int) 0)) else (none)) else (none)) else (some x0)
def mark_Length.l1 : Nat → Int → List (List Int) → Int → Int → List (List Int) → Int → Int → Option (Int)
 | 0, _, _, _, _, _, _, _ => none
 | k + 1, x0, x17, x18, x19, x24, x25, x26 => if x26 < x25 then (if 0 ≤ x26 then (if x26 < (x24.length : Int) then ((mark_signs.f k (rd_L1 x24 x26)).bind fun bt155 => (if bt155.1 > 0 then (mark_Length.l1 k (mx x0 (wrap64 (bt155.1 + 1))) x17 x18 x19 x24 x25 (wrap64 (x26 + 1))) else (mark_Length.l1 k x0 x17 x18 x19 x24 x25 (wrap64 (x26 + 1))))) else (none)) else (none)) else (mark_Length.l0 k x0 x17 x18 (wrap64 (x19 + 1)))
end
def mark_Length.f (k : Nat) (a0 : Int) (l1 : List (List Int)) : Option (Int) := if a0 < 1 then (mark_Length.j0 k a0 l1 true) else (mark_Length.j0 k a0 l1 (decide (a0 > 1000)))
theorem mark_Length.mono_l : ∀ k, (∀ y0 y1 y2, LeO (mark_Length.j0 k y0 y1 y2) (mark_Length.j0 (k + 1) y0 y1 y2)) ∧ (∀ y0 y1, LeO (mark_Length.j1 k y0 y1) (mark_Length.j1 (k + 1) y0 y1)) ∧ (∀ y0 y1 y2 y3, LeO (mark_Length.l0 k y0 y1 y2 y3) (mark_Length.l0 (k + 1) y0 y1 y2 y3)) ∧ (∀ y0 y1 y2 y3 y4 y5 y6, LeO (mark_Length.l1 k y0 y1 y2 y3 y4 y5 y6) (mark_Length.l1 (k + 1) y0 y1 y2 y3 y4 y5 y6))
 | 0 => ⟨fun _ _ _ r h => by simp [mark_Length.j0] at h, fun _ _ r h => by simp [mark_Length.j1] at h, fun _ _ _ _ r h => by simp [mark_Length.l0] at h, fun _ _ _ _ _ _ _ r h => by simp [mark_Length.l1] at h⟩
 | k + 1 => by
  obtain ⟨ih0, ih1, ih2, ih3⟩ := mark_Length.mono_l k
  refine ⟨?_, ?_, ?_, ?_⟩
  ·intro y0 y1 y2
   unfold mark_Length.j0
   repeat' first
   | (with_reducible exact ih0 _ _ _)
   | (with_reducible exact ih1 _ _)
   | (with_reducible exact ih2 _ _ _ _)
   | (with_reducible exact ih3 _ _ _ _ _ _ _)
   | (with_reducible exact mark_signs.mono _ _)
   | (with_reducible exact LeO.refl _)
   | (with_reducible exact LeO.none _)
   | (with_reducible refine LeO.ite ?_ ?_)
   | (with_reducible refine LeO.bind ?_ (fun _ => ?_))
   | exact ih0 _ _ _
   | exact ih1 _ _
   | exact ih2 _ _ _ _
   | exact ih3 _ _ _ _ _ _ _
   | exact mark_signs.mono _ _
   | exact LeO.none _
   | refine LeO.ite ?_ ?_
   | refine LeO.bind ?_ (fun _ => ?_)
  ·intro y0 y1
   unfold mark_Length.j1
   repeat' first
   | (with_reducible exact ih0 _ _ _)
   | (with_reducible exact ih1 _ _)
   | (with_reducible exact ih2 _ _ _ _)
   | (with_reducible exact ih3 _ _ _ _ _ _ _)
   | (with_reducible exact mark_signs.mono _ _)
   | (with_reducible exact LeO.refl _)
   | (with_reducible exact LeO.none _)
   | (with_reducible refine LeO.ite ?_ ?_)
   | (with_reducible refine LeO.bind ?_ (fun _ => ?_))
   | exact ih0 _ _ _
   | exact ih1 _ _
   | exact ih2 _ _ _ _
   | exact ih3 _ _ _ _ _ _ _
   | exact mark_signs.mono _ _
   | exact LeO.none _
   | refine LeO.ite ?_ ?_
   | refine LeO.bind ?_ (fun _ => ?_)
  ·intro y0 y1 y2 y3
   unfold mark_Length.l0
   repeat' first
   | (with_reducible exact ih0 _ _ _)
   | (with_reducible exact ih1 _ _)
   | (with_reducible exact ih2 _ _ _ _)
   | (with_reducible exact ih3 _ _ _ _ _ _ _)
   | (with_reducible exact mark_signs.mono _ _)
   | (with_reducible exact LeO.refl _)
   | (with_reducible exact LeO.none _)
   | (with_reducible refine LeO.ite ?_ ?_)
   | (with_reducible refine LeO.bind ?_ (fun _ => ?_))
   | exact ih0 _ _ _
   | exact ih1 _ _
   | exact ih2 _ _ _ _
   | exact ih3 _ _ _ _ _ _ _
   | exact mark_signs.mono _ _
   | exact LeO.none _
   | refine LeO.ite ?_ ?_
   | refine LeO.bind ?_ (fun _ => ?_)
  ·intro y0 y1 y2 y3 y4 y5 y6
   unfold mark_Length.l1
   repeat' first
   | (with_reducible exact ih0 _ _ _)
   | (with_reducible exact ih1 _ _)
   | (with_reducible exact ih2 _ _ _ _)
   | (with_reducible exact ih3 _ _ _ _ _ _ _)
   | (with_reducible exact mark_signs.mono _ _)
   | (with_reducible exact LeO.refl _)
   | (with_reducible exact LeO.none _)
   | (with_reducible refine LeO.ite ?_ ?_)
   | (with_reducible refine LeO.bind ?_ (fun _ => ?_))
   | exact ih0 _ _ _
   | exact ih1 _ _
   | exact ih2 _ _ _ _
   | exact ih3 _ _ _ _ _ _ _
   | exact mark_signs.mono _ _
   | exact LeO.none _
   | refine LeO.ite ?_ ?_
   | refine LeO.bind ?_ (fun _ => ?_)
theorem mark_Length.mono : ∀ a0 a1 k, LeO (mark_Length.f k a0 a1) (mark_Length.f (k + 1) a0 a1) := by
 intro a0 a1 k
 obtain ⟨ih0, ih1, ih2, ih3⟩ := mark_Length.mono_l k
 unfold mark_Length.f
 repeat' first
   | (with_reducible exact ih0 _ _ _)
   | (with_reducible exact ih1 _ _)
   | (with_reducible exact ih2 _ _ _ _)
   | (with_reducible exact ih3 _ _ _ _ _ _ _)
   | (with_reducible exact mark_signs.mono _ _)
   | (with_reducible exact LeO.refl _)
   | (with_reducible exact LeO.none _)
   | (with_reducible refine LeO.ite ?_ ?_)
   | (with_reducible refine LeO.bind ?_ (fun _ => ?_))
   | exact ih0 _ _ _
   | exact ih1 _ _
   | exact ih2 _ _ _ _
   | exact ih3 _ _ _ _ _ _ _
   | exact mark_signs.mono _ _
   | exact LeO.none _
   | refine LeO.ite ?_ ?_
   | refine LeO.bind ?_ (fun _ => ?_)
set_option maxHeartbeats 8000000 in
set_option maxRecDepth 100000 in
theorem mark_Length.calls (k : Nat) (a0 : Int) (A1 : Option Addr) (c1 : Nat) (l1 : List (List Int)) (r : Int) (w : World) (hr1 : Kd.C (Kd.slice 5 (Kd.int .u8)) w A1 l1.length l1) (hc1 : l1.length ≤ c1) (h : mark_Length.f k a0 l1 = some r) :
  Calls Tryd.prog 16 #[.int .i64 a0, .slice A1 l1.length c1] w fun e w' => e = .returned (.int .i64 r) ∧ Below w.heap.size w w' := by
 have HR1 := Aside0.mk hr1
 have HC1 := Aside0.mk hc1
 clear hr1 hc1
 have HB := Aside0.mk (Below.refl w.heap.size w)
 have H : (if a0 < 1 then (mark_Length.j0 k a0 l1 true) else (mark_Length.j0 k a0 l1 (decide (a0 > 1000)))) = some r := h
 clear h
 have HC3 := Aside0.mk H
 clear H
 go_enter Tryd.func16, Tryd.ntmps16
 go_upto_region 1 with (fail)
 go_cut [16] (fun v16 wc => ∃ (kq : Nat) (x16_2 : Bool), v16 = .bool x16_2 ∧ Aside0 (mark_Length.j0 kq a0 l1 x16_2 = some r) ∧ Aside0 (kq ≤ k) ∧ Aside0 (Below w.heap.size w wc))
 case first =>
  have H := HC3.out
  clear HC3
  by_cases c4 : a0 < 1
  ·rw [if_pos c4] at H
   have c4b0 : decide (a0 < 1) = true := decide_eq_true c4
   clear c4
   (first | rw [c4b0] | (simp only [i64_w, i32_w]; rw [c4b0]) | skip)
   have H' := Aside0.mk H
   clear H
   go_wp2
   go_meet
   case rel => exact ⟨_, (true), (by first | rfl | (simp; done) | (simp [*]; done)), H', ⟨by first | omega | exact Nat.le_refl _⟩, ⟨by repeat (first | (with_reducible first | exact HB.out | apply below_alloc | apply pw_below_drewN | apply below_drew1) | exact HB.out)⟩⟩
  ·rw [if_neg c4] at H
   have c4b0 : decide (a0 < 1) = false := decide_eq_false c4
   clear c4
   (first | rw [c4b0] | (simp only [i64_w, i32_w]; rw [c4b0]) | skip)
   have H' := Aside0.mk H
   clear H
   go_wp2
   go_meet
   case rel => exact ⟨_, (decide (a0 > 1000)), (by first | rfl | (simp; done) | (simp [*]; done)), H', ⟨by first | omega | exact Nat.le_refl _⟩, ⟨by repeat (first | (with_reducible first | exact HB.out | apply below_alloc | apply pw_below_drewN | apply below_drew1) | exact HB.out)⟩⟩
 case rest =>
  clear HC3
  try clear c1
  try clear p2
  try clear c4
  try clear c4b0
  obtain ⟨kq, x16_2, rfl, HA, HJ2, HB⟩ := hcut
  cases kq with
  | zero => exact absurd HA.out (by simp [mark_Length.j0])
  | succ kj2 =>
   have H := HA.out
   clear HA
   simp only [mark_Length.j0] at H
   have HC5 := Aside0.mk H
   clear H
   go_upto_if 16 with (fail)
   go_cut [0] (fun v0 wc => ∃ (kq : Nat) (x0_4 : Int), v0 = .int .i64 x0_4 ∧ Aside0 (mark_Length.j1 kq x0_4 l1 = some r) ∧ Aside0 (kq ≤ kj2) ∧ Aside0 (Below w.heap.size w wc))
   case first =>
    have H := HC5.out
    clear HC5
    by_cases c6 : x16_2 = true
    ·subst c6
     have H1 : (mark_Length.j1 kj2 7 l1) = some r := by rw [if_pos rfl] at H; exact H
     clear H
     have H := H1
     clear H1
     have H' := Aside0.mk H
     clear H
     go_wp2
     go_meet
     case rel => exact ⟨_, (7), (by first | rfl | (simp; done) | (simp [*]; done)), H', ⟨by have := HJ2.out; first | omega | exact Nat.le_refl _⟩, ⟨by repeat (first | (with_reducible first | exact HB.out | apply below_alloc | apply pw_below_drewN | apply below_drew1) | exact HB.out)⟩⟩
    ·replace c6 := Bool.eq_false_iff.mpr c6
     subst c6
     have H1 : (mark_Length.j1 kj2 a0 l1) = some r := by rw [if_neg (show ¬ (false = true) by decide)] at H; exact H
     clear H
     have H := H1
     clear H1
     have H' := Aside0.mk H
     clear H
     go_wp2
     go_meet
     case rel => exact ⟨_, (a0), (by first | rfl | (simp; done) | (simp [*]; done)), H', ⟨by have := HJ2.out; first | omega | exact Nat.le_refl _⟩, ⟨by repeat (first | (with_reducible first | exact HB.out | apply below_alloc | apply pw_below_drewN | apply below_drew1) | exact HB.out)⟩⟩
   case rest =>
    clear HC5
    try clear c1
    try clear p2
    try clear c4
    try clear c4b0
    try clear c6
    try clear p2
    obtain ⟨kq, x0_4, rfl, HA, HJ4, HB⟩ := hcut
    cases kq with
    | zero => exact absurd HA.out (by simp [mark_Length.j1])
    | succ kj4 =>
     have H := HA.out
     clear HA
     simp only [mark_Length.j1] at H
     have H' := Aside0.mk H
     clear H
     go_wp2
     go_loopg [0, 19] kj4 (fun kq v0 v19 w' => ∃ (x0_3 : Int) (x19_3 : Int), v0 = .int .i64 x0_3 ∧ v19 = .int .i64 x19_3 ∧ Aside0 (mark_Length.l0 kq x0_3 l1 (l1.length : Int) x19_3 = some r) ∧ Aside0 (kq ≤ kj4) ∧ Aside0 (Below w.heap.size w w'))
     case atStart => exact ⟨(x0_4), (0), (by first | rfl | (simp; done) | (simp [*]; done)), (by first | rfl | (simp; done) | (simp [*]; done)), H', ⟨Nat.le_refl _⟩, ⟨by repeat (first | (with_reducible first | exact HB.out | apply below_alloc | apply pw_below_drewN | apply below_drew1) | exact HB.out)⟩⟩
     case round =>
      clear H'
      try clear c1
      try clear p2
      try clear c4
      try clear c4b0
      try clear c6
      try clear p2
      obtain ⟨x0_3, x19_3, rfl, rfl, HA, HK3, HB⟩ := hrel
      cases gk with
      | zero => exact absurd HA.out (by simp [mark_Length.l0])
      | succ k3 =>
       have H := HA.out
       clear HA
       simp only [mark_Length.l0] at H
       by_cases c7 : x19_3 < (l1.length : Int)
       ·rw [if_pos c7] at H
        have c7b0 : decide (x19_3 < (l1.length : Int)) = true := decide_eq_true c7
        clear c7
        by_cases c8 : 0 ≤ x19_3
        ·rw [if_pos c8] at H
         have c8b0 : decide (0 ≤ x19_3) = true := decide_eq_true c8
         clear c8
         by_cases c9 : x19_3 < (l1.length : Int)
         ·rw [if_pos c9] at H
          have c9b0 : decide (x19_3 < (l1.length : Int)) = true := decide_eq_true c9
          clear c9
          replace H := Option.bind_eq_some_iff.mp H
          obtain ⟨t151, A100, H⟩ := H
          replace H : (mark_Length.l1 k3 x0_3 l1 (l1.length : Int) x19_3 t151 (t151.length : Int) 0) = some r := H
          have A10 := Aside0.mk A100
          clear A100
          have H' := Aside0.mk H
          clear H
          have p150 : 0 ≤ (x19_3 : Int) := of_decide_eq_true (by first | (with_reducible assumption) | assumption)
          have q150 : x19_3 < (l1.length : Int) := of_decide_eq_true (by first | (with_reducible assumption) | assumption)
          obtain ⟨ad150, A150_0, c150_0, e150, hx150_0, hl150_0, hi150_0⟩ := at_L1 HR1.out x19_3 p150 q150
          cases e150
          replace hx150_0 := (HB.out.cell (World.block_lt_of_cell? w _ hx150_0)).trans hx150_0
          have HR150_0 := Aside0.mk hi150_0
          have HC150_0 := Aside0.mk hl150_0
          clear hi150_0 hl150_0
          replace p150 := eq_true p150
          replace q150 := eq_true q150
          go_wp2_with (first | ((with_reducible refine gate_callee (f := 25) rfl ?_); refine goesL_ (some 24) rfl rfl Tryd.func25 (by kernel_rfl) rfl #[.slice A150_0 (rd_L1 l1 x19_3).length c150_0] rfl (by (try simp only [List.map_toArray, List.map_cons, List.map_nil]); first | done | rfl | (simp only [List.length_drop, List.length_take]; rfl)) ?_; (with_reducible refine (line_Split.calls _ _ (rd_L1 l1 x19_3) t151 _ ?side1 ?side2 A10.out).mono ?_); (case side1 => repeat (first | exact (Kd.C_below HR150_0.out HB.out) | (with_reducible refine Kd.C_alloc ?_ _) | (with_reducible refine Kd.C_drewN ?_ _) | (with_reducible refine Kd.C_drew ?_))); (case side2 => exact HC150_0.out); rintro e w11 ⟨v152, rfl, ho0, hb⟩; refine ⟨_, rfl, ?_⟩; have n0_ := Aside0.mk (Kd.N_lower (Kd.N_mono (ok' := fun k_ => True) ho0 (fun k_ hk_ => trivial)) (below_size (by repeat (first | (with_reducible first | exact HB.out | apply below_alloc | apply pw_below_drewN | apply below_drew1) | exact HB.out)))); have n1_ := Aside0.mk (below_step (by repeat (first | (with_reducible first | exact HB.out | apply below_alloc | apply pw_below_drewN | apply below_drew1) | exact HB.out)) hb); clear HB; have HO153 := n0_; have HB := n1_; clear n0_ n1_; (try clear hb); (try clear hb2); (try clear hk); (try clear hi); (try clear ho0); obtain ⟨Ao12, co12, eo12⟩ := Kd.N_slice HO153.out; subst eo12))
          go_loopg [0, 26] k3 (fun kq v0 v26 w' => ∃ (x0_4 : Int) (x26_4 : Int), v0 = .int .i64 x0_4 ∧ v26 = .int .i64 x26_4 ∧ Aside0 (mark_Length.l1 kq x0_4 l1 (l1.length : Int) x19_3 t151 (t151.length : Int) x26_4 = some r) ∧ Aside0 (kq ≤ k3) ∧ Aside0 (Kd.N (Kd.slice 5 (Kd.int .u8)) 22 w' w.heap.size (fun _ => True) (.slice Ao12 t151.length co12) t151) ∧ Aside0 (Below w.heap.size w w'))
          case atStart => exact ⟨(x0_3), (0), (by first | rfl | (simp; done) | (simp [*]; done)), (by first | rfl | (simp; done) | (simp [*]; done)), H', ⟨Nat.le_refl _⟩, ⟨by (with_reducible repeat (first | apply Kd.N_alloc | apply Kd.N_drewN | apply Kd.N_drew)); exact HO153.out⟩, ⟨by repeat (first | (with_reducible first | exact HB.out | apply below_alloc | apply pw_below_drewN | apply below_drew1) | exact HB.out)⟩⟩
          case round =>
           clear H'
           try clear c1
           try clear p1
           try clear q1
           try clear hx1
           try clear c2
           try clear p2
           try clear c4
           try clear c4b0
           try clear c6
           try clear c7
           try clear c7b0
           try clear c8
           try clear c8b0
           try clear c9
           try clear c9b0
           try clear hx150_0
           try clear p150
           try clear p2
           try clear q150
           obtain ⟨x0_4, x26_4, rfl, rfl, HA, HK4, HO_24, HB⟩ := hrel
           cases gk with
           | zero => exact absurd HA.out (by simp [mark_Length.l1])
           | succ k4 =>
            have H := HA.out
            clear HA
            simp only [mark_Length.l1] at H
            by_cases c13 : x26_4 < (t151.length : Int)
            ·rw [if_pos c13] at H
             have c13b0 : decide (x26_4 < (t151.length : Int)) = true := decide_eq_true c13
             clear c13
             by_cases c14 : 0 ≤ x26_4
             ·rw [if_pos c14] at H
              have c14b0 : decide (0 ≤ x26_4) = true := decide_eq_true c14
              clear c14
              by_cases c15 : x26_4 < (t151.length : Int)
              ·rw [if_pos c15] at H
               have c15b0 : decide (x26_4 < (t151.length : Int)) = true := decide_eq_true c15
               clear c15
               replace H := Option.bind_eq_some_iff.mp H
               obtain ⟨⟨t155, t156⟩, A160, H⟩ := H
               replace H : (if t155 > 0 then (mark_Length.l1 k4 (mx x0_4 (wrap64 (t155 + 1))) l1 (l1.length : Int) x19_3 t151 (t151.length : Int) (wrap64 (x26_4 + 1))) else (mark_Length.l1 k4 x0_4 l1 (l1.length : Int) x19_3 t151 (t151.length : Int) (wrap64 (x26_4 + 1)))) = some r := H
               have A16 := Aside0.mk A160
               clear A160
               by_cases c17 : t155 > 0
               ·rw [if_pos c17] at H
                have c17b0 : decide (0 < t155) = true := decide_eq_true c17
                clear c17
                obtain ⟨ji18, hji18⟩ : ∃ j_ : Int, (mx x0_4 (wrap64 (t155 + 1))) = j_ := ⟨_, rfl⟩
                replace H : (mark_Length.l1 k4 ji18 l1 (l1.length : Int) x19_3 t151 (t151.length : Int) (wrap64 (x26_4 + 1))) = some r := by first | (rw [hji18] at H; exact H) | (simp only [hji18] at H ⊢; exact H)
                (try rw [hji18] at A16)
                have hji18_ : (if x0_4 < (wrap64 (t155 + 1)) then (wrap64 (t155 + 1)) else x0_4) = ji18 := hji18
                have H' := Aside0.mk H
                clear H
                have p154 : 0 ≤ (x26_4 : Int) := of_decide_eq_true (by first | (with_reducible assumption) | assumption)
                have q154 : x26_4 < (t151.length : Int) := of_decide_eq_true (by first | (with_reducible assumption) | assumption)
                obtain ⟨ad154, A154_0, c154_0, e154, hx154_0, hl154_0, hi154_0⟩ := at_L1 (Kd.N_reads' HO_24.out).2.2 x26_4 p154 q154
                cases e154
                obtain ⟨ce154, hce154, hMe154, hcc154⟩ := Kd.N_get HO_24.out [] x26_4 p154 (by first | exact q154 | exact of_decide_eq_true (by first | (with_reducible assumption) | assumption) | (have e_ := (Kd.N_reads' HO_24.out).1; omega))
                obtain ⟨ua154_0, uc154_0, rfl, ul154_0, ge154_0⟩ := Kd.FK_slice_open hMe154
                have hv154_0 := hcc154 0 _ rfl
                rw [Nat.add_zero, show ((Kd.slice 5 (Kd.int .u8))).sz = 1 from rfl, Nat.mul_one] at hv154_0
                replace hv154_0 := Option.some.inj (hv154_0.symm.trans hx154_0)
                injection hv154_0 with hva_ hvn_ hvc_
                rw [hva_] at ge154_0
                rw [hvc_] at ul154_0
                have HL154_0 := Aside0.mk (show Kd.V (Kd.int .u8) 5 _ w.heap.size _ _ (rd_L1 t151 x26_4) from Kd.V_mk ul154_0 ge154_0)
                clear hva_ hvn_ hvc_ ge154_0 ul154_0
                clear hcc154 hce154
                have HR154_0 := Aside0.mk hi154_0
                have HC154_0 := Aside0.mk hl154_0
                clear hi154_0 hl154_0
                replace p154 := eq_true p154
                replace q154 := eq_true q154
                go_wp2_with (first | ((with_reducible refine gate_callee (f := 31) rfl ?_); refine goesL_ (some 32) rfl rfl Tryd.func31 (by kernel_rfl) rfl #[.slice A154_0 (rd_L1 t151 x26_4).length c154_0] rfl (by (try simp only [List.map_toArray, List.map_cons, List.map_nil]); first | done | rfl | (simp only [List.length_drop, List.length_take]; rfl)) ?_; (with_reducible refine (mark_signs.calls k4 _ _ (rd_L1 t151 x26_4) t155 t156 _ ?side1 ?side2 A16.out).mono ?_); (case side1 => repeat (first | exact (by repeat (first | (with_reducible exact HR154_0.out) | (with_reducible refine Kd.C_alloc ?_ _) | (with_reducible refine Kd.C_drewN ?_ _) | (with_reducible refine Kd.C_drew ?_) | exact HR154_0.out)) | (with_reducible refine Kd.C_alloc ?_ _) | (with_reducible refine Kd.C_drewN ?_ _) | (with_reducible refine Kd.C_drew ?_))); (case side2 => exact HC154_0.out); rintro e w19 ⟨rfl, hb⟩; refine ⟨_, rfl, ?_⟩; have n0_ := Aside0.mk (Kd.N_below (by (with_reducible repeat (first | apply Kd.N_alloc | apply Kd.N_drewN | apply Kd.N_drew)); exact HO_24.out) hb); have n1_ := Aside0.mk (Kd.V_below (by (with_reducible repeat (first | apply Kd.V_alloc | apply Kd.V_drewN | apply Kd.V_drew)); exact HL154_0.out) hb); have n2_ := Aside0.mk (Kd.C_below (by repeat (first | (with_reducible exact HR154_0.out) | (with_reducible refine Kd.C_alloc ?_ _) | (with_reducible refine Kd.C_drewN ?_ _) | (with_reducible refine Kd.C_drew ?_) | exact HR154_0.out)) hb); have n3_ := Aside0.mk (below_step (by repeat (first | (with_reducible first | exact HB.out | apply below_alloc | apply pw_below_drewN | apply below_drew1) | exact HB.out)) hb); clear HO_24; clear HL154_0; clear HR154_0; clear HB; have HO_24 := n0_; have HL154_0 := n1_; have HR154_0 := n2_; have HB := n3_; clear n0_ n1_ n2_ n3_; (try clear hb); (try clear hb2); (try clear hk); (try clear hi)))
                go_roundg k4
                case measure => have := HJ2.out; have := HJ4.out; have := HK3.out; have := HK4.out; omega
                case rel => exact ⟨(ji18), (wrap64 (x26_4 + 1)), (by first | rfl | (simp; done) | (simp only [← hji18] <;> (first | rfl | simp)) | (simp [*]; done)), (by first | rfl | (simp; done) | (simp [*]; done)), H', ⟨by have := HJ2.out; have := HJ4.out; have := HK3.out; have := HK4.out; omega⟩, ⟨by (with_reducible repeat (first | apply Kd.N_alloc | apply Kd.N_drewN | apply Kd.N_drew)); exact HO_24.out⟩, ⟨by repeat (first | (with_reducible first | exact HB.out | apply below_alloc | apply pw_below_drewN | apply below_drew1) | exact HB.out)⟩⟩
               ·rw [if_neg c17] at H
                have c17b0 : decide (0 < t155) = false := decide_eq_false c17
                clear c17
                have H' := Aside0.mk H
                clear H
                (try clear hx154_0)
                (repeat (first | clear HS0_ | clear HS1_ | clear HS2_ | clear HS3_ | clear HS4_ | clear HS5_ | clear HS6_ | clear HS7_ | clear HS8_ | clear HS9_ | clear HS10_ | clear HS11_ | clear HS12_ | clear HS13_ | clear HS14_ | clear HS15_ | clear HS16_ | clear HS17_ | clear HS18_ | clear HS19_ | clear HS20_ | clear HS21_ | clear HS22_ | clear HS23_))
                (try clear hHeld)
                have p154 : 0 ≤ (x26_4 : Int) := of_decide_eq_true (by first | (with_reducible assumption) | assumption)
                have q154 : x26_4 < (t151.length : Int) := of_decide_eq_true (by first | (with_reducible assumption) | assumption)
                obtain ⟨ad154, A154_0, c154_0, e154, hx154_0, hl154_0, hi154_0⟩ := at_L1 (Kd.N_reads' HO_24.out).2.2 x26_4 p154 q154
                cases e154
                obtain ⟨ce154, hce154, hMe154, hcc154⟩ := Kd.N_get HO_24.out [] x26_4 p154 (by first | exact q154 | exact of_decide_eq_true (by first | (with_reducible assumption) | assumption) | (have e_ := (Kd.N_reads' HO_24.out).1; omega))
                obtain ⟨ua154_0, uc154_0, rfl, ul154_0, ge154_0⟩ := Kd.FK_slice_open hMe154
                have hv154_0 := hcc154 0 _ rfl
                rw [Nat.add_zero, show ((Kd.slice 5 (Kd.int .u8))).sz = 1 from rfl, Nat.mul_one] at hv154_0
                replace hv154_0 := Option.some.inj (hv154_0.symm.trans hx154_0)
                injection hv154_0 with hva_ hvn_ hvc_
                rw [hva_] at ge154_0
                rw [hvc_] at ul154_0
                have HL154_0 := Aside0.mk (show Kd.V (Kd.int .u8) 5 _ w.heap.size _ _ (rd_L1 t151 x26_4) from Kd.V_mk ul154_0 ge154_0)
                clear hva_ hvn_ hvc_ ge154_0 ul154_0
                clear hcc154 hce154
                have HR154_0 := Aside0.mk hi154_0
                have HC154_0 := Aside0.mk hl154_0
                clear hi154_0 hl154_0
                replace p154 := eq_true p154
                replace q154 := eq_true q154
                go_wp2_with (first | ((with_reducible refine gate_callee (f := 31) rfl ?_); refine goesL_ (some 32) rfl rfl Tryd.func31 (by kernel_rfl) rfl #[.slice A154_0 (rd_L1 t151 x26_4).length c154_0] rfl (by (try simp only [List.map_toArray, List.map_cons, List.map_nil]); first | done | rfl | (simp only [List.length_drop, List.length_take]; rfl)) ?_; (with_reducible refine (mark_signs.calls k4 _ _ (rd_L1 t151 x26_4) t155 t156 _ ?side1 ?side2 A16.out).mono ?_); (case side1 => repeat (first | exact (by repeat (first | (with_reducible exact HR154_0.out) | (with_reducible refine Kd.C_alloc ?_ _) | (with_reducible refine Kd.C_drewN ?_ _) | (with_reducible refine Kd.C_drew ?_) | exact HR154_0.out)) | (with_reducible refine Kd.C_alloc ?_ _) | (with_reducible refine Kd.C_drewN ?_ _) | (with_reducible refine Kd.C_drew ?_))); (case side2 => exact HC154_0.out); rintro e w20 ⟨rfl, hb⟩; refine ⟨_, rfl, ?_⟩; have n0_ := Aside0.mk (Kd.N_below (by (with_reducible repeat (first | apply Kd.N_alloc | apply Kd.N_drewN | apply Kd.N_drew)); exact HO_24.out) hb); have n1_ := Aside0.mk (Kd.V_below (by (with_reducible repeat (first | apply Kd.V_alloc | apply Kd.V_drewN | apply Kd.V_drew)); exact HL154_0.out) hb); have n2_ := Aside0.mk (Kd.C_below (by repeat (first | (with_reducible exact HR154_0.out) | (with_reducible refine Kd.C_alloc ?_ _) | (with_reducible refine Kd.C_drewN ?_ _) | (with_reducible refine Kd.C_drew ?_) | exact HR154_0.out)) hb); have n3_ := Aside0.mk (below_step (by repeat (first | (with_reducible first | exact HB.out | apply below_alloc | apply pw_below_drewN | apply below_drew1) | exact HB.out)) hb); clear HO_24; clear HL154_0; clear HR154_0; clear HB; have HO_24 := n0_; have HL154_0 := n1_; have HR154_0 := n2_; have HB := n3_; clear n0_ n1_ n2_ n3_; (try clear hb); (try clear hb2); (try clear hk); (try clear hi)))
                go_roundg k4
                case measure => have := HJ2.out; have := HJ4.out; have := HK3.out; have := HK4.out; omega
                case rel => exact ⟨(x0_4), (wrap64 (x26_4 + 1)), (by first | rfl | (simp; done) | (simp [*]; done)), (by first | rfl | (simp; done) | (simp [*]; done)), H', ⟨by have := HJ2.out; have := HJ4.out; have := HK3.out; have := HK4.out; omega⟩, ⟨by (with_reducible repeat (first | apply Kd.N_alloc | apply Kd.N_drewN | apply Kd.N_drew)); exact HO_24.out⟩, ⟨by repeat (first | (with_reducible first | exact HB.out | apply below_alloc | apply pw_below_drewN | apply below_drew1) | exact HB.out)⟩⟩
              ·rw [if_neg c15] at H
               exact absurd H (by simp)
             ·rw [if_neg c14] at H
              exact absurd H (by simp)
            ·rw [if_neg c13] at H
             have c13b0 : decide (x26_4 < (t151.length : Int)) = false := decide_eq_false c13
             clear c13
             have H' := Aside0.mk H
             clear H
             go_wp2
             go_roundg k4
             case measure => have := HJ2.out; have := HJ4.out; have := HK3.out; have := HK4.out; omega
             case rel => exact ⟨(x0_4), (wrap64 (x19_3 + 1)), (by first | rfl | (simp; done) | (simp [*]; done)), (by first | rfl | (simp; done) | (simp [*]; done)), H', ⟨by have := HJ2.out; have := HJ4.out; have := HK3.out; have := HK4.out; omega⟩, ⟨by repeat (first | (with_reducible first | exact HB.out | apply below_alloc | apply pw_below_drewN | apply below_drew1) | exact HB.out)⟩⟩
         ·rw [if_neg c9] at H
          exact absurd H (by simp)
        ·rw [if_neg c8] at H
         exact absurd H (by simp)
       ·rw [if_neg c7] at H
        have c7b0 : decide (x19_3 < (l1.length : Int)) = false := decide_eq_false c7
        clear c7
        obtain rfl := Option.some.inj H
        go_wp2
        go_ret
        exact ⟨by first | rfl | (simp [errW_none, errW_some] <;> rfl) | (simp [*, errW_none, errW_some] <;> rfl), by repeat (first | (with_reducible first | exact HB.out | apply below_alloc | apply pw_below_drewN | apply below_drew1) | exact HB.out)⟩
/-! ### scarfref18_Length: function 17 -/
mutual
def scarfref18_Length.j0 : Nat → Int → List (List Int) → Int → Bool → Option (Int)
 | 0, _, _, _, _ => none
 | k + 1, x0, x1, x5, x15 => if x15 = true then (scarfref18_Length.j1 k x1 x0) else (scarfref18_Length.j1 k x1 x5)
def scarfref18_Length.j1 : Nat → List (List Int) → Int → Option (Int)
 | 0, _, _ => none
 | k + 1, x1, x5 => scarfref18_Length.l0 k x1 x5 0
def scarfref18_Length.l0 : Nat → List (List Int) → Int → Int → Option (Int)
 | 0, _, _, _ => none
 | k + 1, x1, x5, x6 => if x6 < (x1.length : Int) then (if 0 ≤ x6 then ((scarfref02_Split.f k (rd_L1 x1 x6)).bind fun t158 => (scarfref18_Length.l1 k x1 x5 x6 t158 0)) else (none)) else (some x5)
def scarfref18_Length.l1 : Nat → List (List Int) → Int → Int → List (List Int) → Int → Option (Int)
 | 0, _, _, _, _, _ => none
 | k + 1, x1, x5, x6, x7, x8 => if x8 < (x7.length : Int) then (if 0 ≤ x8 then ((scarfref18_runs.f k (rd_L1 x7 x8)).bind fun t162 => (if t162 > 0 then (if t162 ≥ x5 then (scarfref18_Length.l1 k x1 (wrap64 (t162 + 1)) x6 x7 (wrap64 (x8 + 1))) else (scarfref18_Length.l1 k x1 x5 x6 x7 (wrap64 (x8 + 1)))) else (scarfref18_Length.l1 k x1 x5 x6 x7 (wrap64 (x8 + 1))))) else (none)) else (scarfref18_Length.l0 k x1 x5 (wrap64 (x6 + 1)))
end
def scarfref18_Length.f (k : Nat) (a0 : Int) (l1 : List (List Int)) : Option (Int) := if a0 ≥ 1 then (scarfref18_Length.j0 k a0 l1 7 (decide (a0 ≤ 1000))) else (scarfref18_Length.j0 k a0 l1 7 false)
theorem scarfref18_Length.mono_l : ∀ k, (∀ y0 y1 y2 y3, LeO (scarfref18_Length.j0 k y0 y1 y2 y3) (scarfref18_Length.j0 (k + 1) y0 y1 y2 y3)) ∧ (∀ y0 y1, LeO (scarfref18_Length.j1 k y0 y1) (scarfref18_Length.j1 (k + 1) y0 y1)) ∧ (∀ y0 y1 y2, LeO (scarfref18_Length.l0 k y0 y1 y2) (scarfref18_Length.l0 (k + 1) y0 y1 y2)) ∧ (∀ y0 y1 y2 y3 y4, LeO (scarfref18_Length.l1 k y0 y1 y2 y3 y4) (scarfref18_Length.l1 (k + 1) y0 y1 y2 y3 y4))
 | 0 => ⟨fun _ _ _ _ r h => by simp [scarfref18_Length.j0] at h, fun _ _ r h => by simp [scarfref18_Length.j1] at h, fun _ _ _ r h => by simp [scarfref18_Length.l0] at h, fun _ _ _ _ _ r h => by simp [scarfref18_Length.l1] at h⟩
 | k + 1 => by
  obtain ⟨ih0, ih1, ih2, ih3⟩ := scarfref18_Length.mono_l k
  refine ⟨?_, ?_, ?_, ?_⟩
  ·intro y0 y1 y2 y3
   unfold scarfref18_Length.j0
   repeat' first
   | (with_reducible exact ih0 _ _ _ _)
   | (with_reducible exact ih1 _ _)
   | (with_reducible exact ih2 _ _ _)
   | (with_reducible exact ih3 _ _ _ _ _)
   | (with_reducible exact scarfref02_Split.mono _ _)
   | (with_reducible exact scarfref18_runs.mono _ _)
   | (with_reducible exact LeO.refl _)
   | (with_reducible exact LeO.none _)
   | (with_reducible refine LeO.ite ?_ ?_)
   | (with_reducible refine LeO.bind ?_ (fun _ => ?_))
   | exact ih0 _ _ _ _
   | exact ih1 _ _
   | exact ih2 _ _ _
   | exact ih3 _ _ _ _ _
   | exact scarfref02_Split.mono _ _
   | exact scarfref18_runs.mono _ _
   | exact LeO.none _
   | refine LeO.ite ?_ ?_
   | refine LeO.bind ?_ (fun _ => ?_)
  ·intro y0 y1
   unfold scarfref18_Length.j1
   repeat' first
   | (with_reducible exact ih0 _ _ _ _)
   | (with_reducible exact ih1 _ _)
   | (with_reducible exact ih2 _ _ _)
   | (with_reducible exact ih3 _ _ _ _ _)
   | (with_reducible exact scarfref02_Split.mono _ _)
   | (with_reducible exact scarfref18_runs.mono _ _)
   | (with_reducible exact LeO.refl _)
   | (with_reducible exact LeO.none _)
   | (with_reducible refine LeO.ite ?_ ?_)
   | (with_reducible refine LeO.bind ?_ (fun _ => ?_))
   | exact ih0 _ _ _ _
   | exact ih1 _ _
   | exact ih2 _ _ _
   | exact ih3 _ _ _ _ _
   | exact scarfref02_Split.mono _ _
   | exact scarfref18_runs.mono _ _
   | exact LeO.none _
   | refine LeO.ite ?_ ?_
   | refine LeO.bind ?_ (fun _ => ?_)
  ·intro y0 y1 y2
   unfold scarfref18_Length.l0
   repeat' first
   | (with_reducible exact ih0 _ _ _ _)
   | (with_reducible exact ih1 _ _)
   | (with_reducible exact ih2 _ _ _)
   | (with_reducible exact ih3 _ _ _ _ _)
   | (with_reducible exact scarfref02_Split.mono _ _)
   | (with_reducible exact scarfref18_runs.mono _ _)
   | (with_reducible exact LeO.refl _)
   | (with_reducible exact LeO.none _)
   | (with_reducible refine LeO.ite ?_ ?_)
   | (with_reducible refine LeO.bind ?_ (fun _ => ?_))
   | exact ih0 _ _ _ _
   | exact ih1 _ _
   | exact ih2 _ _ _
   | exact ih3 _ _ _ _ _
   | exact scarfref02_Split.mono _ _
   | exact scarfref18_runs.mono _ _
   | exact LeO.none _
   | refine LeO.ite ?_ ?_
   | refine LeO.bind ?_ (fun _ => ?_)
  ·intro y0 y1 y2 y3 y4
   unfold scarfref18_Length.l1
   repeat' first
   | (with_reducible exact ih0 _ _ _ _)
   | (with_reducible exact ih1 _ _)
   | (with_reducible exact ih2 _ _ _)
   | (with_reducible exact ih3 _ _ _ _ _)
   | (with_reducible exact scarfref02_Split.mono _ _)
   | (with_reducible exact scarfref18_runs.mono _ _)
   | (with_reducible exact LeO.refl _)
   | (with_reducible exact LeO.none _)
   | (with_reducible refine LeO.ite ?_ ?_)
   | (with_reducible refine LeO.bind ?_ (fun _ => ?_))
   | exact ih0 _ _ _ _
   | exact ih1 _ _
   | exact ih2 _ _ _
   | exact ih3 _ _ _ _ _
   | exact scarfref02_Split.mono _ _
   | exact scarfref18_runs.mono _ _
   | exact LeO.none _
   | refine LeO.ite ?_ ?_
   | refine LeO.bind ?_ (fun _ => ?_)
theorem scarfref18_Length.mono : ∀ a0 a1 k, LeO (scarfref18_Length.f k a0 a1) (scarfref18_Length.f (k + 1) a0 a1) := by
 intro a0 a1 k
 obtain ⟨ih0, ih1, ih2, ih3⟩ := scarfref18_Length.mono_l k
 unfold scarfref18_Length.f
 repeat' first
   | (with_reducible exact ih0 _ _ _ _)
   | (with_reducible exact ih1 _ _)
   | (with_reducible exact ih2 _ _ _)
   | (with_reducible exact ih3 _ _ _ _ _)
   | (with_reducible exact scarfref02_Split.mono _ _)
   | (with_reducible exact scarfref18_runs.mono _ _)
   | (with_reducible exact LeO.refl _)
   | (with_reducible exact LeO.none _)
   | (with_reducible refine LeO.ite ?_ ?_)
   | (with_reducible refine LeO.bind ?_ (fun _ => ?_))
   | exact ih0 _ _ _ _
   | exact ih1 _ _
   | exact ih2 _ _ _
   | exact ih3 _ _ _ _ _
   | exact scarfref02_Split.mono _ _
   | exact scarfref18_runs.mono _ _
   | exact LeO.none _
   | refine LeO.ite ?_ ?_
   | refine LeO.bind ?_ (fun _ => ?_)
set_option maxHeartbeats 8000000 in
set_option maxRecDepth 100000 in
theorem scarfref18_Length.calls (k : Nat) (a0 : Int) (A1 : Option Addr) (c1 : Nat) (l1 : List (List Int)) (r : Int) (w : World) (hr1 : Kd.C (Kd.slice 5 (Kd.int .u8)) w A1 l1.length l1) (hc1 : l1.length ≤ c1) (h : scarfref18_Length.f k a0 l1 = some r) :
  Calls Tryd.prog 17 #[.int .i64 a0, .slice A1 l1.length c1] w fun e w' => e = .returned (.int .i64 r) ∧ Below w.heap.size w w' := by
 have HR1 := Aside0.mk hr1
 have HC1 := Aside0.mk hc1
 clear hr1 hc1
 have HB := Aside0.mk (Below.refl w.heap.size w)
 have H : (if a0 ≥ 1 then (scarfref18_Length.j0 k a0 l1 7 (decide (a0 ≤ 1000))) else (scarfref18_Length.j0 k a0 l1 7 false)) = some r := h
 clear h
 have HC3 := Aside0.mk H
 clear H
 go_enter Tryd.func17, Tryd.ntmps17
 go_upto_region 2 with (fail)
 go_cut [15] (fun v15 wc => ∃ (kq : Nat) (x15_2 : Bool), v15 = .bool x15_2 ∧ Aside0 (scarfref18_Length.j0 kq a0 l1 7 x15_2 = some r) ∧ Aside0 (kq ≤ k) ∧ Aside0 (Below w.heap.size w wc))
 case first =>
  have H := HC3.out
  clear HC3
  by_cases c4 : a0 ≥ 1
  ·rw [if_pos c4] at H
   have c4b0 : decide (1 ≤ a0) = true := decide_eq_true c4
   clear c4
   (first | rw [c4b0] | (simp only [i64_w, i32_w]; rw [c4b0]) | skip)
   have H' := Aside0.mk H
   clear H
   go_wp2
   go_meet
   case rel => exact ⟨_, (decide (a0 ≤ 1000)), (by first | rfl | (simp; done) | (simp [*]; done)), H', ⟨by first | omega | exact Nat.le_refl _⟩, ⟨by repeat (first | (with_reducible first | exact HB.out | apply below_alloc | apply pw_below_drewN | apply below_drew1) | exact HB.out)⟩⟩
  ·rw [if_neg c4] at H
   have c4b0 : decide (1 ≤ a0) = false := decide_eq_false c4
   clear c4
   (first | rw [c4b0] | (simp only [i64_w, i32_w]; rw [c4b0]) | skip)
   have H' := Aside0.mk H
   clear H
   go_wp2
   go_meet
   case rel => exact ⟨_, (false), (by first | rfl | (simp; done) | (simp [*]; done)), H', ⟨by first | omega | exact Nat.le_refl _⟩, ⟨by repeat (first | (with_reducible first | exact HB.out | apply below_alloc | apply pw_below_drewN | apply below_drew1) | exact HB.out)⟩⟩
 case rest =>
  clear HC3
  try clear c1
  try clear p2
  try clear c4
  try clear c4b0
  obtain ⟨kq, x15_2, rfl, HA, HJ2, HB⟩ := hcut
  cases kq with
  | zero => exact absurd HA.out (by simp [scarfref18_Length.j0])
  | succ kj2 =>
   have H := HA.out
   clear HA
   simp only [scarfref18_Length.j0] at H
   have HC5 := Aside0.mk H
   clear H
   go_upto_if 15 with (fail)
   go_cut [5] (fun v5 wc => ∃ (kq : Nat) (x5_4 : Int), v5 = .int .i64 x5_4 ∧ Aside0 (scarfref18_Length.j1 kq l1 x5_4 = some r) ∧ Aside0 (kq ≤ kj2) ∧ Aside0 (Below w.heap.size w wc))
   case first =>
    have H := HC5.out
    clear HC5
    by_cases c6 : x15_2 = true
    ·subst c6
     have H1 : (scarfref18_Length.j1 kj2 l1 a0) = some r := by rw [if_pos rfl] at H; exact H
     clear H
     have H := H1
     clear H1
     have H' := Aside0.mk H
     clear H
     go_wp2
     go_meet
     case rel => exact ⟨_, (a0), (by first | rfl | (simp; done) | (simp [*]; done)), H', ⟨by have := HJ2.out; first | omega | exact Nat.le_refl _⟩, ⟨by repeat (first | (with_reducible first | exact HB.out | apply below_alloc | apply pw_below_drewN | apply below_drew1) | exact HB.out)⟩⟩
    ·replace c6 := Bool.eq_false_iff.mpr c6
     subst c6
     have H1 : (scarfref18_Length.j1 kj2 l1 7) = some r := by rw [if_neg (show ¬ (false = true) by decide)] at H; exact H
     clear H
     have H := H1
     clear H1
     have H' := Aside0.mk H
     clear H
     go_wp2
     go_meet
     case rel => exact ⟨_, (7), (by first | rfl | (simp; done) | (simp [*]; done)), H', ⟨by have := HJ2.out; first | omega | exact Nat.le_refl _⟩, ⟨by repeat (first | (with_reducible first | exact HB.out | apply below_alloc | apply pw_below_drewN | apply below_drew1) | exact HB.out)⟩⟩
   case rest =>
    clear HC5
    try clear c1
    try clear p2
    try clear c4
    try clear c4b0
    try clear c6
    try clear p2
    obtain ⟨kq, x5_4, rfl, HA, HJ4, HB⟩ := hcut
    cases kq with
    | zero => exact absurd HA.out (by simp [scarfref18_Length.j1])
    | succ kj4 =>
     have H := HA.out
     clear HA
     simp only [scarfref18_Length.j1] at H
     have H' := Aside0.mk H
     clear H
     go_wp2
     go_loopg [5, 6] kj4 (fun kq v5 v6 w' => ∃ (x5_3 : Int) (x6_3 : Int), v5 = .int .i64 x5_3 ∧ v6 = .int .i64 x6_3 ∧ Aside0 (scarfref18_Length.l0 kq l1 x5_3 x6_3 = some r) ∧ Aside0 (kq ≤ kj4) ∧ Aside0 (Below w.heap.size w w'))
     case atStart => exact ⟨(x5_4), (0), (by first | rfl | (simp; done) | (simp [*]; done)), (by first | rfl | (simp; done) | (simp [*]; done)), H', ⟨Nat.le_refl _⟩, ⟨by repeat (first | (with_reducible first | exact HB.out | apply below_alloc | apply pw_below_drewN | apply below_drew1) | exact HB.out)⟩⟩
     case round =>
      clear H'
      try clear c1
      try clear p2
      try clear c4
      try clear c4b0
      try clear c6
      try clear p2
      obtain ⟨x5_3, x6_3, rfl, rfl, HA, HK3, HB⟩ := hrel
      cases gk with
      | zero => exact absurd HA.out (by simp [scarfref18_Length.l0])
      | succ k3 =>
       have H := HA.out
       clear HA
       simp only [scarfref18_Length.l0] at H
       by_cases c7 : x6_3 < (l1.length : Int)
       ·rw [if_pos c7] at H
        have c7b0 : decide (x6_3 < (l1.length : Int)) = true := decide_eq_true c7
        clear c7
        by_cases c8 : 0 ≤ x6_3
        ·rw [if_pos c8] at H
         have c8b0 : decide (0 ≤ x6_3) = true := decide_eq_true c8
         clear c8
         replace H := Option.bind_eq_some_iff.mp H
         obtain ⟨t158, A90, H⟩ := H
         replace H : (scarfref18_Length.l1 k3 l1 x5_3 x6_3 t158 0) = some r := H
         have A9 := Aside0.mk A90
         clear A90
         have H' := Aside0.mk H
         clear H
         have p157 : 0 ≤ (x6_3 : Int) := of_decide_eq_true (by first | (with_reducible assumption) | assumption)
         have q157 : x6_3 < (l1.length : Int) := of_decide_eq_true (by first | (with_reducible assumption) | assumption)
         obtain ⟨ad157, A157_0, c157_0, e157, hx157_0, hl157_0, hi157_0⟩ := at_L1 HR1.out x6_3 p157 q157
         cases e157
         replace hx157_0 := (HB.out.cell (World.block_lt_of_cell? w _ hx157_0)).trans hx157_0
         have HR157_0 := Aside0.mk hi157_0
         have HC157_0 := Aside0.mk hl157_0
         clear hi157_0 hl157_0
         replace p157 := eq_true p157
         replace q157 := eq_true q157
         go_wp2_with (first | ((with_reducible refine gate_callee (f := 27) rfl ?_); refine goesL_ (some 27) rfl rfl Tryd.func27 (by kernel_rfl) rfl #[.slice A157_0 (rd_L1 l1 x6_3).length c157_0] rfl (by (try simp only [List.map_toArray, List.map_cons, List.map_nil]); first | done | rfl | (simp only [List.length_drop, List.length_take]; rfl)) ?_; (with_reducible refine (scarfref02_Split.calls k3 _ _ (rd_L1 l1 x6_3) t158 _ ?side1 ?side2 A9.out).mono ?_); (case side1 => repeat (first | exact (Kd.C_below HR157_0.out HB.out) | (with_reducible refine Kd.C_alloc ?_ _) | (with_reducible refine Kd.C_drewN ?_ _) | (with_reducible refine Kd.C_drew ?_))); (case side2 => exact HC157_0.out); rintro e w10 ⟨v159, rfl, ho0, hb⟩; refine ⟨_, rfl, ?_⟩; have n0_ := Aside0.mk (Kd.S_lower ho0 (below_size (by repeat (first | (with_reducible first | exact HB.out | apply below_alloc | apply pw_below_drewN | apply below_drew1) | exact HB.out)))); have n1_ := Aside0.mk (below_step (by repeat (first | (with_reducible first | exact HB.out | apply below_alloc | apply pw_below_drewN | apply below_drew1) | exact HB.out)) hb); clear HB; have HO160 := n0_; have HB := n1_; clear n0_ n1_; (try clear hb); (try clear hb2); (try clear hk); (try clear hi); (try clear ho0)))
         go_loopg [5, 8] k3 (fun kq v5 v8 w' => ∃ (x5_4 : Int) (x8_4 : Int), v5 = .int .i64 x5_4 ∧ v8 = .int .i64 x8_4 ∧ Aside0 (scarfref18_Length.l1 kq l1 x5_4 x6_3 t158 x8_4 = some r) ∧ Aside0 (kq ≤ k3) ∧ Aside0 (Kd.S (Kd.slice 5 (Kd.int .u8)) 22 w' w.heap.size (fun _ => True) v159 t158) ∧ Aside0 (Below w.heap.size w w'))
         case atStart => exact ⟨(x5_3), (0), (by first | rfl | (simp; done) | (simp [*]; done)), (by first | rfl | (simp; done) | (simp [*]; done)), H', ⟨Nat.le_refl _⟩, ⟨by (with_reducible repeat (first | apply Kd.S_alloc | apply Kd.S_drewN | apply Kd.S_drew)); exact HO160.out⟩, ⟨by repeat (first | (with_reducible first | exact HB.out | apply below_alloc | apply pw_below_drewN | apply below_drew1) | exact HB.out)⟩⟩
         case round =>
          clear H'
          try clear c1
          try clear p1
          try clear q1
          try clear hx1
          try clear c2
          try clear p2
          try clear c4
          try clear c4b0
          try clear c6
          try clear c7
          try clear c7b0
          try clear c8
          try clear c8b0
          try clear hx157_0
          try clear p157
          try clear p2
          try clear q157
          obtain ⟨x5_4, x8_4, rfl, rfl, HA, HK4, HO_7, HB⟩ := hrel
          cases gk with
          | zero => exact absurd HA.out (by simp [scarfref18_Length.l1])
          | succ k4 =>
           have H := HA.out
           clear HA
           simp only [scarfref18_Length.l1] at H
           by_cases c11 : x8_4 < (t158.length : Int)
           ·rw [if_pos c11] at H
            have c11b0 : decide (x8_4 < (t158.length : Int)) = true := decide_eq_true c11
            clear c11
            by_cases c12 : 0 ≤ x8_4
            ·rw [if_pos c12] at H
             have c12b0 : decide (0 ≤ x8_4) = true := decide_eq_true c12
             clear c12
             replace H := Option.bind_eq_some_iff.mp H
             obtain ⟨t162, A130, H⟩ := H
             replace H : (if t162 > 0 then (if t162 ≥ x5_4 then (scarfref18_Length.l1 k4 l1 (wrap64 (t162 + 1)) x6_3 t158 (wrap64 (x8_4 + 1))) else (scarfref18_Length.l1 k4 l1 x5_4 x6_3 t158 (wrap64 (x8_4 + 1)))) else (scarfref18_Length.l1 k4 l1 x5_4 x6_3 t158 (wrap64 (x8_4 + 1)))) = some r := H
             have A13 := Aside0.mk A130
             clear A130
             by_cases c14 : t162 > 0
             ·rw [if_pos c14] at H
              have c14b0 : decide (0 < t162) = true := decide_eq_true c14
              clear c14
              by_cases c15 : t162 ≥ x5_4
              ·rw [if_pos c15] at H
               have c15b0 : decide (x5_4 ≤ t162) = true := decide_eq_true c15
               clear c15
               have H' := Aside0.mk H
               clear H
               obtain ⟨Ao16, co16, eo16⟩ := Kd.S_slice HO_7.out
               subst eo16
               have p161 : 0 ≤ (x8_4 : Int) := of_decide_eq_true (by first | (with_reducible assumption) | assumption)
               have q161 : x8_4 < (t158.length : Int) := of_decide_eq_true (by first | (with_reducible assumption) | assumption)
               obtain ⟨ad161, A161_0, c161_0, e161, hx161_0, hl161_0, hi161_0⟩ := at_L1 (Kd.S_reads' HO_7.out).2.2 x8_4 p161 q161
               cases e161
               obtain ⟨ce161, hce161, hMe161, hcc161⟩ := Kd.S_get HO_7.out [] x8_4 p161 (by first | exact q161 | exact of_decide_eq_true (by first | (with_reducible assumption) | assumption) | (have e_ := (Kd.S_reads' HO_7.out).1; omega))
               obtain ⟨ve161_0, rfl, ge161_0⟩ := hMe161
               have hv161_0 := hcc161 0 _ rfl
               rw [Nat.add_zero, show ((Kd.slice 5 (Kd.int .u8))).sz = 1 from rfl, Nat.mul_one] at hv161_0
               replace hv161_0 := Option.some.inj (hv161_0.symm.trans hx161_0)
               rw [hv161_0] at ge161_0
               have HL161_0 := Aside0.mk (show Kd.R (Kd.int .u8) 5 _ _ _ _ (rd_L1 t158 x8_4) from ge161_0)
               clear hv161_0 ge161_0
               clear hcc161 hce161
               have HR161_0 := Aside0.mk hi161_0
               have HC161_0 := Aside0.mk hl161_0
               clear hi161_0 hl161_0
               replace p161 := eq_true p161
               replace q161 := eq_true q161
               go_wp2_with (first | ((with_reducible refine gate_callee (f := 32) rfl ?_); refine goesL_ (some 38) rfl rfl Tryd.func32 (by kernel_rfl) rfl #[.slice A161_0 (rd_L1 t158 x8_4).length c161_0] rfl (by (try simp only [List.map_toArray, List.map_cons, List.map_nil]); first | done | rfl | (simp only [List.length_drop, List.length_take]; rfl)) ?_; (with_reducible refine (scarfref18_runs.calls k4 _ _ (rd_L1 t158 x8_4) t162 _ ?side1 ?side2 A13.out).mono ?_); (case side1 => repeat (first | exact (by repeat (first | (with_reducible exact HR161_0.out) | (with_reducible refine Kd.C_alloc ?_ _) | (with_reducible refine Kd.C_drewN ?_ _) | (with_reducible refine Kd.C_drew ?_) | exact HR161_0.out)) | (with_reducible refine Kd.C_alloc ?_ _) | (with_reducible refine Kd.C_drewN ?_ _) | (with_reducible refine Kd.C_drew ?_))); (case side2 => exact HC161_0.out); rintro e w' ⟨rfl, ⟨nd, rfl⟩⟩; refine ⟨_, rfl, ?_⟩))
               go_roundg k4
               case measure => have := HJ2.out; have := HJ4.out; have := HK3.out; have := HK4.out; omega
               case rel => exact ⟨(wrap64 (t162 + 1)), (wrap64 (x8_4 + 1)), (by first | rfl | (simp; done) | (simp [*]; done)), (by first | rfl | (simp; done) | (simp [*]; done)), H', ⟨by have := HJ2.out; have := HJ4.out; have := HK3.out; have := HK4.out; omega⟩, ⟨by (with_reducible repeat (first | apply Kd.S_alloc | apply Kd.S_drewN | apply Kd.S_drew)); exact HO_7.out⟩, ⟨by repeat (first | (with_reducible first | exact HB.out | apply below_alloc | apply pw_below_drewN | apply below_drew1) | exact HB.out)⟩⟩
              ·rw [if_neg c15] at H
               have c15b0 : decide (x5_4 ≤ t162) = false := decide_eq_false c15
               clear c15
               have H' := Aside0.mk H
               clear H
               obtain ⟨Ao17, co17, eo17⟩ := Kd.S_slice HO_7.out
               subst eo17
               (try clear hx161_0)
               (repeat (first | clear HS0_ | clear HS1_ | clear HS2_ | clear HS3_ | clear HS4_ | clear HS5_ | clear HS6_ | clear HS7_ | clear HS8_ | clear HS9_ | clear HS10_ | clear HS11_ | clear HS12_ | clear HS13_ | clear HS14_ | clear HS15_ | clear HS16_ | clear HS17_ | clear HS18_ | clear HS19_ | clear HS20_ | clear HS21_ | clear HS22_ | clear HS23_))
               (try clear hHeld)
               have p161 : 0 ≤ (x8_4 : Int) := of_decide_eq_true (by first | (with_reducible assumption) | assumption)
               have q161 : x8_4 < (t158.length : Int) := of_decide_eq_true (by first | (with_reducible assumption) | assumption)
               obtain ⟨ad161, A161_0, c161_0, e161, hx161_0, hl161_0, hi161_0⟩ := at_L1 (Kd.S_reads' HO_7.out).2.2 x8_4 p161 q161
               cases e161
               obtain ⟨ce161, hce161, hMe161, hcc161⟩ := Kd.S_get HO_7.out [] x8_4 p161 (by first | exact q161 | exact of_decide_eq_true (by first | (with_reducible assumption) | assumption) | (have e_ := (Kd.S_reads' HO_7.out).1; omega))
               obtain ⟨ve161_0, rfl, ge161_0⟩ := hMe161
               have hv161_0 := hcc161 0 _ rfl
               rw [Nat.add_zero, show ((Kd.slice 5 (Kd.int .u8))).sz = 1 from rfl, Nat.mul_one] at hv161_0
               replace hv161_0 := Option.some.inj (hv161_0.symm.trans hx161_0)
               rw [hv161_0] at ge161_0
               have HL161_0 := Aside0.mk (show Kd.R (Kd.int .u8) 5 _ _ _ _ (rd_L1 t158 x8_4) from ge161_0)
               clear hv161_0 ge161_0
               clear hcc161 hce161
               have HR161_0 := Aside0.mk hi161_0
               have HC161_0 := Aside0.mk hl161_0
               clear hi161_0 hl161_0
               replace p161 := eq_true p161
               replace q161 := eq_true q161
               go_wp2_with (first | ((with_reducible refine gate_callee (f := 32) rfl ?_); refine goesL_ (some 38) rfl rfl Tryd.func32 (by kernel_rfl) rfl #[.slice A161_0 (rd_L1 t158 x8_4).length c161_0] rfl (by (try simp only [List.map_toArray, List.map_cons, List.map_nil]); first | done | rfl | (simp only [List.length_drop, List.length_take]; rfl)) ?_; (with_reducible refine (scarfref18_runs.calls k4 _ _ (rd_L1 t158 x8_4) t162 _ ?side1 ?side2 A13.out).mono ?_); (case side1 => repeat (first | exact (by repeat (first | (with_reducible exact HR161_0.out) | (with_reducible refine Kd.C_alloc ?_ _) | (with_reducible refine Kd.C_drewN ?_ _) | (with_reducible refine Kd.C_drew ?_) | exact HR161_0.out)) | (with_reducible refine Kd.C_alloc ?_ _) | (with_reducible refine Kd.C_drewN ?_ _) | (with_reducible refine Kd.C_drew ?_))); (case side2 => exact HC161_0.out); rintro e w' ⟨rfl, ⟨nd, rfl⟩⟩; refine ⟨_, rfl, ?_⟩))
               go_roundg k4
               case measure => have := HJ2.out; have := HJ4.out; have := HK3.out; have := HK4.out; omega
               case rel => exact ⟨(x5_4), (wrap64 (x8_4 + 1)), (by first | rfl | (simp; done) | (simp [*]; done)), (by first | rfl | (simp; done) | (simp [*]; done)), H', ⟨by have := HJ2.out; have := HJ4.out; have := HK3.out; have := HK4.out; omega⟩, ⟨by (with_reducible repeat (first | apply Kd.S_alloc | apply Kd.S_drewN | apply Kd.S_drew)); exact HO_7.out⟩, ⟨by repeat (first | (with_reducible first | exact HB.out | apply below_alloc | apply pw_below_drewN | apply below_drew1) | exact HB.out)⟩⟩
             ·rw [if_neg c14] at H
              have c14b0 : decide (0 < t162) = false := decide_eq_false c14
              clear c14
              have H' := Aside0.mk H
              clear H
              obtain ⟨Ao18, co18, eo18⟩ := Kd.S_slice HO_7.out
              subst eo18
              (try clear hx161_0)
              (try clear hx161_0)
              (repeat (first | clear HS0_ | clear HS1_ | clear HS2_ | clear HS3_ | clear HS4_ | clear HS5_ | clear HS6_ | clear HS7_ | clear HS8_ | clear HS9_ | clear HS10_ | clear HS11_ | clear HS12_ | clear HS13_ | clear HS14_ | clear HS15_ | clear HS16_ | clear HS17_ | clear HS18_ | clear HS19_ | clear HS20_ | clear HS21_ | clear HS22_ | clear HS23_))
              (try clear hHeld)
              have p161 : 0 ≤ (x8_4 : Int) := of_decide_eq_true (by first | (with_reducible assumption) | assumption)
              have q161 : x8_4 < (t158.length : Int) := of_decide_eq_true (by first | (with_reducible assumption) | assumption)
              obtain ⟨ad161, A161_0, c161_0, e161, hx161_0, hl161_0, hi161_0⟩ := at_L1 (Kd.S_reads' HO_7.out).2.2 x8_4 p161 q161
              cases e161
              obtain ⟨ce161, hce161, hMe161, hcc161⟩ := Kd.S_get HO_7.out [] x8_4 p161 (by first | exact q161 | exact of_decide_eq_true (by first | (with_reducible assumption) | assumption) | (have e_ := (Kd.S_reads' HO_7.out).1; omega))
              obtain ⟨ve161_0, rfl, ge161_0⟩ := hMe161
              have hv161_0 := hcc161 0 _ rfl
              rw [Nat.add_zero, show ((Kd.slice 5 (Kd.int .u8))).sz = 1 from rfl, Nat.mul_one] at hv161_0
              replace hv161_0 := Option.some.inj (hv161_0.symm.trans hx161_0)
              rw [hv161_0] at ge161_0
              have HL161_0 := Aside0.mk (show Kd.R (Kd.int .u8) 5 _ _ _ _ (rd_L1 t158 x8_4) from ge161_0)
              clear hv161_0 ge161_0
              clear hcc161 hce161
              have HR161_0 := Aside0.mk hi161_0
              have HC161_0 := Aside0.mk hl161_0
              clear hi161_0 hl161_0
              replace p161 := eq_true p161
              replace q161 := eq_true q161
              go_wp2_with (first | ((with_reducible refine gate_callee (f := 32) rfl ?_); refine goesL_ (some 38) rfl rfl Tryd.func32 (by kernel_rfl) rfl #[.slice A161_0 (rd_L1 t158 x8_4).length c161_0] rfl (by (try simp only [List.map_toArray, List.map_cons, List.map_nil]); first | done | rfl | (simp only [List.length_drop, List.length_take]; rfl)) ?_; (with_reducible refine (scarfref18_runs.calls k4 _ _ (rd_L1 t158 x8_4) t162 _ ?side1 ?side2 A13.out).mono ?_); (case side1 => repeat (first | exact (by repeat (first | (with_reducible exact HR161_0.out) | (with_reducible refine Kd.C_alloc ?_ _) | (with_reducible refine Kd.C_drewN ?_ _) | (with_reducible refine Kd.C_drew ?_) | exact HR161_0.out)) | (with_reducible refine Kd.C_alloc ?_ _) | (with_reducible refine Kd.C_drewN ?_ _) | (with_reducible refine Kd.C_drew ?_))); (case side2 => exact HC161_0.out); rintro e w' ⟨rfl, ⟨nd, rfl⟩⟩; refine ⟨_, rfl, ?_⟩))
              go_roundg k4
              case measure => have := HJ2.out; have := HJ4.out; have := HK3.out; have := HK4.out; omega
              case rel => exact ⟨(x5_4), (wrap64 (x8_4 + 1)), (by first | rfl | (simp; done) | (simp [*]; done)), (by first | rfl | (simp; done) | (simp [*]; done)), H', ⟨by have := HJ2.out; have := HJ4.out; have := HK3.out; have := HK4.out; omega⟩, ⟨by (with_reducible repeat (first | apply Kd.S_alloc | apply Kd.S_drewN | apply Kd.S_drew)); exact HO_7.out⟩, ⟨by repeat (first | (with_reducible first | exact HB.out | apply below_alloc | apply pw_below_drewN | apply below_drew1) | exact HB.out)⟩⟩
            ·rw [if_neg c12] at H
             exact absurd H (by simp)
           ·rw [if_neg c11] at H
            have c11b0 : decide (x8_4 < (t158.length : Int)) = false := decide_eq_false c11
            clear c11
            have H' := Aside0.mk H
            clear H
            obtain ⟨Ao19, co19, eo19⟩ := Kd.S_slice HO_7.out
            subst eo19
            go_wp2
            go_roundg k4
            case measure => have := HJ2.out; have := HJ4.out; have := HK3.out; have := HK4.out; omega
            case rel => exact ⟨(x5_4), (wrap64 (x6_3 + 1)), (by first | rfl | (simp; done) | (simp [*]; done)), (by first | rfl | (simp; done) | (simp [*]; done)), H', ⟨by have := HJ2.out; have := HJ4.out; have := HK3.out; have := HK4.out; omega⟩, ⟨by repeat (first | (with_reducible first | exact HB.out | apply below_alloc | apply pw_below_drewN | apply below_drew1) | exact HB.out)⟩⟩
        ·rw [if_neg c8] at H
         exact absurd H (by simp)
       ·rw [if_neg c7] at H
        have c7b0 : decide (x6_3 < (l1.length : Int)) = false := decide_eq_false c7
        clear c7
        obtain rfl := Option.some.inj H
        go_wp2
        go_ret
        exact ⟨by first | rfl | (simp [errW_none, errW_some] <;> rfl) | (simp [*, errW_none, errW_some] <;> rfl), by repeat (first | (with_reducible first | exact HB.out | apply below_alloc | apply pw_below_drewN | apply below_drew1) | exact HB.out)⟩
end Go.Proofs.YtnnnbeimehfiiaaDoor.Q
/-! The reference's Split, both Lengths, the reference's Labelled: what they answer. -/
set_option linter.unusedVariables false
set_option linter.unusedSimpArgs false
namespace Go.Proofs.YtnnnbeimehfiiaaDoor.Q
open Go Go.RowKit Go.Proofs.YtnnnbeimehfiiaaDoorW.PrintWords Go.Proofs.YtnnnbeimehfiiaaDoorW.PrintLast Go.Proofs.YtnnnbeimehfiiaaDoorW.PrintMore
/-- From some fuel on, it answers v. -/
def Ev {α : Type} (g : Nat → Option α) (v : α) : Prop := ∃ n, ∀ k, n ≤ k → g k = some v
theorem Ev.of {α : Type} {g : Nat → Option α} {v : α} (h : ∀ k, g k = some v) : Ev g v := ⟨0, fun k _ => h k⟩
theorem leo_up {α : Type} {f : Nat → Option α} (h : ∀ k, LeO (f k) (f (k + 1))) {a : Nat} {r : α} (hr : f a = some r) : ∀ m, f (a + m) = some r
  | 0 => hr
  | m + 1 => h (a + m) r (leo_up h hr m)
theorem Ev.up {α : Type} {f : Nat → Option α} (h : ∀ k, LeO (f k) (f (k + 1))) {a : Nat} {r : α} (hr : f a = some r) : Ev f r := ⟨a, fun k hk => by have := leo_up h hr (k - a); rwa [show a + (k - a) = k by omega] at this⟩
theorem Ev.bind {α β : Type} {g : Nat → Option α} {v : α} {f : Nat → α → Option β} {u : β} (h : Ev g v) (hf : Ev (fun k => f k v) u) : Ev (fun k => (g k).bind (f k)) u := by
  obtain ⟨n, hn⟩ := h
  obtain ⟨m, hm⟩ := hf
  exact ⟨max n m, fun k hk => by show (g k).bind (f k) = _; rw [hn k (by omega)]; exact hm k (by omega)⟩
theorem Ev.step {α : Type} {g : Nat → Option α} {v : α} (h : Ev (fun k => g (k + 1)) v) : Ev g v := by
  obtain ⟨n, hn⟩ := h
  refine ⟨n + 1, fun k hk => ?_⟩
  obtain ⟨j, rfl⟩ : ∃ j, k = j + 1 := ⟨k - 1, by omega⟩
  exact hn j (by omega)
theorem Ev.congr {α : Type} {g g' : Nat → Option α} {v : α} (h : Ev g v) (e : ∀ k, g' k = g k) : Ev g' v := by
  obtain ⟨n, hn⟩ := h
  exact ⟨n, fun k hk => (e k).trans (hn k hk)⟩
theorem Ev.has {α : Type} {g : Nat → Option α} {v : α} (h : Ev g v) : ∃ k, g k = some v := by
  obtain ⟨n, hn⟩ := h
  exact ⟨n, hn n (Nat.le_refl _)⟩
theorem linesOf_nl : ∀ (p r : List Int), (∀ x ∈ p, x ≠ 10) → linesOf (p ++ 10 :: r) = (p ++ [10]) :: linesOf r
  | [], r, _ => by simp [linesOf]
  | x :: p, r, h => by
    have ih := linesOf_nl p r (fun y hy => h y (List.mem_cons_of_mem _ hy))
    show (if x = 10 then [10] :: linesOf (p ++ 10 :: r) else match linesOf (p ++ 10 :: r) with | [] => [[x]] | y :: ys => (x :: y) :: ys) = _
    rw [if_neg (h x List.mem_cons_self), ih]
    rfl
def stepL (n : Int) (x : List Int) : Int := if (sgn x).1 > 0 then mx n (((sgn x).1 : Nat) + 1 : Int) else n
def lenRow (n : Int) (l : List Int) : Int := (linesOf l).foldl stepL n
def lenAll (n : Int) (m : List (List Int)) : Int := m.foldl lenRow n
theorem stepL_b {n : Int} {x : List Int} (h : 1 ≤ n ∧ n ≤ 5000000001) (hx : x.length ≤ 5000000000) : 1 ≤ stepL n x ∧ stepL n x ≤ 5000000001 := by
  have := sgn_le x
  unfold stepL mx
  split
  · split <;> omega
  · exact h
theorem rdL_get {l : List (List Int)} {i : Nat} (h : i < l.length) : rd_L1 l (i : Int) = l[i] := by simp [rd_L1, List.getD_eq_getElem?_getD, List.getElem?_eq_getElem h]
theorem foldB : ∀ (l : List (List Int)) (n : Int), (1 ≤ n ∧ n ≤ 5000000001) → (∀ x ∈ l, x.length ≤ 5000000000) → 1 ≤ l.foldl stepL n ∧ l.foldl stepL n ≤ 5000000001
  | [], n, h, _ => h
  | x :: r, n, h, hx => foldB r _ (stepL_b h (hx x List.mem_cons_self)) (fun y hy => hx y (List.mem_cons_of_mem _ hy))
def okRow (l : List Int) : Prop := l.length ≤ 5000000000 ∧ ∀ x ∈ l, byte x
theorem okRow_lines {l : List Int} (h : okRow l) : ∀ x ∈ linesOf l, okRow x := fun x hx => ⟨Nat.le_trans (linesOf_mem l x hx) h.1, linesOf_all byte l x h.2 hx⟩
theorem len_in (m : List (List Int)) (i : Nat) (L : List (List Int)) (hL : L.length ≤ 5000000000) (hLr : ∀ x ∈ L, okRow x) (res : Int) (hi : i < m.length) (hm : m.length ≤ 5000000000) : ∀ (q j : Nat) (n : Int), L.length - j = q → j ≤ L.length → 1 ≤ n ∧ n ≤ 5000000001 →
    Ev (fun k => mark_Length.l0 k ((L.drop j).foldl stepL n) m (m.length : Int) ((i + 1 : Nat) : Int)) res → Ev (fun k => mark_Length.l1 k n m (m.length : Int) (i : Int) L (L.length : Int) (j : Int)) res
  | 0, j, n, hq, hj, hn, hk => by
    rw [List.drop_of_length_le (by omega)] at hk
    refine Ev.step (Ev.congr hk fun k => ?_)
    rw [mark_Length.l1, if_neg (by omega), w64n (by omega)]
    rfl
  | q + 1, j, n, hq, hj, hn, hk => by
    have hlt : j < L.length := by omega
    rw [List.drop_eq_getElem_cons hlt, List.foldl_cons] at hk
    have hr := hLr _ (List.getElem_mem hlt)
    have ih := len_in m i L hL hLr res hi hm q (j + 1) (stepL n L[j]) (by omega) (by omega) (stepL_b hn hr.1) hk
    obtain ⟨k0, hs⟩ := signs_ev L[j] hr.1 hr.2
    have hsE := Ev.up (fun k => mark_signs.mono L[j] k) hs
    refine Ev.step (Ev.congr (Ev.bind hsE (f := fun k t => if t.1 > 0 then mark_Length.l1 k (mx n (wrap64 (t.1 + 1))) m (m.length : Int) (i : Int) L (L.length : Int) (wrap64 ((j : Int) + 1)) else mark_Length.l1 k n m (m.length : Int) (i : Int) L (L.length : Int) (wrap64 ((j : Int) + 1))) (Ev.congr ih fun k => ?_)) fun k => ?_)
    · have h1 := sgn_le L[j]
      have h2 := hr.1
      simp only [w64n (show j ≤ 9223372036854775806 by omega)]
      rw [show wrap64 ((((sgn L[j]).1 : Nat) : Int) + 1) = (((sgn L[j]).1 : Nat) : Int) + 1 by unfold wrap64; omega]
      unfold stepL
      by_cases h : 0 < (sgn L[j]).1
      · rw [if_pos (show (((sgn L[j]).1 : Nat) : Int) > 0 by omega), if_pos h]
      · rw [if_neg (show ¬ (((sgn L[j]).1 : Nat) : Int) > 0 by omega), if_neg h]
    · rw [mark_Length.l1, if_pos (by omega), if_pos (by omega), if_pos (by omega), rdL_get hlt]
theorem len_out (m : List (List Int)) (hm : m.length ≤ 5000000000) (hr : ∀ l ∈ m, okRow l) : ∀ (q i : Nat) (n : Int), m.length - i = q → i ≤ m.length → 1 ≤ n ∧ n ≤ 5000000001 →
    Ev (fun k => mark_Length.l0 k n m (m.length : Int) (i : Int)) ((m.drop i).foldl lenRow n)
  | 0, i, n, hq, hi, _ => by
    rw [List.drop_of_length_le (by omega)]
    refine Ev.step (Ev.of fun k => ?_)
    rw [mark_Length.l0, if_neg (by omega)]
    rfl
  | q + 1, i, n, hq, hi, hn => by
    have hlt : i < m.length := by omega
    have ho := hr _ (List.getElem_mem hlt)
    have hln : (linesOf m[i]).length ≤ 5000000000 := Nat.le_trans (linesOf_len _) ho.1
    have ih := len_out m hm hr q (i + 1) (lenRow n m[i]) (by omega) (by omega) (foldB _ n hn (fun x hx => (okRow_lines ho x hx).1))
    rw [List.drop_eq_getElem_cons hlt, List.foldl_cons]
    have h1 := len_in m i (linesOf m[i]) hln (okRow_lines ho) _ hlt hm _ 0 n rfl (Nat.zero_le _) hn ih
    refine Ev.step (Ev.congr h1 fun k => ?_)
    rw [mark_Length.l0, if_pos (by omega), if_pos (by omega), if_pos (by omega), rdL_get hlt]
    have : line_Split.f m[i] = some (linesOf m[i]) := by
      unfold line_Split.f
      rw [if_pos]
      simp only [Bool.and_eq_true, List.all_eq_true, decide_eq_true_eq]
      exact ⟨fun x hx => ho.2 x hx, ho.1⟩
    rw [this]
    rfl
theorem length_ev (least : Int) (m : List (List Int)) (hm : m.length ≤ 5000000000) (hr : ∀ l ∈ m, okRow l) : Ev (fun k => mark_Length.f k least m) (lenAll (if 1 ≤ least ∧ least ≤ 1000 then least else 7) m) := by
  have h : ∀ n : Int, 1 ≤ n ∧ n ≤ 5000000001 → Ev (fun k => mark_Length.j1 k n m) (lenAll n m) := fun n hn => Ev.step (len_out m hm hr _ 0 n rfl (Nat.zero_le _) hn)
  by_cases h1 : least < 1
  · rw [if_neg (by omega)]
    exact Ev.congr (g := fun k => mark_Length.j0 k least m true) (Ev.step (Ev.congr (h 7 (by omega)) (fun k => rfl))) (fun k => by unfold mark_Length.f; rw [if_pos h1])
  · by_cases h2 : least > 1000
    · rw [if_neg (by omega)]
      exact Ev.congr (g := fun k => mark_Length.j0 k least m true) (Ev.step (Ev.congr (h 7 (by omega)) (fun k => rfl))) (fun k => by unfold mark_Length.f; rw [if_neg h1, show decide (least > 1000) = true by simpa using h2])
    · rw [if_pos (by omega)]
      exact Ev.congr (g := fun k => mark_Length.j0 k least m false) (Ev.step (Ev.congr (h least (by omega)) (fun k => rfl))) (fun k => by unfold mark_Length.f; rw [if_neg h1, show decide (least > 1000) = false by simpa using h2])
end Go.Proofs.YtnnnbeimehfiiaaDoor.Q
/-! MarkMoves in plain Lean: a text behind another; longer markers than any. -/
set_option linter.unusedVariables false
set_option linter.unusedSimpArgs false
namespace Go.Proofs.YtnnnbeimehfiiaaDoor.Q
open Go Go.RowKit Go.Proofs.YtnnnbeimehfiiaaDoorW.PrintWords Go.Proofs.YtnnnbeimehfiiaaDoorW.SL
theorem linesOf_cons (x : Int) (r : List Int) : linesOf (x :: r) = if x = 10 then [10] :: linesOf r else match linesOf r with | [] => [[x]] | y :: ys => (x :: y) :: ys := rfl
theorem linesOf_two : ∀ (p y : List Int), linesOf (p ++ 10 :: y) = linesOf (p ++ [10]) ++ linesOf y
  | [], y => by simp [linesOf]
  | z :: p, y => by
    have ih := linesOf_two p y
    rw [List.cons_append, List.cons_append, linesOf_cons, linesOf_cons, ih]
    by_cases hz : z = 10
    · rw [if_pos hz, if_pos hz]; rfl
    · rw [if_neg hz, if_neg hz]
      cases h : linesOf (p ++ [10]) with
      | nil =>
        exfalso
        cases p with
        | nil => simp [linesOf] at h
        | cons u q =>
          rw [List.cons_append, linesOf_cons] at h
          split at h
          · cases h
          · split at h <;> cases h
      | cons u us => rfl
def mg (q p : Pt) : Pt := ⟨false, q.text ++ p.text, p.s0, p.s1, p.s2⟩
def glue (l m : List Pt) : List Pt := match m with
  | [] => l
  | p :: r => match l.getLast? with
    | some q => if q.region = false ∧ p.region = false then l.dropLast ++ mg q p :: r else l ++ p :: r
    | none => p :: r
theorem glue_snoc (l m : List Pt) (q : Pt) (hm : m ≠ []) : glue l (m ++ [q]) = glue l m ++ [q] := by
  cases m with
  | nil => exact absurd rfl hm
  | cons p r =>
    simp only [List.cons_append, glue]
    cases l.getLast? with
    | none => rfl
    | some u => simp only; split <;> simp
/-- What is done to the last part is done to the last part of what is glued. -/
theorem glue_onLast (l : List Pt) (f : Pt → Pt) (hf : ∀ q p, f (mg q p) = mg q (f p)) (hr : ∀ p, (f p).region = p.region) : ∀ (m : List Pt), m ≠ [] → glue l (onLast f m) = onLast f (glue l m)
  | [], h => absurd rfl h
  | [p], _ => by
    simp only [onLast, glue]
    cases h : l.getLast? with
    | none => rfl
    | some u =>
      simp only [hr]
      split
      · rw [onLast_snoc, hf]
      · rw [onLast_snoc]
  | p :: q :: r, _ => by
    have e : onLast f (p :: q :: r) = p :: onLast f (q :: r) := rfl
    rw [e]
    have hs : ∀ (a : List Pt), onLast f (a ++ q :: r) = a ++ onLast f (q :: r) := by
      intro a
      induction a with
      | nil => rfl
      | cons u a ih =>
        cases a with
        | nil => rfl
        | cons v a => show u :: onLast f (v :: a ++ q :: r) = _; rw [ih]; rfl
    simp only [glue]
    cases h : l.getLast? with
    | none => rfl
    | some u =>
      simp only
      split
      · have := hs (l.dropLast ++ [mg u p]); simp only [List.append_assoc, List.singleton_append] at this; rw [this]
      · have := hs (l ++ [p]); simp only [List.append_assoc, List.singleton_append] at this; rw [this]
theorem glue_last (l m : List Pt) (p : Pt) : (glue l (m ++ [p])).getLast? = some p ∨ ∃ q, m = [] ∧ l.getLast? = some q ∧ q.region = false ∧ p.region = false ∧ (glue l (m ++ [p])).getLast? = some (mg q p) := by
  cases m with
  | cons u r => left; rw [glue_snoc _ _ _ (by simp)]; simp
  | nil =>
    simp only [List.nil_append, glue]
    cases h : l.getLast? with
    | none => left; simp
    | some q =>
      simp only
      split
      · rename_i h2; right; exact ⟨q, by first | rfl | trivial, by first | rfl | trivial | exact h, h2.1, h2.2, by simp⟩
      · left; simp
/-- Plain parts have no sides. -/
def PlainOk (l : List Pt) : Prop := ∀ p ∈ l, p.region = false → p.s0 = [] ∧ p.s1 = [] ∧ p.s2 = []
theorem step_glue {n : Nat} (l : List Pt) (hl : PlainOk l) {m : List Pt} {st : Nat} {x : List Int} (hne : st ≠ 0 → m ≠ []) : rdStep n (glue l m, st) x = (rdStep n (m, st) x).map (fun t => (glue l t.1, t.2)) := by
  unfold rdStep
  by_cases h0 : mkOf n x = 0
  · rw [if_pos h0, if_pos h0]
    by_cases hs : st = 0
    · subst hs
      simp only [if_true]
      rcases snoc_cases m with rfl | ⟨fr, p, rfl⟩
      · simp only [glue, List.getLast?_nil]
        cases h : l.getLast? with
        | none =>
          have : l = [] := by simpa using h
          subst this
          simp [glue]
        | some q =>
          obtain ⟨l', rfl⟩ : ∃ l', l = l' ++ [q] := by
            rcases snoc_cases l with rfl | ⟨l', u, rfl⟩
            · simp at h
            · simp at h; subst h; exact ⟨l', rfl⟩
          cases hq : q.region with
          | true => simp [glue, hq]
          | false =>
            obtain ⟨h1, h2, h3⟩ := hl q (by simp) hq
            simp [glue, hq, onLast_snoc, mg, addText]
            cases q; simp_all
      · have hp : (fr ++ [p]).getLast? = some p := by simp
        rw [hp]
        rcases glue_last l fr p with h | ⟨q, rfl, hq, hqr, hpr, h⟩
        · rw [h]
          simp only
          split
          · rw [Option.map_some]; simp only; rw [glue_snoc l (fr ++ [p]) _ (by simp)]
          · rw [Option.map_some]
            simp only
            rw [glue_onLast l (addText · x) (fun q p => by simp [addText, mg]) (fun p => rfl) _ (by simp)]
        · rw [h]
          simp only [mg, hpr, Bool.false_eq_true, if_false, Option.map_some]
          rw [glue_onLast l (addText · x) (fun q p => by simp [addText, mg]) (fun p => rfl) _ (by simp)]
    · rw [if_neg hs, if_neg hs, Option.map_some]
      simp only
      rw [glue_onLast l (addSide · (st - 1) x) (fun q p => by rcases st - 1 with _ | _ | k <;> rfl) (fun p => by rcases st - 1 with _ | _ | k <;> rfl) _ (hne hs)]
  · rw [if_neg h0, if_neg h0]
    split
    · rename_i h1
      rw [Option.map_some]
      simp only
      congr 2
      rcases snoc_cases m with rfl | ⟨fr, p, rfl⟩
      · simp only [glue, List.nil_append]
        cases h : l.getLast? with
        | none => have : l = [] := by simpa using h
                  subst this; rfl
        | some q => simp
      · rw [glue_snoc l (fr ++ [p]) _ (by simp)]
    · split
      · rfl
      · split <;> rfl
theorem all_glue {n : Nat} (l : List Pt) (hl : PlainOk l) : ∀ (r : List (List Int)) (m : List Pt) (st : Nat), (st ≠ 0 → m ≠ []) → rdAll n r (glue l m, st) = (rdAll n r (m, st)).map (fun t => (glue l t.1, t.2))
  | [], m, st, _ => rfl
  | x :: r, m, st, hne => by
    simp only [rdAll]
    rw [step_glue l hl hne]
    cases h : rdStep n (m, st) x with
    | none => rfl
    | some t =>
      obtain ⟨m2, st2⟩ := t
      exact all_glue l hl r m2 st2 (rdStep_ne h hne)
theorem lines_flat : ∀ l : List Int, (linesOf l).flatten = l
  | [] => rfl
  | x :: r => by
    have ih := lines_flat r
    rw [linesOf_cons]
    split
    · rename_i h; rw [List.flatten_cons, ih, h]; rfl
    · cases h : linesOf r with
      | nil => rw [h] at ih; rw [← ih]; rfl
      | cons y ys => rw [h] at ih; rw [← ih]; rfl
theorem stepL_ge (n : Int) (x : List Int) : n ≤ stepL n x ∧ (0 < (sgn x).1 → (((sgn x).1 : Nat) : Int) < stepL n x) := by
  unfold stepL mx
  split
  · split <;> omega
  · omega
theorem fold_ge : ∀ (l : List (List Int)) (n : Int), n ≤ l.foldl stepL n ∧ ∀ x ∈ l, 0 < (sgn x).1 → (((sgn x).1 : Nat) : Int) < l.foldl stepL n
  | [], n => ⟨Int.le_refl _, by simp⟩
  | y :: r, n => by
    have h := stepL_ge n y
    have ih := fold_ge r (stepL n y)
    refine ⟨Int.le_trans h.1 ih.1, fun x hx h0 => ?_⟩
    rcases List.mem_cons.1 hx with rfl | hx
    · have := h.2 h0; have := ih.1; simp only [List.foldl_cons]; omega
    · exact ih.2 x hx h0
theorem fold_le (B : Int) : ∀ (l : List (List Int)) (n : Int), n ≤ B + 1 → (∀ x ∈ l, (x.length : Int) ≤ B) → l.foldl stepL n ≤ B + 1
  | [], n, h, _ => h
  | y :: r, n, h, hx => by
    refine fold_le B r (stepL n y) ?_ (fun x hx2 => hx x (List.mem_cons_of_mem _ hx2))
    have h1 := sgn_le y
    have h2 := hx y List.mem_cons_self
    unfold stepL mx
    split
    · split <;> omega
    · exact h
theorem all_plain {N : Nat} : ∀ (r : List (List Int)) (T : List Int), (∀ x ∈ r, mkOf N x = 0) → rdAll N r ([⟨false, T, [], [], []⟩], 0) = some ([⟨false, T ++ r.flatten, [], [], []⟩], 0)
  | [], T, _ => by simp [rdAll]
  | x :: r, T, h => by
    have h1 : rdStep N ([⟨false, T, [], [], []⟩], 0) x = some ([⟨false, T ++ x, [], [], []⟩], 0) := by simp [rdStep, h x List.mem_cons_self, onLast, addText]
    simp only [rdAll, h1, Option.bind_some]
    rw [all_plain r (T ++ x) (fun y hy => h y (List.mem_cons_of_mem _ hy))]
    simp
/-- Markers longer than what any line begins with: one part. -/
theorem read_long {x : List Int} (hx : x ≠ []) (hl : x.length ≤ 5000) : readOf (lenAll 1 [x]) x = ([⟨false, x, [], [], []⟩], 0) ∧ 1 ≤ lenAll 1 [x] ∧ lenAll 1 [x] ≤ 5001 := by
  have e : lenAll 1 [x] = (linesOf x).foldl stepL 1 := rfl
  have h1 := fold_ge (linesOf x) 1
  have h2 := fold_le 5000 (linesOf x) 1 (by decide) (fun y hy => by have := linesOf_mem x y hy; omega)
  rw [← e] at h1 h2
  refine ⟨?_, h1.1, by omega⟩
  obtain ⟨N, hN⟩ := Int.eq_ofNat_of_zero_le (by omega : 0 ≤ lenAll 1 [x])
  rw [hN] at h1 h2 ⊢
  have hm : ∀ y ∈ linesOf x, mkOf N y = 0 := fun y hy => by
    unfold mkOf
    rw [if_neg]
    rintro ⟨h3, _⟩
    have := h1.2 y hy (by omega)
    omega
  unfold readOf
  rw [if_pos (by omega), Int.toNat_natCast]
  cases hL : linesOf x with
  | nil => have := lines_flat x; rw [hL] at this; exact absurd this.symm hx
  | cons y r =>
    rw [hL] at hm
    have h3 : rdStep N ([], 0) y = some ([⟨false, y, [], [], []⟩], 0) := by simp [rdStep, hm y List.mem_cons_self]
    have h4 := all_plain r y (fun z hz => hm z (List.mem_cons_of_mem _ hz))
    simp only [rdAll, h3, Option.bind_some, h4]
    have h5 := lines_flat x
    rw [hL, List.flatten_cons] at h5
    rw [h5]
    rfl
end Go.Proofs.YtnnnbeimehfiiaaDoor.Q
-- Written by a program of this session (wip/mkprint.py, wip/pr.sh) for this claim; Lean checks it.
namespace Go.Proofs.YtnnnbeimehfiiaaDoor.Q
open Go.RowKit Go.Proofs.YtnnnbeimehfiiaaDoorW.PrintWords Go.Proofs.YtnnnbeimehfiiaaDoorW.PrintLast Go.Proofs.YtnnnbeimehfiiaaDoorW.PrintMore
attribute [local go_sem] max2_int min2_int max_two min_two max_three min_three max_four min_four   -- for this text's walks alone
set_option linter.unusedVariables false
set_option linter.unusedSimpArgs false
/-! ### scarfref18_Ended: function 39 -/
def scarfref18_Ended.f (l0 : List Int) : Option (List Int) := if (l0.length : Int) > 0 then (if 0 ≤ (wrap64 ((l0.length : Int) - 1)) then (if (wrap64 ((l0.length : Int) - 1)) < (l0.length : Int) then (if (rd l0 (wrap64 ((l0.length : Int) - 1))) = 10 then (some l0) else ((some (([] : List Int) : List Int)).bind fun y182 => (if y182.length + l0.length < 140737488355328 then ((some (y182 ++ l0 : List Int)).bind fun y185 => (if y185.length < 140737488355328 then (some (y185 ++ [10])) else (none))) else (none)))) else (none)) else (none)) else (some l0)
set_option maxHeartbeats 8000000 in
set_option maxRecDepth 100000 in
theorem scarfref18_Ended.calls (P0_ : Nat → Prop) (u9000_ : Value) (l0 : List Int) (r : List Int) (w0 w : World) (hB : Below w0.heap.size w0 w) (ho0 : Kd.R (Kd.int .u8) 5 w w0.heap.size P0_ u9000_ l0) (h : scarfref18_Ended.f l0 = some r) :
  Calls Tryd.prog 39 #[u9000_] w fun e w' => ∃ v0_ : Value, e = .returned (v0_) ∧ Kd.R (Kd.int .u8) 5 w' w0.heap.size (fun k_ => (P0_ k_ ∨ w.heap.size ≤ k_)) v0_ r ∧ Below w0.heap.size w0 w' ∧ Kept w w' (fun k_ => P0_ k_) := by
 have HO0 := Aside0.mk (show Kd.R (Kd.int .u8) 5 w w0.heap.size (fun k_ => (P0_ k_ ∨ w.heap.size ≤ k_)) u9000_ l0 from Kd.R_mono ho0 (fun k_ hk => (.inl hk)))
 have HK := Aside0.mk (Kept.refl w (fun k_ => P0_ k_))
 have HW0 := Aside0.mk hB.size
 have HB := Aside0.mk hB
 clear hB
 have H : (if (l0.length : Int) > 0 then (if 0 ≤ (wrap64 ((l0.length : Int) - 1)) then (if (wrap64 ((l0.length : Int) - 1)) < (l0.length : Int) then (if (rd l0 (wrap64 ((l0.length : Int) - 1))) = 10 then (some l0) else ((some (([] : List Int) : List Int)).bind fun y182 => (if y182.length + l0.length < 140737488355328 then ((some (y182 ++ l0 : List Int)).bind fun y185 => (if y185.length < 140737488355328 then (some (y185 ++ [10])) else (none))) else (none)))) else (none)) else (none)) else (some l0)) = some r := h
 clear h
 by_cases c2 : (l0.length : Int) > 0
 ·rw [if_pos c2] at H
  have c2b0 : decide (0 < (l0.length : Int)) = true := decide_eq_true c2
  have c2b1 : decide (0 < l0.length) = true := decide_eq_true (by omega)
  clear c2
  obtain ⟨ji3, hji3⟩ : ∃ j_ : Int, (wrap64 ((l0.length : Int) - 1)) = j_ := ⟨_, rfl⟩
  replace H : (if 0 ≤ (ji3) then (if (ji3) < (l0.length : Int) then (if (rd l0 (ji3)) = 10 then (some l0) else ((some (([] : List Int) : List Int)).bind fun y182 => (if y182.length + l0.length < 140737488355328 then ((some (y182 ++ l0 : List Int)).bind fun y185 => (if y185.length < 140737488355328 then (some (y185 ++ [10])) else (none))) else (none)))) else (none)) else (none)) = some r := by first | (rw [hji3] at H; exact H) | (simp only [hji3] at H ⊢; exact H)
  have hji3w : (IntKind.i64.wrap ((l0.length : Int) - 1)) = ji3 := (i64_w _).trans hji3
  by_cases c4 : 0 ≤ (ji3)
  ·rw [if_pos c4] at H
   have c4b0 : decide (0 ≤ (ji3)) = true := decide_eq_true c4
   clear c4
   by_cases c5 : (ji3) < (l0.length : Int)
   ·rw [if_pos c5] at H
    have c5b0 : decide ((ji3) < (l0.length : Int)) = true := decide_eq_true c5
    clear c5
    by_cases c6 : (rd l0 (ji3)) = 10
    ·rw [if_pos c6] at H
     have c6b0 : ((rd l0 (ji3)) == 10) = true := beq_iff_eq.mpr c6
     have c6b1 : ((rd l0 (ji3)) != 10) = false := bne_eq_false_iff_eq.mpr c6
     clear c6
     obtain rfl := Option.some.inj H
     obtain ⟨Ao7, co7, eo7⟩ := Kd.R_slice HO0.out
     subst eo7
     have p181 : 0 ≤ ((ji3) : Int) := of_decide_eq_true (by first | (with_reducible assumption) | assumption)
     have q181 : (ji3) < (l0.length : Int) := of_decide_eq_true (by first | (with_reducible assumption) | assumption)
     obtain ⟨ad181, e181, hx181_0⟩ := Kd.at_int (Kd.R_reads' HO0.out).2.2 (ji3) p181 q181
     cases e181
     replace p181 := eq_true p181
     replace q181 := eq_true q181
     go_enter Tryd.func39, Tryd.ntmps39
     go_wp2
     go_ret
     exact ⟨_, by first | rfl | (simp [errW_none, errW_some] <;> rfl) | (simp only [← hji3]; first | rfl | (simp [errW_none, errW_some] <;> rfl)) | (simp [*, errW_none, errW_some] <;> rfl), by (with_reducible repeat (first | apply Kd.R_alloc | apply Kd.R_drewN | apply Kd.R_drew)); exact HO0.out, by repeat (first | (with_reducible first | exact HB.out | apply below_alloc | apply pw_below_drewN | apply below_drew1) | exact HB.out), by repeat (first | (with_reducible first | exact HK.out | apply Kept.alloc | apply Kept.drewN | apply Kept.drew) | exact HK.out)⟩
    ·rw [if_neg c6] at H
     have c6b0 : ((rd l0 (ji3)) == 10) = false := beq_eq_false_iff_ne.mpr c6
     have c6b1 : ((rd l0 (ji3)) != 10) = true := bne_iff_ne.mpr c6
     obtain ⟨y182, hy182⟩ : ∃ y_ : List Int, y_ = (([] : List Int)) := ⟨_, rfl⟩
     replace H : (if y182.length + l0.length < 140737488355328 then ((some (y182 ++ l0 : List Int)).bind fun y185 => (if y185.length < 140737488355328 then (some (y185 ++ [10])) else (none))) else (none)) = some r := by first | (rw [hy182]; with_reducible exact H) | (have H2_ := (Option.bind_some _ _).symm.trans H; rw [hy182]; with_reducible exact H2_) | (have H2_ := (Option.bind_some _ _).symm.trans H; with_reducible exact H2_) | with_reducible exact H | (rw [hy182]; exact H) | exact H
     have Ny182 := Aside0.mk hy182
     clear hy182
     by_cases c8 : y182.length + l0.length < 140737488355328
     ·rw [if_pos c8] at H
      have LMc8 := Aside0.mk c8
      clear c8
      obtain ⟨y185, hy185⟩ : ∃ y_ : List Int, y_ = (y182 ++ l0) := ⟨_, rfl⟩
      replace H : (if y185.length < 140737488355328 then (some (y185 ++ [10])) else (none)) = some r := by first | (rw [hy185]; with_reducible exact H) | (have H2_ := (Option.bind_some _ _).symm.trans H; rw [hy185]; with_reducible exact H2_) | (have H2_ := (Option.bind_some _ _).symm.trans H; with_reducible exact H2_) | with_reducible exact H | (rw [hy185]; exact H) | exact H
      have Ny185 := Aside0.mk hy185
      clear hy185
      by_cases c9 : y185.length < 140737488355328
      ·rw [if_pos c9] at H
       have LMc9 := Aside0.mk c9
       clear c9
       obtain ⟨y188, hy188⟩ : ∃ y_ : List Int, y_ = (y185 ++ [10]) := ⟨_, rfl⟩
       replace H : (some y188) = some r := by first | (rw [hy188]; with_reducible exact H) | (have H2_ := (Option.bind_some _ _).symm.trans H; rw [hy188]; with_reducible exact H2_) | (have H2_ := (Option.bind_some _ _).symm.trans H; with_reducible exact H2_) | with_reducible exact H | (rw [hy188]; exact H) | exact H
       have Ny188 := Aside0.mk hy188
       clear hy188
       obtain rfl := Option.some.inj H
       obtain ⟨Ao10, co10, eo10⟩ := Kd.R_slice HO0.out
       subst eo10
       have p181 : 0 ≤ ((ji3) : Int) := of_decide_eq_true (by first | (with_reducible assumption) | assumption)
       have q181 : (ji3) < (l0.length : Int) := of_decide_eq_true (by first | (with_reducible assumption) | assumption)
       obtain ⟨ad181, e181, hx181_0⟩ := Kd.at_int (Kd.R_reads' HO0.out).2.2 (ji3) p181 q181
       cases e181
       replace p181 := eq_true p181
       replace q181 := eq_true q181
       go_enter Tryd.func39, Tryd.ntmps39
       go_wp2_with (first | ((with_reducible refine gate_dst (N := 15) rfl ?_); (try (refine gate_guard (by rfl) ?_; dsimp only)); refine Kd.R_lit (Kd.int .u8) _ 5 ?hg (N := 15) ?hd (xs := ([] : List Int)) (inner := []) (ok := fun _ => True) (okp := fun _ => True) ?hr ?hp (fun _ hk => hk) trivial (Below.refl _ _) (Nat.le_refl _) (by simp) ?_; (case hd => rfl); (case hg => rfl); (case hr => first | (go_simp; done) | (go_simp; rfl)); (case hp => exact (Reps.none _ _)); intro v183 w11 ho12 hb hg_ hnew_; clear hg_ hnew_; (first | rw [← Ny182.out] at ho12 | (simp only [Int.reduceToNat] at ho12; rw [← Ny182.out] at ho12)); have n0_ := Aside0.mk (Kd.R_elder' (by (with_reducible repeat (first | apply Kd.R_alloc | apply Kd.R_drewN | apply Kd.R_drew)); exact HO0.out) (Kd.R_base ho12) hb); have n1_ := Aside0.mk (Kd.R_lower (Kd.R_new' (Kd.R_newM (M := fun k_ => (P0_ k_ ∨ w.heap.size ≤ k_)) ho12 (by first | exact HK.out.1 | exact (show Kept w _ (fun k_ => P0_ k_) from by repeat (first | (with_reducible first | exact HK.out | apply Kept.alloc | apply Kept.drewN | apply Kept.drew) | exact HK.out)).1) (fun k_ h_ => .inr h_)) (Kd.R_lt (by (with_reducible repeat (first | apply Kd.R_alloc | apply Kd.R_drewN | apply Kd.R_drew)); exact HO0.out))) (below_size (by repeat (first | (with_reducible first | exact HB.out | apply below_alloc | apply pw_below_drewN | apply below_drew1) | exact HB.out)))); have n2_ := Aside0.mk (Kept.below (S := (fun k_ => P0_ k_)) (by repeat (first | (with_reducible first | exact HK.out | apply Kept.alloc | apply Kept.drewN | apply Kept.drew) | exact HK.out)) hb); have n3_ := Aside0.mk (below_step (by repeat (first | (with_reducible first | exact HB.out | apply below_alloc | apply pw_below_drewN | apply below_drew1) | exact HB.out)) hb); clear HO0; clear HK; clear HB; have HO0 := n0_; have HO184 := n1_; have HK := n2_; have HB := n3_; clear n0_ n1_ n2_ n3_; clear hb ho12) | ((with_reducible refine gate_builtin (b := .append) (xs := #[.tmp 15, .tmp 16]) rfl ?_); (try (refine gate_guard (by rfl) ?_; dsimp only)); at_builtin; refine Kd.R_append_rows (Kd.int .u8) (w0 := w0) w0.heap.size rfl (.tmp 15) (.tmp 16) 22 5 (.int .u8 0) 1 rfl Tryd.underlying22 info5 rfl (by decide) (by omega) v183 y182 l0 _ _ _ (fun k_ => (P0_ k_ ∨ w.heap.size ≤ k_) ∧ some k_ ≠ (.slice (some ad181) l0.length co10 : Value).ownBlock) (fun _ => False) rfl rfl ?aO ?aR (fun _ _ h => h) (fun _ h => h.elim) ?aF ?aB ?aS ?aL ?_; (case aR => repeat (first | exact (Kd.R_reads' HO0.out).2.2 | (with_reducible refine Kd.C_alloc ?_ _) | (with_reducible refine Kd.C_drewN ?_ _) | (with_reducible refine Kd.C_drew ?_))); (case aB => exact (by repeat (first | (with_reducible first | exact HB.out | apply below_alloc | apply pw_below_drewN | apply below_drew1) | exact HB.out))); (case aF => exact (fun k_ hk => ⟨(.inr (Nat.le_trans (by first | exact HK.out.1 | exact (show Kept w _ (fun k_ => P0_ k_) from by repeat (first | (with_reducible first | exact HK.out | apply Kept.alloc | apply Kept.drewN | apply Kept.drew) | exact HK.out)).1) hk)), Kd.fresh' (Kd.R_lt (by (with_reducible repeat (first | apply Kd.R_alloc | apply Kd.R_drewN | apply Kd.R_drew)); exact HO0.out)) k_ hk⟩)); (case aO => exact (by (with_reducible repeat (first | apply Kd.R_alloc | apply Kd.R_drewN | apply Kd.R_drew)); exact Kd.R_mono HO184.out (fun _ hk => ⟨hk.1.1, hk.2⟩))); (case aS => exact (below_size (by repeat (first | (with_reducible first | exact HB.out | apply below_alloc | apply pw_below_drewN | apply below_drew1) | exact HB.out)))); (case aL => have := LMc8.out; omega); intro v186 w13 ho hb hg hat; rw [← Ny185.out] at ho; have n0_ := Aside0.mk (Kd.R_after (ok := (fun k_ => (P0_ k_ ∨ w.heap.size ≤ k_))) (by (with_reducible repeat (first | apply Kd.R_alloc | apply Kd.R_drewN | apply Kd.R_drew)); exact HO0.out) hg hat); have n1_ := Aside0.mk (hb); have n2_ := Aside0.mk (Kept.of_grown (S := (fun k_ => P0_ k_)) hg (by repeat (first | (with_reducible first | exact HK.out | apply Kept.alloc | apply Kept.drewN | apply Kept.drew) | exact HK.out)) (fun k_ e_ => (HO184.out.1 k_ e_).1.1)); have n3_ := Aside0.mk (ho); clear HO0; clear HB; clear HK; clear HO184; have HO0 := n0_; have HB := n1_; have HK := n2_; have HO187 := n3_; clear n0_ n1_ n2_ n3_; clear ho hb hg hat) | ((with_reducible refine gate_builtin (b := .append) (xs := #[.tmp 17, .tmp 18]) rfl ?_); (try (refine gate_guard (by rfl) ?_; dsimp only)); at_builtin; refine Kd.R_append (Kd.int .u8) (w0 := w0) w0.heap.size rfl (.tmp 17) (.tmp 18) 22 5 (.int .u8 0) 1 rfl Tryd.underlying22 info5 rfl (by decide) (by omega) v186 y185 10 [.int .u8 10] (fun k_ => (P0_ k_ ∨ w.heap.size ≤ k_) ∧ some k_ ≠ (.slice (some ad181) l0.length co10 : Value).ownBlock) (fun _ => False) rfl rfl ?aP (fun _ hk => hk.elim) ?aF ?aO ?aB ?aS ?aL ?_; (case aP => exact rfl); (case aB => exact (by repeat (first | (with_reducible first | exact HB.out | apply below_alloc | apply pw_below_drewN | apply below_drew1) | exact HB.out))); (case aF => exact (fun k_ hk => ⟨(.inr (Nat.le_trans (by first | exact HK.out.1 | exact (show Kept w _ (fun k_ => P0_ k_) from by repeat (first | (with_reducible first | exact HK.out | apply Kept.alloc | apply Kept.drewN | apply Kept.drew) | exact HK.out)).1) hk)), Kd.fresh' (Kd.R_lt (by (with_reducible repeat (first | apply Kd.R_alloc | apply Kd.R_drewN | apply Kd.R_drew)); exact HO0.out)) k_ hk⟩)); (case aO => exact (by (with_reducible repeat (first | apply Kd.R_alloc | apply Kd.R_drewN | apply Kd.R_drew)); exact HO187.out)); (case aS => exact (below_size (by repeat (first | (with_reducible first | exact HB.out | apply below_alloc | apply pw_below_drewN | apply below_drew1) | exact HB.out)))); (case aL => have := LMc9.out; omega); intro v189 w14 ho hb hg hat; rw [← Ny188.out] at ho; have n0_ := Aside0.mk (Kd.R_after (ok := (fun k_ => (P0_ k_ ∨ w.heap.size ≤ k_))) (by (with_reducible repeat (first | apply Kd.R_alloc | apply Kd.R_drewN | apply Kd.R_drew)); exact HO0.out) hg hat); have n1_ := Aside0.mk (hb); have n2_ := Aside0.mk (Kept.of_grown (S := (fun k_ => P0_ k_)) hg (by repeat (first | (with_reducible first | exact HK.out | apply Kept.alloc | apply Kept.drewN | apply Kept.drew) | exact HK.out)) (fun k_ e_ => (HO187.out.1 k_ e_).1)); have n3_ := Aside0.mk (ho); clear HO0; clear HB; clear HK; clear HO187; have HO0 := n0_; have HB := n1_; have HK := n2_; have HO190 := n3_; clear n0_ n1_ n2_ n3_; clear ho hb hg hat))
       go_ret
       exact ⟨_, by first | rfl | (simp [errW_none, errW_some] <;> rfl) | (simp only [← hji3]; first | rfl | (simp [errW_none, errW_some] <;> rfl)) | (simp [*, errW_none, errW_some] <;> rfl), by (with_reducible repeat (first | apply Kd.R_alloc | apply Kd.R_drewN | apply Kd.R_drew)); exact Kd.R_mono HO190.out (fun _ hk => hk.1), by repeat (first | (with_reducible first | exact HB.out | apply below_alloc | apply pw_below_drewN | apply below_drew1) | exact HB.out), by repeat (first | (with_reducible first | exact HK.out | apply Kept.alloc | apply Kept.drewN | apply Kept.drew) | exact HK.out)⟩
      ·rw [if_neg c9] at H
       exact absurd H (by simp)
     ·rw [if_neg c8] at H
      exact absurd H (by simp)
   ·rw [if_neg c5] at H
    exact absurd H (by simp)
  ·rw [if_neg c4] at H
   exact absurd H (by simp)
 ·rw [if_neg c2] at H
  have c2b0 : decide (0 < (l0.length : Int)) = false := decide_eq_false c2
  have c2b1 : decide (0 < l0.length) = false := decide_eq_false (by omega)
  clear c2
  obtain rfl := Option.some.inj H
  obtain ⟨Ao15, co15, eo15⟩ := Kd.R_slice HO0.out
  subst eo15
  go_enter Tryd.func39, Tryd.ntmps39
  go_wp2
  go_ret
  exact ⟨_, by first | rfl | (simp [errW_none, errW_some] <;> rfl) | (simp [*, errW_none, errW_some] <;> rfl), by (with_reducible repeat (first | apply Kd.R_alloc | apply Kd.R_drewN | apply Kd.R_drew)); exact HO0.out, by repeat (first | (with_reducible first | exact HB.out | apply below_alloc | apply pw_below_drewN | apply below_drew1) | exact HB.out), by repeat (first | (with_reducible first | exact HK.out | apply Kept.alloc | apply Kept.drewN | apply Kept.drew) | exact HK.out)⟩
-- NOT PRINTED: function 20 (scarflaw18_joined)
-- NOT PRINTED: function 5 (scarflaw18_MarkBack)
-- NOT PRINTED: function 6 (scarflaw18_MarkMoves)
/-! ### scarfref18_marker: function 40 -/
def scarfref18_marker.l0 : Nat → Int → Int → ByteArray → List Int → Int → Option (List Int)
 | 0, _, _, _, _, _ => none
 | k + 1, x0, x1, x2, x7, x8 => if x8 < x1 then (if x7.length < 140737488355328 then (scarfref18_marker.l0 k x0 x1 x2 (x7 ++ [x0]) (wrap64 (x8 + 1))) else (none)) else ((scarfref18_Labelled.f k x2).bind fun t214 => (if t214.toList = ([] : List UInt8) then (if x7.length < 140737488355328 then (some (x7 ++ [10])) else (none)) else (if x7.length < 140737488355328 then ((some (x7 ++ [32] : List Int)).bind fun y218 => (if y218.length + t214.size < 140737488355328 then ((some (y218 ++ bytesOf t214 : List Int)).bind fun y221 => (if y221.length < 140737488355328 then (some (y221 ++ [10])) else (none))) else (none))) else (none))))
def scarfref18_marker.f (k : Nat) (a0 : Int) (a1 : Int) (a2 : ByteArray) : Option (List Int) := scarfref18_marker.l0 k a0 a1 a2 ([] : List Int) 0
theorem scarfref18_marker.mono_l : ∀ k, (∀ y0 y1 y2 y3 y4, LeO (scarfref18_marker.l0 k y0 y1 y2 y3 y4) (scarfref18_marker.l0 (k + 1) y0 y1 y2 y3 y4))
 | 0 => fun _ _ _ _ _ r h => by simp [scarfref18_marker.l0] at h
 | k + 1 => by
  have ih0 := scarfref18_marker.mono_l k
  ·intro y0 y1 y2 y3 y4
   unfold scarfref18_marker.l0
   repeat' first
   | (with_reducible exact ih0 _ _ _ _ _)
   | (with_reducible exact scarfref18_Labelled.mono _ _)
   | (with_reducible exact LeO.refl _)
   | (with_reducible exact LeO.none _)
   | (with_reducible refine LeO.ite ?_ ?_)
   | (with_reducible refine LeO.bind ?_ (fun _ => ?_))
   | exact ih0 _ _ _ _ _
   | exact scarfref18_Labelled.mono _ _
   | exact LeO.none _
   | refine LeO.ite ?_ ?_
   | refine LeO.bind ?_ (fun _ => ?_)
theorem scarfref18_marker.mono : ∀ a0 a1 a2 k, LeO (scarfref18_marker.f k a0 a1 a2) (scarfref18_marker.f (k + 1) a0 a1 a2) := by
 intro a0 a1 a2 k
 have ih0 := scarfref18_marker.mono_l k
 unfold scarfref18_marker.f
 repeat' first
   | (with_reducible exact ih0 _ _ _ _ _)
   | (with_reducible exact scarfref18_Labelled.mono _ _)
   | (with_reducible exact LeO.refl _)
   | (with_reducible exact LeO.none _)
   | (with_reducible refine LeO.ite ?_ ?_)
   | (with_reducible refine LeO.bind ?_ (fun _ => ?_))
   | exact ih0 _ _ _ _ _
   | exact scarfref18_Labelled.mono _ _
   | exact LeO.none _
   | refine LeO.ite ?_ ?_
   | refine LeO.bind ?_ (fun _ => ?_)
set_option maxHeartbeats 8000000 in
set_option maxRecDepth 100000 in
theorem scarfref18_marker.calls (k : Nat) (a0 : Int) (a1 : Int) (a2 : ByteArray) (r : List Int) (w : World) (h : scarfref18_marker.f k a0 a1 a2 = some r) :
  Calls Tryd.prog 40 #[.int .u8 a0, .int .i64 a1, .string a2] w fun e w' => ∃ v0_ : Value, e = .returned (v0_) ∧ Kd.R (Kd.int .u8) 5 w' w.heap.size (fun _ => True) v0_ r ∧ Below w.heap.size w w' := by
 have HB := Aside0.mk (Below.refl w.heap.size w)
 have H : (scarfref18_marker.l0 k a0 a1 a2 ([] : List Int) 0) = some r := h
 clear h
 have H' := Aside0.mk H
 clear H
 go_enter Tryd.func40, Tryd.ntmps40
 go_wp2
 go_loopg [7, 8] k (fun kq v7 v8 w' => ∃ (x7_1 : List Int) (x8_1 : Int), v8 = .int .i64 x8_1 ∧ Aside0 (scarfref18_marker.l0 kq a0 a1 a2 x7_1 x8_1 = some r) ∧ Aside0 (kq ≤ k) ∧ Aside0 (Kd.R (Kd.int .u8) 5 w' w.heap.size (fun _ => True) v7 x7_1) ∧ Aside0 (Below w.heap.size w w'))
 case atStart => exact ⟨(([] : List Int)), (0), (by first | rfl | (simp; done) | (simp [*]; done)), H', ⟨Nat.le_refl _⟩, ⟨by first | exact Kd.R_nil _ _ _ _ _ | exact Kd.N_nil _ _ _ _ _ | exact Kd.V_nil _ _ _ _ _ | exact Kd.Q_nil _ _ _ _ _ | exact Kd.S_nil _ _ _ _ _⟩, ⟨by repeat (first | (with_reducible first | exact HB.out | apply below_alloc | apply pw_below_drewN | apply below_drew1) | exact HB.out)⟩⟩
 case round =>
  clear H'
  try clear p2
  obtain ⟨x7_1, x8_1, rfl, HA, HK1, HO_7, HB⟩ := hrel
  cases gk with
  | zero => exact absurd HA.out (by simp [scarfref18_marker.l0])
  | succ k1 =>
   have H := HA.out
   clear HA
   simp only [scarfref18_marker.l0] at H
   by_cases c4 : x8_1 < a1
   ·rw [if_pos c4] at H
    have c4b0 : decide (x8_1 < a1) = true := decide_eq_true c4
    clear c4
    by_cases c5 : x7_1.length < 140737488355328
    ·rw [if_pos c5] at H
     have LMc5 := Aside0.mk c5
     clear c5
     obtain ⟨y211, hy211⟩ : ∃ y_ : List Int, y_ = (x7_1 ++ [a0]) := ⟨_, rfl⟩
     replace H : (scarfref18_marker.l0 k1 a0 a1 a2 y211 (wrap64 (x8_1 + 1))) = some r := by first | (rw [hy211]; with_reducible exact H) | (have H2_ := (Option.bind_some _ _).symm.trans H; rw [hy211]; with_reducible exact H2_) | (have H2_ := (Option.bind_some _ _).symm.trans H; with_reducible exact H2_) | with_reducible exact H | (rw [hy211]; exact H) | exact H
     have Ny211 := Aside0.mk hy211
     clear hy211
     have H' := Aside0.mk H
     clear H
     go_wp2_with (first | ((with_reducible refine gate_builtin (b := .append) (xs := #[.tmp 15, .tmp 17]) rfl ?_); at_builtin; refine Kd.R_append (Kd.int .u8) (w0 := w) w.heap.size rfl (.tmp 15) (.tmp 17) 22 5 (.int .u8 0) 1 rfl Tryd.underlying22 info5 rfl (by decide) (by omega) u7 x7_1 a0 [.int .u8 a0] (fun _ => True) (fun _ => False) rfl rfl ?aP (fun _ hk => hk.elim) ?aF ?aO ?aB ?aS ?aL ?_; (case aP => exact rfl); (case aB => exact (by repeat (first | (with_reducible first | exact HB.out | apply below_alloc | apply pw_below_drewN | apply below_drew1) | exact HB.out))); (case aF => exact (fun _ _ => trivial)); (case aO => exact (by (with_reducible repeat (first | apply Kd.R_alloc | apply Kd.R_drewN | apply Kd.R_drew)); exact HO_7.out)); (case aS => exact (below_size (by repeat (first | (with_reducible first | exact HB.out | apply below_alloc | apply pw_below_drewN | apply below_drew1) | exact HB.out)))); (case aL => have := LMc5.out; omega); intro v212 w6 ho hb hg hat; rw [← Ny211.out] at ho; have n0_ := Aside0.mk (hb); have n1_ := Aside0.mk (ho); clear HB; clear HO_7; have HB := n0_; have HO213 := n1_; clear n0_ n1_; clear ho hb hg hat))
     go_roundg k1
     case measure => have := HK1.out; omega
     case rel => exact ⟨(y211), (wrap64 (x8_1 + 1)), (by first | rfl | (simp; done) | (simp [*]; done)), H', ⟨by have := HK1.out; omega⟩, ⟨by (with_reducible repeat (first | apply Kd.R_alloc | apply Kd.R_drewN | apply Kd.R_drew)); exact HO213.out⟩, ⟨by repeat (first | (with_reducible first | exact HB.out | apply below_alloc | apply pw_below_drewN | apply below_drew1) | exact HB.out)⟩⟩
    ·rw [if_neg c5] at H
     exact absurd H (by simp)
   ·rw [if_neg c4] at H
    have c4b0 : decide (x8_1 < a1) = false := decide_eq_false c4
    clear c4
    replace H := Option.bind_eq_some_iff.mp H
    obtain ⟨t214, A70, H⟩ := H
    replace H : (if t214.toList = ([] : List UInt8) then (if x7_1.length < 140737488355328 then (some (x7_1 ++ [10])) else (none)) else (if x7_1.length < 140737488355328 then ((some (x7_1 ++ [32] : List Int)).bind fun y218 => (if y218.length + t214.size < 140737488355328 then ((some (y218 ++ bytesOf t214 : List Int)).bind fun y221 => (if y221.length < 140737488355328 then (some (y221 ++ [10])) else (none))) else (none))) else (none))) = some r := H
    have A7 := Aside0.mk A70
    clear A70
    by_cases c8 : t214.toList = ([] : List UInt8)
    ·rw [if_pos c8] at H
     have c8b0 : (t214.toList == ([] : List UInt8)) = true := beq_iff_eq.mpr c8
     have c8b1 : (t214.toList != ([] : List UInt8)) = false := bne_eq_false_iff_eq.mpr c8
     clear c8
     by_cases c9 : x7_1.length < 140737488355328
     ·rw [if_pos c9] at H
      have LMc9 := Aside0.mk c9
      clear c9
      obtain ⟨y215, hy215⟩ : ∃ y_ : List Int, y_ = (x7_1 ++ [10]) := ⟨_, rfl⟩
      replace H : (some y215) = some r := by first | (rw [hy215]; with_reducible exact H) | (have H2_ := (Option.bind_some _ _).symm.trans H; rw [hy215]; with_reducible exact H2_) | (have H2_ := (Option.bind_some _ _).symm.trans H; with_reducible exact H2_) | with_reducible exact H | (rw [hy215]; exact H) | exact H
      have Ny215 := Aside0.mk hy215
      clear hy215
      obtain rfl := Option.some.inj H
      go_wp2_with (first | ((with_reducible refine gate_callee (f := 15) rfl ?_); refine goesL_ (some 20) rfl rfl Tryd.func15 (by kernel_rfl) rfl #[.string a2] rfl (by (try simp only [List.map_toArray, List.map_cons, List.map_nil]); first | done | rfl | (simp only [List.length_drop, List.length_take]; rfl)) ?_; (with_reducible refine (scarfref18_Labelled.calls k1 a2 t214 _ A7.out).mono ?_); rintro e w10 ⟨rfl, hb⟩; refine ⟨_, rfl, ?_⟩; have n0_ := Aside0.mk (Kd.R_below (by (with_reducible repeat (first | apply Kd.R_alloc | apply Kd.R_drewN | apply Kd.R_drew)); exact HO_7.out) hb); have n1_ := Aside0.mk (below_step (by repeat (first | (with_reducible first | exact HB.out | apply below_alloc | apply pw_below_drewN | apply below_drew1) | exact HB.out)) hb); clear HO_7; clear HB; have HO_7 := n0_; have HB := n1_; clear n0_ n1_; (try clear hb); (try clear hb2); (try clear hk); (try clear hi)) | ((with_reducible refine gate_builtin (b := .append) (xs := #[.tmp 28, .tmp 29]) rfl ?_); at_builtin; refine Kd.R_append (Kd.int .u8) (w0 := w) w.heap.size rfl (.tmp 28) (.tmp 29) 22 5 (.int .u8 0) 1 rfl Tryd.underlying22 info5 rfl (by decide) (by omega) u7 x7_1 10 [.int .u8 10] (fun _ => True) (fun _ => False) rfl rfl ?aP (fun _ hk => hk.elim) ?aF ?aO ?aB ?aS ?aL ?_; (case aP => exact rfl); (case aB => exact (by repeat (first | (with_reducible first | exact HB.out | apply below_alloc | apply pw_below_drewN | apply below_drew1) | exact HB.out))); (case aF => exact (fun _ _ => trivial)); (case aO => exact (by (with_reducible repeat (first | apply Kd.R_alloc | apply Kd.R_drewN | apply Kd.R_drew)); exact HO_7.out)); (case aS => exact (below_size (by repeat (first | (with_reducible first | exact HB.out | apply below_alloc | apply pw_below_drewN | apply below_drew1) | exact HB.out)))); (case aL => have := LMc9.out; omega); intro v216 w11 ho hb hg hat; rw [← Ny215.out] at ho; have n0_ := Aside0.mk (hb); have n1_ := Aside0.mk (ho); clear HB; clear HO_7; have HB := n0_; have HO217 := n1_; clear n0_ n1_; clear ho hb hg hat))
      go_ret
      exact ⟨_, by first | rfl | (simp [errW_none, errW_some] <;> rfl) | (simp [*, errW_none, errW_some] <;> rfl), by (with_reducible repeat (first | apply Kd.R_alloc | apply Kd.R_drewN | apply Kd.R_drew)); exact HO217.out, by repeat (first | (with_reducible first | exact HB.out | apply below_alloc | apply pw_below_drewN | apply below_drew1) | exact HB.out)⟩
     ·rw [if_neg c9] at H
      exact absurd H (by simp)
    ·rw [if_neg c8] at H
     have c8b0 : (t214.toList == ([] : List UInt8)) = false := beq_eq_false_iff_ne.mpr c8
     have c8b1 : (t214.toList != ([] : List UInt8)) = true := bne_iff_ne.mpr c8
     by_cases c12 : x7_1.length < 140737488355328
     ·rw [if_pos c12] at H
      have LMc12 := Aside0.mk c12
      clear c12
      obtain ⟨y218, hy218⟩ : ∃ y_ : List Int, y_ = (x7_1 ++ [32]) := ⟨_, rfl⟩
      replace H : (if y218.length + t214.size < 140737488355328 then ((some (y218 ++ bytesOf t214 : List Int)).bind fun y221 => (if y221.length < 140737488355328 then (some (y221 ++ [10])) else (none))) else (none)) = some r := by first | (rw [hy218]; with_reducible exact H) | (have H2_ := (Option.bind_some _ _).symm.trans H; rw [hy218]; with_reducible exact H2_) | (have H2_ := (Option.bind_some _ _).symm.trans H; with_reducible exact H2_) | with_reducible exact H | (rw [hy218]; exact H) | exact H
      have Ny218 := Aside0.mk hy218
      clear hy218
      by_cases c13 : y218.length + t214.size < 140737488355328
      ·rw [if_pos c13] at H
       have LMc13 := Aside0.mk c13
       clear c13
       obtain ⟨y221, hy221⟩ : ∃ y_ : List Int, y_ = (y218 ++ bytesOf t214) := ⟨_, rfl⟩
       replace H : (if y221.length < 140737488355328 then (some (y221 ++ [10])) else (none)) = some r := by first | (rw [hy221]; with_reducible exact H) | (have H2_ := (Option.bind_some _ _).symm.trans H; rw [hy221]; with_reducible exact H2_) | (have H2_ := (Option.bind_some _ _).symm.trans H; with_reducible exact H2_) | with_reducible exact H | (rw [hy221]; exact H) | exact H
       have Ny221 := Aside0.mk hy221
       clear hy221
       by_cases c14 : y221.length < 140737488355328
       ·rw [if_pos c14] at H
        have LMc14 := Aside0.mk c14
        clear c14
        obtain ⟨y224, hy224⟩ : ∃ y_ : List Int, y_ = (y221 ++ [10]) := ⟨_, rfl⟩
        replace H : (some y224) = some r := by first | (rw [hy224]; with_reducible exact H) | (have H2_ := (Option.bind_some _ _).symm.trans H; rw [hy224]; with_reducible exact H2_) | (have H2_ := (Option.bind_some _ _).symm.trans H; with_reducible exact H2_) | with_reducible exact H | (rw [hy224]; exact H) | exact H
        have Ny224 := Aside0.mk hy224
        clear hy224
        obtain rfl := Option.some.inj H
        go_wp2_with (first | ((with_reducible refine gate_callee (f := 15) rfl ?_); refine goesL_ (some 20) rfl rfl Tryd.func15 (by kernel_rfl) rfl #[.string a2] rfl (by (try simp only [List.map_toArray, List.map_cons, List.map_nil]); first | done | rfl | (simp only [List.length_drop, List.length_take]; rfl)) ?_; (with_reducible refine (scarfref18_Labelled.calls k1 a2 t214 _ A7.out).mono ?_); rintro e w15 ⟨rfl, hb⟩; refine ⟨_, rfl, ?_⟩; have n0_ := Aside0.mk (Kd.R_below (by (with_reducible repeat (first | apply Kd.R_alloc | apply Kd.R_drewN | apply Kd.R_drew)); exact HO_7.out) hb); have n1_ := Aside0.mk (below_step (by repeat (first | (with_reducible first | exact HB.out | apply below_alloc | apply pw_below_drewN | apply below_drew1) | exact HB.out)) hb); clear HO_7; clear HB; have HO_7 := n0_; have HB := n1_; clear n0_ n1_; (try clear hb); (try clear hb2); (try clear hk); (try clear hi)) | ((with_reducible refine gate_builtin (b := .append) (xs := #[.tmp 23, .tmp 24]) rfl ?_); at_builtin; refine Kd.R_append (Kd.int .u8) (w0 := w) w.heap.size rfl (.tmp 23) (.tmp 24) 22 5 (.int .u8 0) 1 rfl Tryd.underlying22 info5 rfl (by decide) (by omega) u7 x7_1 32 [.int .u8 32] (fun _ => True) (fun _ => False) rfl rfl ?aP (fun _ hk => hk.elim) ?aF ?aO ?aB ?aS ?aL ?_; (case aP => exact rfl); (case aB => exact (by repeat (first | (with_reducible first | exact HB.out | apply below_alloc | apply pw_below_drewN | apply below_drew1) | exact HB.out))); (case aF => exact (fun _ _ => trivial)); (case aO => exact (by (with_reducible repeat (first | apply Kd.R_alloc | apply Kd.R_drewN | apply Kd.R_drew)); exact HO_7.out)); (case aS => exact (below_size (by repeat (first | (with_reducible first | exact HB.out | apply below_alloc | apply pw_below_drewN | apply below_drew1) | exact HB.out)))); (case aL => have := LMc12.out; omega); intro v219 w16 ho hb hg hat; rw [← Ny218.out] at ho; have n0_ := Aside0.mk (hb); have n1_ := Aside0.mk (ho); clear HB; clear HO_7; have HB := n0_; have HO220 := n1_; clear n0_ n1_; clear ho hb hg hat) | (at_builtin; refine print_append_str (w0 := w) w.heap.size rfl (.tmp 25) _ 22 9 5 rfl Tryd.underlying22 Tryd.underlying9 info5 v219 y218 t214 rfl rfl ?aO ?aB ?aS ?aL ?_; (case aB => exact (by repeat (first | (with_reducible first | exact HB.out | apply below_alloc | apply pw_below_drewN | apply below_drew1) | exact HB.out))); (case aO => exact (Kd.own_of_R (by (with_reducible repeat (first | apply Kd.R_alloc | apply Kd.R_drewN | apply Kd.R_drew)); exact HO220.out))); (case aS => exact (below_size (by repeat (first | (with_reducible first | exact HB.out | apply below_alloc | apply pw_below_drewN | apply below_drew1) | exact HB.out)))); (case aL => have := LMc13.out; omega); intro v222 w17 ho0 hb hg; have ho := Kd.R_of_own (h1 := fun _ => rfl) (ok := fun _ => True) ho0 (fun _ _ => trivial); clear ho0; have hat := True.intro; rw [← Ny221.out] at ho; change Kd.R (Kd.int .u8) 5 w17 w.heap.size (fun _ => True) v222 y221 at ho; have n0_ := Aside0.mk (hb); have n1_ := Aside0.mk (ho); clear HB; clear HO220; have HB := n0_; have HO223 := n1_; clear n0_ n1_; clear ho hb hg hat) | ((with_reducible refine gate_builtin (b := .append) (xs := #[.tmp 28, .tmp 29]) rfl ?_); at_builtin; refine Kd.R_append (Kd.int .u8) (w0 := w) w.heap.size rfl (.tmp 28) (.tmp 29) 22 5 (.int .u8 0) 1 rfl Tryd.underlying22 info5 rfl (by decide) (by omega) v222 y221 10 [.int .u8 10] (fun _ => True) (fun _ => False) rfl rfl ?aP (fun _ hk => hk.elim) ?aF ?aO ?aB ?aS ?aL ?_; (case aP => exact rfl); (case aB => exact (by repeat (first | (with_reducible first | exact HB.out | apply below_alloc | apply pw_below_drewN | apply below_drew1) | exact HB.out))); (case aF => exact (fun _ _ => trivial)); (case aO => exact (by (with_reducible repeat (first | apply Kd.R_alloc | apply Kd.R_drewN | apply Kd.R_drew)); exact HO223.out)); (case aS => exact (below_size (by repeat (first | (with_reducible first | exact HB.out | apply below_alloc | apply pw_below_drewN | apply below_drew1) | exact HB.out)))); (case aL => have := LMc14.out; omega); intro v225 w18 ho hb hg hat; rw [← Ny224.out] at ho; have n0_ := Aside0.mk (hb); have n1_ := Aside0.mk (ho); clear HB; clear HO223; have HB := n0_; have HO226 := n1_; clear n0_ n1_; clear ho hb hg hat))
        go_ret
        exact ⟨_, by first | rfl | (simp [errW_none, errW_some] <;> rfl) | (simp [*, errW_none, errW_some] <;> rfl), by (with_reducible repeat (first | apply Kd.R_alloc | apply Kd.R_drewN | apply Kd.R_drew)); exact HO226.out, by repeat (first | (with_reducible first | exact HB.out | apply below_alloc | apply pw_below_drewN | apply below_drew1) | exact HB.out)⟩
       ·rw [if_neg c14] at H
        exact absurd H (by simp)
      ·rw [if_neg c13] at H
       exact absurd H (by simp)
     ·rw [if_neg c12] at H
      exact absurd H (by simp)
-- NOT PRINTED: function 21 (scarfref18_Write)
-- NOT PRINTED: function 22 (mark_Pick)
-- NOT PRINTED: function 23 (scarfref18_Pick)
-- NOT PRINTED: function 7 (scarflaw18_MarkWrites)
-- NOT PRINTED: function 8 (scarflaw18_MarkPicks)
end Go.Proofs.YtnnnbeimehfiiaaDoor.Q
-- Written by a program of this session (wip/gen_ws.py) for this claim; Lean checks it.
/-! Appends over one fact; the reference's Ended, walked; its marker lines. -/
set_option linter.unusedVariables false
set_option linter.unusedSimpArgs false
namespace Go.Proofs.YtnnnbeimehfiiaaDoor.Q
open Go Go.RowKit Go.Proofs.YtnnnbeimehfiiaaDoorW.PrintWords Go.Proofs.YtnnnbeimehfiiaaDoorW.PrintLast Go.Proofs.YtnnnbeimehfiiaaDoorW.PrintMore Go.Proofs.YtnnnbeimehfiiaaDoorW.SL
/-- A row of parts. -/
def rwP (v : Value) (e n : Nat) (cells : List Value) : Asr := row v e 5 n cells
section
variable {P : Program} {ops : Array Oper} {o : Oper} {a : Act} {Q : Exit → Act → World → Prop} {K : Act → World → Prop} {W w0 : World} {Z : Nat → Prop} {L : List Asr} {F : List FA}
/-- append(s, p): one element of five cells, its literal's row just made. -/
theorem st_push (hw : Region.wanted o (yielded ops a.tmps) = true) (s x : Operand) (t e : TypeId) (z : Value)
    (ho : o.op = .call { callee := .builtin .append, args := #[s, x], argTypes := #[t, t] })
    (ht : P.underlying t = some (.slice e)) (hinfo : (P.info? e).map (fun i => (i.zero, i.size, i.bytes)) = some (some z, 5, 104)) (hz : z.cells.size = 5)
    (i : Nat) {v : Value} {n g : Nat} {cells cs : List Value} (hs : a.eval s = v) (hx : a.eval x = .slice (some ⟨g, 0, none⟩) 1 1)
    (S : Stt w0 Z (row (.slice (some ⟨g, 0, none⟩) 1 1) e 5 1 cs :: L) F W) (hi : L[i]? = some (rwP v e n cells)) (h1 : ∀ u ∈ cs, u.oneCell' = true) (hl : (n + 1) * 104 ≤ 140737488355328)
    (h : ∀ v1 w1, Stt w0 Z (L.set i (rwP v1 e (n + 1) (cells ++ cs))) F w1 → K (a.put o.dst v1) w1) :
    if Region.wanted o (yielded ops a.tmps) = true then Oper.wp P o a W K Q else K (a.put o.dst undef) W :=
  app_step hw s x t e z 5 104 ho ht hinfo hz (by decide) (by decide) v _ n cells cs hs hx h1 (S.rowAt (i + 1) hi) (S.rowAt 0 rfl) hl
    fun v1 w1 ho hg hat => h v1 w1 (S.updRow (i + 1) hi ho hg hat).drop
end
end Go.Proofs.YtnnnbeimehfiiaaDoor.Q
-- Written by a program of this session (wip/gen_pick.py) for this claim; Lean checks it.
/-! mark.Pick: in plain Lean, and walked. -/
set_option linter.unusedVariables false
set_option linter.unusedSimpArgs false
namespace Go.Proofs.YtnnnbeimehfiiaaDoor.Q
open Go Go.RowKit Go.Proofs.YtnnnbeimehfiiaaDoorW.PrintWords Go.Proofs.YtnnnbeimehfiiaaDoorW.PrintLast Go.Proofs.YtnnnbeimehfiiaaDoorW.PrintMore Go.Proofs.YtnnnbeimehfiiaaDoorW.SL
attribute [local go_sem] max2_int min2_int max_two min_two max_three min_three max_four min_four
def sideOf (p : Pt) (side : Int) : List Int := if side = 0 then p.s0 else if side = 1 then p.s1 else p.s2
def pickPart (side : Int) (last : Bool) (acc : List Int) (p : Pt) : List Int :=
  if p.region then (if 0 ≤ side ∧ side < 3 then endNl (acc ++ sideOf p side) else acc) else if last then acc ++ p.text else endNl (acc ++ p.text)
def pickAll (side : Int) : List Pt → List Int → List Int
  | [], acc => acc
  | p :: r, acc => pickAll side r (pickPart side r.isEmpty acc p)
theorem pickAll_next {side : Int} {ps : List Pt} {i : Nat} {p : Pt} {acc R : List Int} (h : pickAll side (ps.drop i) acc = R) (hp : ps[i]? = some p) : pickAll side (ps.drop (i + 1)) (pickPart side (decide (i + 1 = ps.length)) acc p) = R := by
  have hlt := (List.getElem?_eq_some_iff.1 hp).1
  have hpe := (List.getElem?_eq_some_iff.1 hp).2
  rw [List.drop_eq_getElem_cons hlt, hpe] at h
  rw [← h]
  show _ = pickAll side (ps.drop (i + 1)) (pickPart side (ps.drop (i + 1)).isEmpty acc p)
  congr 2
  by_cases hi : i + 1 = ps.length
  · rw [List.drop_of_length_le (by omega)]; simp [hi]
  · have : ps.drop (i + 1) ≠ [] := by intro h; have := congrArg List.length h; simp at this; omega
    cases hd : ps.drop (i + 1) with
    | nil => exact absurd hd this
    | cons a r => simp [hi]
/-- What a round reads: the part in hand, the part's rows. -/
structure Rd4 (w wA w1 : World) (pb g : Nat) (p : Pt) (A1 A2 A3 A4 : Option Addr) (c1 c2 c3 c4 : Nat) (W : World) : Prop where
  b0 : W.cell? ⟨g, 0, none⟩ = some (.bool p.region)
  b1 : W.cell? ⟨g, 1, none⟩ = some (.slice A1 p.text.length c1)
  b2 : W.cell? ⟨g, 2, none⟩ = some (.slice A2 p.s0.length c2)
  b3 : W.cell? ⟨g, 3, none⟩ = some (.slice A3 p.s1.length c3)
  b4 : W.cell? ⟨g, 4, none⟩ = some (.slice A4 p.s2.length c4)
  h1 : Kd.C B8 W A1 p.text.length p.text
  h2 : Kd.C B8 W A2 p.s0.length p.s0
  h3 : Kd.C B8 W A3 p.s1.length p.s1
  h4 : Kd.C B8 W A4 p.s2.length p.s2
  bA : Below pb wA W
theorem Rd4.of {w wA w1 : World} {pb g : Nat} {p : Pt} {A1 A2 A3 A4 : Option Addr} {c1 c2 c3 c4 : Nat}
    (hbx : BoxP g #[.bool p.region, .slice A1 p.text.length c1, .slice A2 p.s0.length c2, .slice A3 p.s1.length c3, .slice A4 p.s2.length c4] w1) (hg : g ≠ pb) (hwp : w.heap.size ≤ pb) (h1 : Below pb wA w1)
    (g1 : Kd.F B8 w1 (fun k => k < w.heap.size) A1 p.text.length p.text) (g2 : Kd.F B8 w1 (fun k => k < w.heap.size) A2 p.s0.length p.s0) (g3 : Kd.F B8 w1 (fun k => k < w.heap.size) A3 p.s1.length p.s1) (g4 : Kd.F B8 w1 (fun k => k < w.heap.size) A4 p.s2.length p.s2) :
    ∀ W, Pk pb pb w1 W → Rd4 w wA w1 pb g p A1 A2 A3 A4 c1 c2 c3 c4 W := fun W hk => by
  have hW : Below pb wA W := h1.trans hk.1
  have hB := (hbx.pk hg hk).cells
  have st : ∀ k, k < w.heap.size → W.heap[k]? = w1.heap[k]? := fun k hk2 => hk.1.block k (by omega)
  exact ⟨hB.1, hB.2.1, hB.2.2.1, hB.2.2.2.1, hB.2.2.2.2, Kd.F_now (Kd.F_step g1 (fun k hk _ => st k hk)), Kd.F_now (Kd.F_step g2 (fun k hk _ => st k hk)), Kd.F_now (Kd.F_step g3 (fun k hk _ => st k hk)), Kd.F_now (Kd.F_step g4 (fun k hk _ => st k hk)), hW⟩
set_option maxHeartbeats 16000000 in
set_option maxRecDepth 100000 in
theorem Pick_calls (side : Int) (A : Option Addr) (c : Nat) (ps : List Pt) (w : World) (hr : Kd.C kP w A ps.length ps) (hc : ps.length ≤ c) (hps : ps.length ≤ 100000) (hf : ∀ p ∈ ps, p.text.length ≤ 5000000 ∧ p.s0.length ≤ 5000000 ∧ p.s1.length ≤ 5000000 ∧ p.s2.length ≤ 5000000) :
    Calls Tryd.prog 22 #[.slice A ps.length c, .int .i64 side] w fun e w' => ∃ (A' : Option Addr) (c' : Nat), e = .returned (.slice A' (pickAll side ps []).length c') ∧ (pickAll side ps []).length ≤ c' ∧ Kd.C B8 w' A' (pickAll side ps []).length (pickAll side ps []) ∧ Below w.heap.size w w' := by
 have HX := Aside0.mk (Kd.C_F kP_heap hr)
 have HC := Aside0.mk hc; have HPS := Aside0.mk hps; have HF := Aside0.mk hf
 clear hr hc hps hf
 obtain ⟨R, hR⟩ : ∃ R, pickAll side ps [] = R := ⟨_, rfl⟩
 rw [hR]
 replace hR := Aside0.mk hR
 go_enter Tryd.func22, Tryd.ntmps22
 go_upto_region 2 with (fail)
 obtain ⟨pb, hpb⟩ : ∃ pb, pb = w.heap.size := ⟨_, rfl⟩
 obtain ⟨wA, hwA⟩ : ∃ wA, wA = w.alloc (Obj.cells #[Value.slice none 0 0, Value.int IntKind.i64 0, Value.int IntKind.i8 0] 73) := ⟨_, rfl⟩
 have hPg0 : Pg pb pb [] wA := LibA.zero_isBuffer (Nat.le_refl _) (LibA.three_whole (by rw [hwA, hpb]; exact heap_alloc_new w _))
 have hbA : Below w.heap.size w wA := by rw [hwA]; exact below_alloc (Below.refl _ _) _
 have hsA : pb < wA.heap.size := by rw [hwA, hpb]; simp
 have hpw : w.heap.size ≤ pb := by omega
 rw [← hpb, ← hwA]
 have HA := Aside0.mk (⟨hPg0, hbA, hsA, hpw⟩ : _ ∧ _ ∧ _ ∧ _)
 clear hPg0 hbA hsA hpw hwA hpb
 go_wp2
 go_loopg [10] ps.length (fun kq v10 W => ∃ (ii : Int) (i : Nat) (acc : List Int), v10 = .int .i64 ii ∧ Aside0 (ii = (i : Int)) ∧ i ≤ ps.length ∧ kq = ps.length - i ∧ Aside0 (pickAll side (ps.drop i) acc = R) ∧ Aside0 (acc.length ≤ i * 200000000) ∧ Aside0 (Pg pb pb acc W ∧ Below pb wA W))
 case atStart => exact ⟨0, 0, [], rfl, ⟨rfl⟩, Nat.zero_le _, rfl, hR, ⟨Nat.le_refl _⟩, ⟨HA.out.1, Below.refl _ _⟩⟩
 case round =>
  obtain ⟨ii, i, acc, rfl, hii, hi, hgk, hall, hal, hI⟩ := hrel
  obtain ⟨wb, rfl⟩ : ∃ q, q = wr := ⟨_, rfl⟩
  by_cases hin : ii < (ps.length : Int)
  · have p0 : 0 ≤ ii := by have := hii.out; omega
    have hbw : Below w.heap.size w wb := HA.out.2.1.trans (below_lo hI.out.2 HA.out.2.2.2)
    obtain ⟨ad, x, A1, c1, A2, c2, A3, c3, A4, c4, rfl, hxi, hok, hx0, hx1, hx2, hx3, hx4, g1, g2, g3, g4⟩ := at_Pt (Kd.F_step HX.out (fun k hk _ => hbw.block k hk)) ii p0 hin
    have e0 : ii.toNat = i := by have := hii.out; omega
    rw [e0] at hxi
    have hxm := HF.out x (List.mem_of_getElem? hxi)
    have hsz : wA.heap.size ≤ wb.heap.size := hI.out.2.size
    have hg : pb < wb.heap.size := Nat.lt_of_lt_of_le HA.out.2.2.1 hsz
    have hw1 : wrap64 (ii + 1) = ii + 1 := by have := hii.out; have := HPS.out; unfold wrap64; omega
    have hw2 : wrap64 ((ps.length : Int) - 1) = (ps.length : Int) - 1 := by have := HPS.out; unfold wrap64; omega
    have G := Aside0.mk (⟨g1, g2, g3, g4, hxi, hxm, hg, hi, hgk⟩ : _ ∧ _ ∧ _ ∧ _ ∧ _ ∧ _ ∧ _ ∧ _ ∧ _)
    have hinb := eq_true hin
    have p0b := eq_true p0
    obtain ⟨rg, T, S0, S1, S2⟩ := x
    simp only at hx0 hx1 hx2 hx3 hx4
    replace e0 := Aside0.mk e0
    have hbw' := Aside0.mk hbw
    clear g1 g2 g3 g4 hxi hok hxm hsz hg hbw hi hgk
    cases rg with
    | false =>
      by_cases hlast : i + 1 = ps.length
      · have hcl := eq_false (show ¬ ii < (ps.length : Int) - 1 by have := hii.out; omega)
        have hcl2 := eq_true (show (ps.length : Int) - 1 ≤ ii by have := hii.out; omega)
        have hnext : pickAll side (ps.drop (i + 1)) (acc ++ T) = R := by
          have := pickAll_next hall.out G.out.2.2.2.2.1
          simpa [pickPart, hlast] using this
        replace hnext := Aside0.mk hnext
        go_upto_region 5 with (fail)
        have FACT := Aside0.mk (Rd4.of (w := w) (wA := wA) (pb := pb) (g := wb.heap.size) (p := ⟨false, T, S0, S1, S2⟩) (heap_alloc_new wb _) (by have := G.out.2.2.2.2.2.2.1; omega) HA.out.2.2.2 (hI.out.2.trans (below_lo (below_alloc (Below.refl _ _) (Obj.cells #[Value.bool false, Value.slice A1 T.length c1, Value.slice A2 S0.length c2, Value.slice A3 S1.length c3, Value.slice A4 S2.length c4] 50)) (by have := G.out.2.2.2.2.2.2.1; omega)))
          (Kd.F_step G.out.1.2 (fun k hk hl => (below_alloc (Below.refl wb.heap.size wb) _).block k hl)) (Kd.F_step G.out.2.1.2 (fun k hk hl => (below_alloc (Below.refl wb.heap.size wb) _).block k hl)) (Kd.F_step G.out.2.2.1.2 (fun k hk hl => (below_alloc (Below.refl wb.heap.size wb) _).block k hl)) (Kd.F_step G.out.2.2.2.1.2 (fun k hk hl => (below_alloc (Below.refl wb.heap.size wb) _).block k hl)))
        have P : Aside0 (Pq pb (i * 200000000) acc (wb.alloc (Obj.cells #[Value.bool false, Value.slice A1 T.length c1, Value.slice A2 S0.length c2, Value.slice A3 S1.length c3, Value.slice A4 S2.length c4] 50))) := ⟨hI.out.1.below (below_alloc (Below.refl _ _) _), by have := G.out.2.2.2.2.2.2.1; simp; omega, hal.out⟩
        have hi3 : i ≤ 100000 := Nat.le_trans G.out.2.2.2.2.2.2.2.1 HPS.out
        generalize wb.alloc (Obj.cells #[Value.bool false, Value.slice A1 T.length c1, Value.slice A2 S0.length c2, Value.slice A3 S1.length c3, Value.slice A4 S2.length c4] 50) = w1 at FACT P ⊢
        have K := Aside0.mk (Pk.refl pb pb w1)
        have FX := Aside0.mk (FACT.out _ K.out)
        have fb0 := FX.out.b0
        have fb1 := FX.out.b1
        have fb2 := FX.out.b2
        have fb3 := FX.out.b3
        have fb4 := FX.out.b4
        simp only at fb0 fb1 fb2 fb3 fb4
        clear hx0 hx1 hx2 hx3 hx4
        go_wp2_with (first | (go_at_call 34; refine (write_st P.out _ _ _ FX.out.h1 (row_apart G.out.1.2 HA.out.2.2.2) G.out.2.2.2.2.2.1.1 (by omega)).mono ?_; rintro e wN ⟨rfl, hp, hk⟩; replace K := Aside0.mk (K.out.trans hk); replace P := Aside0.mk hp; replace FX := Aside0.mk (FACT.out _ K.out); clear hp hk; clear fb0 fb1 fb2 fb3 fb4; have fb0 := FX.out.b0; have fb1 := FX.out.b1; have fb2 := FX.out.b2; have fb3 := FX.out.b3; have fb4 := FX.out.b4; simp only at fb0 fb1 fb2 fb3 fb4) | (go_at_call 35; refine (shut_st P.out (by omega)).mono ?_; rintro e wN ⟨rfl, hp, hk⟩; replace K := Aside0.mk (K.out.trans hk); replace P := Aside0.mk hp; replace FX := Aside0.mk (FACT.out _ K.out); clear hp hk; clear fb0 fb1 fb2 fb3 fb4; have fb0 := FX.out.b0; have fb1 := FX.out.b1; have fb2 := FX.out.b2; have fb3 := FX.out.b3; have fb4 := FX.out.b4; simp only at fb0 fb1 fb2 fb3 fb4))
        go_roundg (ps.length - (i + 1))
        case rel => exact ⟨wrap64 (ii + 1), i + 1, _, by first | rfl | (simp; done) | (simp [hw1]; done), ⟨by rw [hw1]; have := hii.out; omega⟩, by have := hii.out; omega, rfl, Aside0.mk hnext.out, ⟨Nat.le_trans P.out.2.2 (by omega)⟩, ⟨P.out.1, FX.out.bA⟩⟩
        case measure => have := hii.out; have := G.out.2.2.2.2.2.2.2.2; omega
      · have hcl := eq_true (show ii < (ps.length : Int) - 1 by have := hii.out; omega)
        have hnext : pickAll side (ps.drop (i + 1)) (endNl (acc ++ T)) = R := by
          have := pickAll_next hall.out G.out.2.2.2.2.1
          simpa [pickPart, hlast] using this
        replace hnext := Aside0.mk hnext
        go_upto_region 5 with (fail)
        have FACT := Aside0.mk (Rd4.of (w := w) (wA := wA) (pb := pb) (g := wb.heap.size) (p := ⟨false, T, S0, S1, S2⟩) (heap_alloc_new wb _) (by have := G.out.2.2.2.2.2.2.1; omega) HA.out.2.2.2 (hI.out.2.trans (below_lo (below_alloc (Below.refl _ _) (Obj.cells #[Value.bool false, Value.slice A1 T.length c1, Value.slice A2 S0.length c2, Value.slice A3 S1.length c3, Value.slice A4 S2.length c4] 50)) (by have := G.out.2.2.2.2.2.2.1; omega)))
          (Kd.F_step G.out.1.2 (fun k hk hl => (below_alloc (Below.refl wb.heap.size wb) _).block k hl)) (Kd.F_step G.out.2.1.2 (fun k hk hl => (below_alloc (Below.refl wb.heap.size wb) _).block k hl)) (Kd.F_step G.out.2.2.1.2 (fun k hk hl => (below_alloc (Below.refl wb.heap.size wb) _).block k hl)) (Kd.F_step G.out.2.2.2.1.2 (fun k hk hl => (below_alloc (Below.refl wb.heap.size wb) _).block k hl)))
        have P : Aside0 (Pq pb (i * 200000000) acc (wb.alloc (Obj.cells #[Value.bool false, Value.slice A1 T.length c1, Value.slice A2 S0.length c2, Value.slice A3 S1.length c3, Value.slice A4 S2.length c4] 50))) := ⟨hI.out.1.below (below_alloc (Below.refl _ _) _), by have := G.out.2.2.2.2.2.2.1; simp; omega, hal.out⟩
        have hi3 : i ≤ 100000 := Nat.le_trans G.out.2.2.2.2.2.2.2.1 HPS.out
        generalize wb.alloc (Obj.cells #[Value.bool false, Value.slice A1 T.length c1, Value.slice A2 S0.length c2, Value.slice A3 S1.length c3, Value.slice A4 S2.length c4] 50) = w1 at FACT P ⊢
        have K := Aside0.mk (Pk.refl pb pb w1)
        have FX := Aside0.mk (FACT.out _ K.out)
        have fb0 := FX.out.b0
        have fb1 := FX.out.b1
        have fb2 := FX.out.b2
        have fb3 := FX.out.b3
        have fb4 := FX.out.b4
        simp only at fb0 fb1 fb2 fb3 fb4
        clear hx0 hx1 hx2 hx3 hx4
        go_wp2_with (first | (go_at_call 34; refine (write_st P.out _ _ _ FX.out.h1 (row_apart G.out.1.2 HA.out.2.2.2) G.out.2.2.2.2.2.1.1 (by omega)).mono ?_; rintro e wN ⟨rfl, hp, hk⟩; replace K := Aside0.mk (K.out.trans hk); replace P := Aside0.mk hp; replace FX := Aside0.mk (FACT.out _ K.out); clear hp hk; clear fb0 fb1 fb2 fb3 fb4; have fb0 := FX.out.b0; have fb1 := FX.out.b1; have fb2 := FX.out.b2; have fb3 := FX.out.b3; have fb4 := FX.out.b4; simp only at fb0 fb1 fb2 fb3 fb4) | (go_at_call 35; refine (shut_st P.out (by omega)).mono ?_; rintro e wN ⟨rfl, hp, hk⟩; replace K := Aside0.mk (K.out.trans hk); replace P := Aside0.mk hp; replace FX := Aside0.mk (FACT.out _ K.out); clear hp hk; clear fb0 fb1 fb2 fb3 fb4; have fb0 := FX.out.b0; have fb1 := FX.out.b1; have fb2 := FX.out.b2; have fb3 := FX.out.b3; have fb4 := FX.out.b4; simp only at fb0 fb1 fb2 fb3 fb4))
        go_roundg (ps.length - (i + 1))
        case rel => exact ⟨wrap64 (ii + 1), i + 1, _, by first | rfl | (simp; done) | (simp [hw1]; done), ⟨by rw [hw1]; have := hii.out; omega⟩, by have := hii.out; omega, rfl, Aside0.mk hnext.out, ⟨Nat.le_trans P.out.2.2 (by omega)⟩, ⟨P.out.1, FX.out.bA⟩⟩
        case measure => have := hii.out; have := G.out.2.2.2.2.2.2.2.2; omega
    | true =>
      by_cases hs0 : side = 0
      · subst hs0
        have hnext : pickAll 0 (ps.drop (i + 1)) (endNl (acc ++ S0)) = R := by
          have := pickAll_next hall.out G.out.2.2.2.2.1
          simpa [pickPart, sideOf] using this
        replace hnext := Aside0.mk hnext
        go_upto_region 5 with (fail)
        have FACT := Aside0.mk (Rd4.of (w := w) (wA := wA) (pb := pb) (g := wb.heap.size) (p := ⟨true, T, S0, S1, S2⟩) (heap_alloc_new wb _) (by have := G.out.2.2.2.2.2.2.1; omega) HA.out.2.2.2 (hI.out.2.trans (below_lo (below_alloc (Below.refl _ _) (Obj.cells #[Value.bool true, Value.slice A1 T.length c1, Value.slice A2 S0.length c2, Value.slice A3 S1.length c3, Value.slice A4 S2.length c4] 50)) (by have := G.out.2.2.2.2.2.2.1; omega)))
          (Kd.F_step G.out.1.2 (fun k hk hl => (below_alloc (Below.refl wb.heap.size wb) _).block k hl)) (Kd.F_step G.out.2.1.2 (fun k hk hl => (below_alloc (Below.refl wb.heap.size wb) _).block k hl)) (Kd.F_step G.out.2.2.1.2 (fun k hk hl => (below_alloc (Below.refl wb.heap.size wb) _).block k hl)) (Kd.F_step G.out.2.2.2.1.2 (fun k hk hl => (below_alloc (Below.refl wb.heap.size wb) _).block k hl)))
        have P : Aside0 (Pq pb (i * 200000000) acc (wb.alloc (Obj.cells #[Value.bool true, Value.slice A1 T.length c1, Value.slice A2 S0.length c2, Value.slice A3 S1.length c3, Value.slice A4 S2.length c4] 50))) := ⟨hI.out.1.below (below_alloc (Below.refl _ _) _), by have := G.out.2.2.2.2.2.2.1; simp; omega, hal.out⟩
        have hi3 : i ≤ 100000 := Nat.le_trans G.out.2.2.2.2.2.2.2.1 HPS.out
        generalize wb.alloc (Obj.cells #[Value.bool true, Value.slice A1 T.length c1, Value.slice A2 S0.length c2, Value.slice A3 S1.length c3, Value.slice A4 S2.length c4] 50) = w1 at FACT P ⊢
        have K := Aside0.mk (Pk.refl pb pb w1)
        have FX := Aside0.mk (FACT.out _ K.out)
        have fb0 := FX.out.b0
        have fb1 := FX.out.b1
        have fb2 := FX.out.b2
        have fb3 := FX.out.b3
        have fb4 := FX.out.b4
        simp only at fb0 fb1 fb2 fb3 fb4
        clear hx0 hx1 hx2 hx3 hx4
        go_wp2_with (first | (go_at_call 37; refine (lines_st P.out _ _ _ (by first | exact FX.out.h2 | exact FX.out.h3 | exact FX.out.h4) (by first | exact row_apart G.out.2.1.2 HA.out.2.2.2 | exact row_apart G.out.2.2.1.2 HA.out.2.2.2 | exact row_apart G.out.2.2.2.1.2 HA.out.2.2.2) (by have := G.out.2.2.2.2.2.1; first | exact this.2.1 | exact this.2.2.1 | exact this.2.2.2) (by omega)).mono ?_; rintro e wN ⟨rfl, hp, hk⟩; replace K := Aside0.mk (K.out.trans hk); replace P := Aside0.mk hp; replace FX := Aside0.mk (FACT.out _ K.out); clear hp hk; clear fb0 fb1 fb2 fb3 fb4; have fb0 := FX.out.b0; have fb1 := FX.out.b1; have fb2 := FX.out.b2; have fb3 := FX.out.b3; have fb4 := FX.out.b4; simp only at fb0 fb1 fb2 fb3 fb4))
        go_roundg (ps.length - (i + 1))
        case rel => exact ⟨wrap64 (ii + 1), i + 1, _, by first | rfl | (simp; done) | (simp [hw1]; done), ⟨by rw [hw1]; have := hii.out; omega⟩, by have := hii.out; omega, rfl, Aside0.mk hnext.out, ⟨Nat.le_trans P.out.2.2 (by omega)⟩, ⟨P.out.1, FX.out.bA⟩⟩
        case measure => have := hii.out; have := G.out.2.2.2.2.2.2.2.2; omega
      by_cases hs1 : side = 1
      · subst hs1
        have hnext : pickAll 1 (ps.drop (i + 1)) (endNl (acc ++ S1)) = R := by
          have := pickAll_next hall.out G.out.2.2.2.2.1
          simpa [pickPart, sideOf] using this
        replace hnext := Aside0.mk hnext
        go_upto_region 5 with (fail)
        have FACT := Aside0.mk (Rd4.of (w := w) (wA := wA) (pb := pb) (g := wb.heap.size) (p := ⟨true, T, S0, S1, S2⟩) (heap_alloc_new wb _) (by have := G.out.2.2.2.2.2.2.1; omega) HA.out.2.2.2 (hI.out.2.trans (below_lo (below_alloc (Below.refl _ _) (Obj.cells #[Value.bool true, Value.slice A1 T.length c1, Value.slice A2 S0.length c2, Value.slice A3 S1.length c3, Value.slice A4 S2.length c4] 50)) (by have := G.out.2.2.2.2.2.2.1; omega)))
          (Kd.F_step G.out.1.2 (fun k hk hl => (below_alloc (Below.refl wb.heap.size wb) _).block k hl)) (Kd.F_step G.out.2.1.2 (fun k hk hl => (below_alloc (Below.refl wb.heap.size wb) _).block k hl)) (Kd.F_step G.out.2.2.1.2 (fun k hk hl => (below_alloc (Below.refl wb.heap.size wb) _).block k hl)) (Kd.F_step G.out.2.2.2.1.2 (fun k hk hl => (below_alloc (Below.refl wb.heap.size wb) _).block k hl)))
        have P : Aside0 (Pq pb (i * 200000000) acc (wb.alloc (Obj.cells #[Value.bool true, Value.slice A1 T.length c1, Value.slice A2 S0.length c2, Value.slice A3 S1.length c3, Value.slice A4 S2.length c4] 50))) := ⟨hI.out.1.below (below_alloc (Below.refl _ _) _), by have := G.out.2.2.2.2.2.2.1; simp; omega, hal.out⟩
        have hi3 : i ≤ 100000 := Nat.le_trans G.out.2.2.2.2.2.2.2.1 HPS.out
        generalize wb.alloc (Obj.cells #[Value.bool true, Value.slice A1 T.length c1, Value.slice A2 S0.length c2, Value.slice A3 S1.length c3, Value.slice A4 S2.length c4] 50) = w1 at FACT P ⊢
        have K := Aside0.mk (Pk.refl pb pb w1)
        have FX := Aside0.mk (FACT.out _ K.out)
        have fb0 := FX.out.b0
        have fb1 := FX.out.b1
        have fb2 := FX.out.b2
        have fb3 := FX.out.b3
        have fb4 := FX.out.b4
        simp only at fb0 fb1 fb2 fb3 fb4
        clear hx0 hx1 hx2 hx3 hx4
        go_wp2_with (first | (go_at_call 37; refine (lines_st P.out _ _ _ (by first | exact FX.out.h2 | exact FX.out.h3 | exact FX.out.h4) (by first | exact row_apart G.out.2.1.2 HA.out.2.2.2 | exact row_apart G.out.2.2.1.2 HA.out.2.2.2 | exact row_apart G.out.2.2.2.1.2 HA.out.2.2.2) (by have := G.out.2.2.2.2.2.1; first | exact this.2.1 | exact this.2.2.1 | exact this.2.2.2) (by omega)).mono ?_; rintro e wN ⟨rfl, hp, hk⟩; replace K := Aside0.mk (K.out.trans hk); replace P := Aside0.mk hp; replace FX := Aside0.mk (FACT.out _ K.out); clear hp hk; clear fb0 fb1 fb2 fb3 fb4; have fb0 := FX.out.b0; have fb1 := FX.out.b1; have fb2 := FX.out.b2; have fb3 := FX.out.b3; have fb4 := FX.out.b4; simp only at fb0 fb1 fb2 fb3 fb4))
        go_roundg (ps.length - (i + 1))
        case rel => exact ⟨wrap64 (ii + 1), i + 1, _, by first | rfl | (simp; done) | (simp [hw1]; done), ⟨by rw [hw1]; have := hii.out; omega⟩, by have := hii.out; omega, rfl, Aside0.mk hnext.out, ⟨Nat.le_trans P.out.2.2 (by omega)⟩, ⟨P.out.1, FX.out.bA⟩⟩
        case measure => have := hii.out; have := G.out.2.2.2.2.2.2.2.2; omega
      by_cases hs2 : side = 2
      · subst hs2
        have hnext : pickAll 2 (ps.drop (i + 1)) (endNl (acc ++ S2)) = R := by
          have := pickAll_next hall.out G.out.2.2.2.2.1
          simpa [pickPart, sideOf] using this
        replace hnext := Aside0.mk hnext
        go_upto_region 5 with (fail)
        have FACT := Aside0.mk (Rd4.of (w := w) (wA := wA) (pb := pb) (g := wb.heap.size) (p := ⟨true, T, S0, S1, S2⟩) (heap_alloc_new wb _) (by have := G.out.2.2.2.2.2.2.1; omega) HA.out.2.2.2 (hI.out.2.trans (below_lo (below_alloc (Below.refl _ _) (Obj.cells #[Value.bool true, Value.slice A1 T.length c1, Value.slice A2 S0.length c2, Value.slice A3 S1.length c3, Value.slice A4 S2.length c4] 50)) (by have := G.out.2.2.2.2.2.2.1; omega)))
          (Kd.F_step G.out.1.2 (fun k hk hl => (below_alloc (Below.refl wb.heap.size wb) _).block k hl)) (Kd.F_step G.out.2.1.2 (fun k hk hl => (below_alloc (Below.refl wb.heap.size wb) _).block k hl)) (Kd.F_step G.out.2.2.1.2 (fun k hk hl => (below_alloc (Below.refl wb.heap.size wb) _).block k hl)) (Kd.F_step G.out.2.2.2.1.2 (fun k hk hl => (below_alloc (Below.refl wb.heap.size wb) _).block k hl)))
        have P : Aside0 (Pq pb (i * 200000000) acc (wb.alloc (Obj.cells #[Value.bool true, Value.slice A1 T.length c1, Value.slice A2 S0.length c2, Value.slice A3 S1.length c3, Value.slice A4 S2.length c4] 50))) := ⟨hI.out.1.below (below_alloc (Below.refl _ _) _), by have := G.out.2.2.2.2.2.2.1; simp; omega, hal.out⟩
        have hi3 : i ≤ 100000 := Nat.le_trans G.out.2.2.2.2.2.2.2.1 HPS.out
        generalize wb.alloc (Obj.cells #[Value.bool true, Value.slice A1 T.length c1, Value.slice A2 S0.length c2, Value.slice A3 S1.length c3, Value.slice A4 S2.length c4] 50) = w1 at FACT P ⊢
        have K := Aside0.mk (Pk.refl pb pb w1)
        have FX := Aside0.mk (FACT.out _ K.out)
        have fb0 := FX.out.b0
        have fb1 := FX.out.b1
        have fb2 := FX.out.b2
        have fb3 := FX.out.b3
        have fb4 := FX.out.b4
        simp only at fb0 fb1 fb2 fb3 fb4
        clear hx0 hx1 hx2 hx3 hx4
        go_wp2_with (first | (go_at_call 37; refine (lines_st P.out _ _ _ (by first | exact FX.out.h2 | exact FX.out.h3 | exact FX.out.h4) (by first | exact row_apart G.out.2.1.2 HA.out.2.2.2 | exact row_apart G.out.2.2.1.2 HA.out.2.2.2 | exact row_apart G.out.2.2.2.1.2 HA.out.2.2.2) (by have := G.out.2.2.2.2.2.1; first | exact this.2.1 | exact this.2.2.1 | exact this.2.2.2) (by omega)).mono ?_; rintro e wN ⟨rfl, hp, hk⟩; replace K := Aside0.mk (K.out.trans hk); replace P := Aside0.mk hp; replace FX := Aside0.mk (FACT.out _ K.out); clear hp hk; clear fb0 fb1 fb2 fb3 fb4; have fb0 := FX.out.b0; have fb1 := FX.out.b1; have fb2 := FX.out.b2; have fb3 := FX.out.b3; have fb4 := FX.out.b4; simp only at fb0 fb1 fb2 fb3 fb4))
        go_roundg (ps.length - (i + 1))
        case rel => exact ⟨wrap64 (ii + 1), i + 1, _, by first | rfl | (simp; done) | (simp [hw1]; done), ⟨by rw [hw1]; have := hii.out; omega⟩, by have := hii.out; omega, rfl, Aside0.mk hnext.out, ⟨Nat.le_trans P.out.2.2 (by omega)⟩, ⟨P.out.1, FX.out.bA⟩⟩
        case measure => have := hii.out; have := G.out.2.2.2.2.2.2.2.2; omega
      have hso : ¬ (0 ≤ side ∧ side < 3) := by omega
      have hnext : pickAll side (ps.drop (i + 1)) acc = R := by
        have := pickAll_next hall.out G.out.2.2.2.2.1
        simpa [pickPart, if_neg hso] using this
      replace hnext := Aside0.mk hnext
      clear hs0 hs1 hs2
      by_cases hneg : 0 ≤ side
      · have hs3 := eq_false (show ¬ side < 3 by omega)
        have hs4 := eq_true (show 3 ≤ side by omega)
        have hs5 := eq_true hneg
        clear hneg hso
        go_upto_region 5 with (fail)
        have FACT := Aside0.mk (Rd4.of (w := w) (wA := wA) (pb := pb) (g := wb.heap.size) (p := ⟨true, T, S0, S1, S2⟩) (heap_alloc_new wb _) (by have := G.out.2.2.2.2.2.2.1; omega) HA.out.2.2.2 (hI.out.2.trans (below_lo (below_alloc (Below.refl _ _) (Obj.cells #[Value.bool true, Value.slice A1 T.length c1, Value.slice A2 S0.length c2, Value.slice A3 S1.length c3, Value.slice A4 S2.length c4] 50)) (by have := G.out.2.2.2.2.2.2.1; omega)))
          (Kd.F_step G.out.1.2 (fun k hk hl => (below_alloc (Below.refl wb.heap.size wb) _).block k hl)) (Kd.F_step G.out.2.1.2 (fun k hk hl => (below_alloc (Below.refl wb.heap.size wb) _).block k hl)) (Kd.F_step G.out.2.2.1.2 (fun k hk hl => (below_alloc (Below.refl wb.heap.size wb) _).block k hl)) (Kd.F_step G.out.2.2.2.1.2 (fun k hk hl => (below_alloc (Below.refl wb.heap.size wb) _).block k hl)))
        have P : Aside0 (Pq pb (i * 200000000) acc (wb.alloc (Obj.cells #[Value.bool true, Value.slice A1 T.length c1, Value.slice A2 S0.length c2, Value.slice A3 S1.length c3, Value.slice A4 S2.length c4] 50))) := ⟨hI.out.1.below (below_alloc (Below.refl _ _) _), by have := G.out.2.2.2.2.2.2.1; simp; omega, hal.out⟩
        have hi3 : i ≤ 100000 := Nat.le_trans G.out.2.2.2.2.2.2.2.1 HPS.out
        generalize wb.alloc (Obj.cells #[Value.bool true, Value.slice A1 T.length c1, Value.slice A2 S0.length c2, Value.slice A3 S1.length c3, Value.slice A4 S2.length c4] 50) = w1 at FACT P ⊢
        have K := Aside0.mk (Pk.refl pb pb w1)
        have FX := Aside0.mk (FACT.out _ K.out)
        have fb0 := FX.out.b0
        have fb1 := FX.out.b1
        have fb2 := FX.out.b2
        have fb3 := FX.out.b3
        have fb4 := FX.out.b4
        simp only at fb0 fb1 fb2 fb3 fb4
        clear hx0 hx1 hx2 hx3 hx4
        go_wp2_with (first | (go_at_call 37; refine (lines_st P.out _ _ _ (by first | exact FX.out.h2 | exact FX.out.h3 | exact FX.out.h4) (by first | exact row_apart G.out.2.1.2 HA.out.2.2.2 | exact row_apart G.out.2.2.1.2 HA.out.2.2.2 | exact row_apart G.out.2.2.2.1.2 HA.out.2.2.2) (by have := G.out.2.2.2.2.2.1; first | exact this.2.1 | exact this.2.2.1 | exact this.2.2.2) (by omega)).mono ?_; rintro e wN ⟨rfl, hp, hk⟩; replace K := Aside0.mk (K.out.trans hk); replace P := Aside0.mk hp; replace FX := Aside0.mk (FACT.out _ K.out); clear hp hk; clear fb0 fb1 fb2 fb3 fb4; have fb0 := FX.out.b0; have fb1 := FX.out.b1; have fb2 := FX.out.b2; have fb3 := FX.out.b3; have fb4 := FX.out.b4; simp only at fb0 fb1 fb2 fb3 fb4))
        go_roundg (ps.length - (i + 1))
        case rel => exact ⟨wrap64 (ii + 1), i + 1, _, by first | rfl | (simp; done) | (simp [hw1]; done), ⟨by rw [hw1]; have := hii.out; omega⟩, by have := hii.out; omega, rfl, Aside0.mk hnext.out, ⟨Nat.le_trans P.out.2.2 (by omega)⟩, ⟨P.out.1, FX.out.bA⟩⟩
        case measure => have := hii.out; have := G.out.2.2.2.2.2.2.2.2; omega
      · have hs4 := eq_true (show side < 0 by omega)
        have hs5 := eq_false hneg
        clear hneg hso
        go_upto_region 5 with (fail)
        have FACT := Aside0.mk (Rd4.of (w := w) (wA := wA) (pb := pb) (g := wb.heap.size) (p := ⟨true, T, S0, S1, S2⟩) (heap_alloc_new wb _) (by have := G.out.2.2.2.2.2.2.1; omega) HA.out.2.2.2 (hI.out.2.trans (below_lo (below_alloc (Below.refl _ _) (Obj.cells #[Value.bool true, Value.slice A1 T.length c1, Value.slice A2 S0.length c2, Value.slice A3 S1.length c3, Value.slice A4 S2.length c4] 50)) (by have := G.out.2.2.2.2.2.2.1; omega)))
          (Kd.F_step G.out.1.2 (fun k hk hl => (below_alloc (Below.refl wb.heap.size wb) _).block k hl)) (Kd.F_step G.out.2.1.2 (fun k hk hl => (below_alloc (Below.refl wb.heap.size wb) _).block k hl)) (Kd.F_step G.out.2.2.1.2 (fun k hk hl => (below_alloc (Below.refl wb.heap.size wb) _).block k hl)) (Kd.F_step G.out.2.2.2.1.2 (fun k hk hl => (below_alloc (Below.refl wb.heap.size wb) _).block k hl)))
        have P : Aside0 (Pq pb (i * 200000000) acc (wb.alloc (Obj.cells #[Value.bool true, Value.slice A1 T.length c1, Value.slice A2 S0.length c2, Value.slice A3 S1.length c3, Value.slice A4 S2.length c4] 50))) := ⟨hI.out.1.below (below_alloc (Below.refl _ _) _), by have := G.out.2.2.2.2.2.2.1; simp; omega, hal.out⟩
        have hi3 : i ≤ 100000 := Nat.le_trans G.out.2.2.2.2.2.2.2.1 HPS.out
        generalize wb.alloc (Obj.cells #[Value.bool true, Value.slice A1 T.length c1, Value.slice A2 S0.length c2, Value.slice A3 S1.length c3, Value.slice A4 S2.length c4] 50) = w1 at FACT P ⊢
        have K := Aside0.mk (Pk.refl pb pb w1)
        have FX := Aside0.mk (FACT.out _ K.out)
        have fb0 := FX.out.b0
        have fb1 := FX.out.b1
        have fb2 := FX.out.b2
        have fb3 := FX.out.b3
        have fb4 := FX.out.b4
        simp only at fb0 fb1 fb2 fb3 fb4
        clear hx0 hx1 hx2 hx3 hx4
        go_wp2_with (first | (go_at_call 37; refine (lines_st P.out _ _ _ (by first | exact FX.out.h2 | exact FX.out.h3 | exact FX.out.h4) (by first | exact row_apart G.out.2.1.2 HA.out.2.2.2 | exact row_apart G.out.2.2.1.2 HA.out.2.2.2 | exact row_apart G.out.2.2.2.1.2 HA.out.2.2.2) (by have := G.out.2.2.2.2.2.1; first | exact this.2.1 | exact this.2.2.1 | exact this.2.2.2) (by omega)).mono ?_; rintro e wN ⟨rfl, hp, hk⟩; replace K := Aside0.mk (K.out.trans hk); replace P := Aside0.mk hp; replace FX := Aside0.mk (FACT.out _ K.out); clear hp hk; clear fb0 fb1 fb2 fb3 fb4; have fb0 := FX.out.b0; have fb1 := FX.out.b1; have fb2 := FX.out.b2; have fb3 := FX.out.b3; have fb4 := FX.out.b4; simp only at fb0 fb1 fb2 fb3 fb4))
        go_roundg (ps.length - (i + 1))
        case rel => exact ⟨wrap64 (ii + 1), i + 1, _, by first | rfl | (simp; done) | (simp [hw1]; done), ⟨by rw [hw1]; have := hii.out; omega⟩, by have := hii.out; omega, rfl, Aside0.mk hnext.out, ⟨Nat.le_trans P.out.2.2 (by omega)⟩, ⟨P.out.1, FX.out.bA⟩⟩
        case measure => have := hii.out; have := G.out.2.2.2.2.2.2.2.2; omega
  · have hi' : i = ps.length := by have := hii.out; omega
    have hacc : acc = R := by have := hall.out; rw [hi', List.drop_of_length_le (Nat.le_refl _)] at this; exact this
    subst hacc
    have hlen : acc.length ≤ 140737488355328 := by have := hal.out; have := HPS.out; omega
    replace hlen := Aside0.mk hlen
    clear hi'
    go_wp2_with (go_at_call 38; refine (out_calls pb pb acc wb hI.out.1 hlen.out).mono ?_; rintro e w5 ⟨A5, c5, rfl, hc5, hC5, hb5⟩; have HH := Aside0.mk (⟨hc5, hC5, hb5⟩ : _ ∧ _ ∧ _); clear hc5 hC5 hb5)
    go_ret
    refine ⟨A5, c5, rfl, HH.out.1, HH.out.2.1, ?_⟩
    have hbw : Below w.heap.size w wb := HA.out.2.1.trans (below_lo hI.out.2 HA.out.2.2.2)
    exact hbw.trans (below_lo HH.out.2.2 hbw.size)
end Go.Proofs.YtnnnbeimehfiiaaDoor.Q
-- Written by a program of this session (wip/gen_refw.py) for this claim; Lean checks it.
/-! The reference's Pick and Write: in plain Lean, and walked. -/
set_option linter.unusedVariables false
set_option linter.unusedSimpArgs false
namespace Go.Proofs.YtnnnbeimehfiiaaDoor.Q
open Go Go.RowKit Go.Proofs.YtnnnbeimehfiiaaDoorW.PrintWords Go.Proofs.YtnnnbeimehfiiaaDoorW.PrintLast Go.Proofs.YtnnnbeimehfiiaaDoorW.PrintMore Go.Proofs.YtnnnbeimehfiiaaDoorW.SL
attribute [local go_sem] max2_int min2_int max_two min_two max_three min_three max_four min_four
def rpPart (side : Int) (acc : List Int) (p : Pt) : List Int :=
  if p.region then (if 0 ≤ side ∧ side < 3 then endNl acc ++ endNl (sideOf p side) else endNl acc) else endNl acc ++ p.text
def rpAll (side : Int) : List Pt → List Int → List Int
  | [], acc => acc
  | p :: r, acc => rpAll side r (rpPart side acc p)
theorem endNl_app {a s : List Int} (h : endNl a = a) : endNl (a ++ s) = a ++ endNl s := by
  rcases List.eq_nil_or_concat s with rfl | ⟨r, x, hs⟩
  · rw [List.append_nil, endNl_nil, List.append_nil, h]
  · have h2 : s = r ++ [x] := by simpa using hs
    subst h2
    rw [← List.append_assoc, endNl_snoc, endNl_snoc]
    split <;> simp
theorem endNl_idem (a : List Int) : endNl (endNl a) = endNl a := by
  rcases List.eq_nil_or_concat a with rfl | ⟨r, x, hs⟩
  · rfl
  · have h2 : a = r ++ [x] := by simpa using hs
    subst h2
    rw [endNl_snoc]
    split
    · rename_i hx; rw [endNl_snoc, if_pos hx]
    · rw [endNl_snoc]; simp
theorem endNl_line (a : List Int) (x : UInt8) (n : Nat) (s : ByteArray) : endNl (a ++ mkLine x n s) = a ++ mkLine x n s := by
  unfold mkLine
  rw [← List.append_assoc, endNl_snoc, if_pos rfl]
/-- Both Picks answer the same. -/
theorem pick_same (side : Int) : ∀ (ps : List Pt) (r : List Int), ps ≠ [] → pickAll side ps (endNl r) = rpAll side ps r
  | [], r, h => absurd rfl h
  | [p], r, _ => by
    show pickPart side true (endNl r) p = rpPart side r p
    unfold pickPart rpPart
    split
    · split
      · rw [endNl_app (endNl_idem r)]
      · rfl
    · rfl
  | p :: q :: t, r, _ => by
    show pickAll side (q :: t) (pickPart side false (endNl r) p) = rpAll side (q :: t) (rpPart side r p)
    rw [← pick_same side (q :: t) (rpPart side r p) (by simp)]
    congr 1
    unfold pickPart rpPart
    split
    · split
      · rw [endNl_app (endNl_idem r), endNl_app (endNl_idem r), endNl_idem]
      · rw [endNl_idem]
    · rfl
theorem pick_eq (side : Int) (ps : List Pt) : pickAll side ps [] = rpAll side ps [] := by
  by_cases h : ps = []
  · subst h; rfl
  · exact pick_same side ps [] h
theorem box5 {w : World} {g t : Nat} {c0 c1 c2 c3 c4 : Value} (h : w.heap[g]? = some (.cells #[c0, c1, c2, c3, c4] t (0, 0))) : w.cell? ⟨g, 0, none⟩ = some c0 ∧ w.cell? ⟨g, 1, none⟩ = some c1 ∧ w.cell? ⟨g, 2, none⟩ = some c2 ∧ w.cell? ⟨g, 3, none⟩ = some c3 ∧ w.cell? ⟨g, 4, none⟩ = some c4 :=
  ⟨(blk_cell h 0).trans rfl, (blk_cell h 1).trans rfl, (blk_cell h 2).trans rfl, (blk_cell h 3).trans rfl, (blk_cell h 4).trans rfl⟩
end Go.Proofs.YtnnnbeimehfiiaaDoor.Q
/-! MarkBack and MarkPicks in plain Lean: what was written is read as it was, joined; a side of it is that side. -/
set_option linter.unusedVariables false
set_option linter.unusedSimpArgs false
namespace Go.Proofs.YtnnnbeimehfiiaaDoor.Q
open Go Go.RowKit Go.Proofs.YtnnnbeimehfiiaaDoorW.PrintWords Go.Proofs.YtnnnbeimehfiiaaDoorW.SL
def jTxt (last : Bool) (p : Pt) : List Int := if last then p.text else endNl p.text
def jAdd (t : List Int) (q : Pt) : Pt := ⟨q.region, endNl q.text ++ t, q.s0, q.s1, q.s2⟩
def jPart (last : Bool) (out : List Pt) (p : Pt) : List Pt :=
  if p.region then out ++ [⟨true, [], endNl p.s0, endNl p.s1, endNl p.s2⟩] else
  if jTxt last p = [] then out else match out.getLast? with
    | some q => if q.region then out ++ [⟨false, jTxt last p, [], [], []⟩] else onLast (jAdd (jTxt last p)) out
    | none => [⟨false, jTxt last p, [], [], []⟩]
def jAll : List Pt → List Pt → List Pt
  | [], out => out
  | p :: r, out => jAll r (jPart r.isEmpty out p)
def chunk (n : Nat) (s0 s1 s2 : ByteArray) (last : Bool) (p : Pt) : List Int :=
  if p.region then mkLine 60 n s0 ++ (endNl p.s0 ++ (mkLine 124 n s1 ++ (endNl p.s1 ++ (mkLine 61 n ⟨#[]⟩ ++ (endNl p.s2 ++ mkLine 62 n s2))))) else jTxt last p
theorem wr_chunk (n : Nat) (s0 s1 s2 : ByteArray) (last : Bool) {acc : List Int} (h : endNl acc = acc) (p : Pt) : wrPart n s0 s1 s2 last acc p = acc ++ chunk n s0 s1 s2 last p := by
  unfold wrPart chunk wrReg jTxt
  split
  · rw [endNl_app (endNl_line _ _ _ _), endNl_app (endNl_line _ _ _ _), endNl_app (endNl_line _ _ _ _)]
    simp only [List.append_assoc]
  · split
    · rfl
    · rw [endNl_app h]
theorem chunk_end (n : Nat) (s0 s1 s2 : ByteArray) {acc : List Int} (h : endNl acc = acc) (p : Pt) : endNl (acc ++ chunk n s0 s1 s2 false p) = acc ++ chunk n s0 s1 s2 false p := by
  unfold chunk jTxt
  split
  · simp only [← List.append_assoc]; rw [endNl_line]
  · simp only [Bool.false_eq_true, if_false]; rw [endNl_app h, endNl_idem]
theorem ended_cases {a : List Int} (h : endNl a = a) : a = [] ∨ ∃ p, a = p ++ [10] := by
  rcases List.eq_nil_or_concat a with rfl | ⟨r, x, hs⟩
  · exact .inl rfl
  · have h2 : a = r ++ [x] := by simpa using hs
    subst h2
    rw [endNl_snoc] at h
    split at h
    · rename_i hx; subst hx; exact .inr ⟨r, rfl⟩
    · have := congrArg List.length h; simp at this
theorem lines_app {a : List Int} (h : endNl a = a) (y : List Int) : linesOf (a ++ y) = linesOf a ++ linesOf y := by
  rcases ended_cases h with rfl | ⟨p, rfl⟩
  · rfl
  · rw [List.append_assoc]; exact linesOf_two p y
theorem lines_ne {t : List Int} (h : t ≠ []) : linesOf t ≠ [] := fun hL => by
  have := lines_flat t
  rw [hL] at this
  exact h this.symm
def nlLast : List (List Int) → List (List Int)
  | [] => []
  | [y] => [y ++ [10]]
  | y :: z :: r => y :: nlLast (z :: r)
theorem lines_nl : ∀ (t : List Int) (x : Int), x ≠ 10 → linesOf (t ++ [x] ++ [10]) = nlLast (linesOf (t ++ [x]))
  | [], x, h => by simp [linesOf, h, nlLast]
  | y :: t, x, h => by
    have ih := lines_nl t x h
    have hne : linesOf (t ++ [x]) ≠ [] := lines_ne (by simp)
    rw [List.cons_append, List.cons_append, linesOf_cons, linesOf_cons, ih]
    cases hL : linesOf (t ++ [x]) with
    | nil => exact absurd hL hne
    | cons z r => cases r with
      | nil => split <;> simp [nlLast]
      | cons u r => split <;> simp [nlLast]
theorem nlLast_mem : ∀ (l : List (List Int)) (y : List Int), y ∈ nlLast l → y ∈ l ∨ ∃ x ∈ l, y = x ++ [10]
  | [], y, h => by simp [nlLast] at h
  | [z], y, h => by
    simp only [nlLast, List.mem_singleton] at h
    exact .inr ⟨z, by simp, h⟩
  | z :: u :: r, y, h => by
    simp only [nlLast] at h
    rcases List.mem_cons.1 h with rfl | h
    · exact .inl (by simp)
    · rcases nlLast_mem (u :: r) y h with h | ⟨x, hx, h⟩
      · exact .inl (List.mem_cons_of_mem _ h)
      · exact .inr ⟨x, List.mem_cons_of_mem _ hx, h⟩
theorem rl_app {c : Int} (z : Int) (r : List Int) (hz : z ≠ c) : ∀ l : List Int, rl c (l ++ z :: r) = rl c l
  | [] => by simp [rl, hz]
  | x :: l => by
    have ih := rl_app z r hz l
    rw [List.cons_append]
    unfold rl
    rw [ih]
theorem sgCh_ne {x : Int} (h : sgCh x = true) : (10 : Int) ≠ x ∧ (32 : Int) ≠ x := by
  simp only [sgCh, Bool.or_eq_true, beq_iff_eq] at h
  omega
theorem sgn_nl : ∀ (x : List Int), (sgn (x ++ [10])).1 = (sgn x).1
  | [] => by simp [sgn, sgCh]
  | z :: r => by
    simp only [List.cons_append, sgn]
    split
    · rename_i h
      exact rl_app 10 [] (sgCh_ne h).1 (z :: r)
    · rfl
/-- No line of a text begins with so many signs. -/
def Good (N : Nat) (t : List Int) : Prop := ∀ x ∈ linesOf t, (sgn x).1 < N
theorem Good.ended {N : Nat} {t : List Int} (h : Good N t) : Good N (endNl t) := by
  rcases List.eq_nil_or_concat t with rfl | ⟨r, x, hs⟩
  · exact h
  · have h2 : t = r ++ [x] := by simpa using hs
    subst h2
    rw [endNl_snoc]
    split
    · exact h
    · rename_i hx
      intro y hy
      rw [lines_nl r x hx] at hy
      rcases nlLast_mem _ _ hy with hy | ⟨z, hz, rfl⟩
      · exact h y hy
      · rw [sgn_nl]; exact h z hz
theorem Good.mk {N : Nat} {t : List Int} (h : Good N t) : ∀ x ∈ linesOf t, mkOf N x = 0 := fun x hx => by
  unfold mkOf
  rw [if_neg]
  rintro ⟨h3, _⟩
  have := h x hx
  omega
theorem sb_lab (s : ByteArray) : ∀ x ∈ sb (labB s), x ≠ 10 := by
  have hf : ∀ c : UInt8, bnum (fixC c) ≠ 10 := by
    intro c
    unfold fixC
    split
    · decide
    · rename_i h
      intro h2
      apply h
      left
      have : c.toNat = 10 := by unfold bnum at h2; omega
      rw [UInt8.lt_iff_toNat_lt, this]
      decide
  intro x hx
  unfold sb labB at hx
  simp only [List.mem_map] at hx
  obtain ⟨c, hc, rfl⟩ := hx
  unfold Lib.trimRightB at hc
  have hc2 := (List.dropWhile_sublist _).subset (List.mem_reverse.1 hc)
  rw [List.mem_reverse, List.mem_map] at hc2
  obtain ⟨d, _, rfl⟩ := hc2
  exact hf d
def mkTail (s : ByteArray) : List Int := if labB s = ⟨#[]⟩ then [] else 32 :: sb (labB s)
theorem mkTail_no (s : ByteArray) : ∀ x ∈ mkTail s, x ≠ 10 := by
  intro x hx
  unfold mkTail at hx
  split at hx
  · simp at hx
  · rcases List.mem_cons.1 hx with rfl | hx
    · decide
    · exact sb_lab s x hx
theorem mkLine_lines {x : UInt8} (hx : bnum x ≠ 10) (n : Nat) (s : ByteArray) : linesOf (mkLine x n s) = [mkLine x n s] := by
  have h := linesOf_nl (List.replicate n (bnum x) ++ mkTail s) [] (fun y hy => by
    rcases List.mem_append.1 hy with hy | hy
    · rw [(List.mem_replicate.1 hy).2]; exact hx
    · exact mkTail_no s y hy)
  exact h
theorem rl_rep (c : Int) : ∀ n : Nat, rl c (List.replicate n c) = n
  | 0 => rfl
  | n + 1 => by
    rw [List.replicate_succ]
    unfold rl
    rw [if_pos rfl, rl_rep c n]
theorem trimNl_snoc (l : List Int) : trimNl (l ++ [10]) = l := by simp [trimNl]
theorem mkLine_mk {x : UInt8} (hx : sgCh (bnum x) = true) {n : Nat} (hn : 1 ≤ n) (s : ByteArray) (hs : bnum x = 61 → labB s = ⟨#[]⟩) : mkOf n (mkLine x n s) = bnum x := by
  have e : mkLine x n s = List.replicate n (bnum x) ++ (mkTail s ++ [10]) := by unfold mkLine mkTail; rw [List.append_assoc]
  have hne := sgCh_ne hx
  obtain ⟨z, r, hz, hzr⟩ : ∃ z r, z ≠ bnum x ∧ mkTail s ++ [10] = z :: r := by
    unfold mkTail
    split
    · exact ⟨10, [], hne.1, rfl⟩
    · exact ⟨32, _, hne.2, rfl⟩
  have hsg : sgn (mkLine x n s) = (n, bnum x) := by
    have h1 : rl (bnum x) (mkLine x n s) = n := by rw [e, hzr, rl_app z r hz, rl_rep]
    obtain ⟨m, rfl⟩ : ∃ m, n = m + 1 := ⟨n - 1, by omega⟩
    have h2 : mkLine x (m + 1) s = bnum x :: (List.replicate m (bnum x) ++ (mkTail s ++ [10])) := by rw [e, List.replicate_succ]; rfl
    rw [h2] at h1 ⊢
    simp only [sgn, hx, if_true]
    rw [h1]
  unfold mkOf
  rw [hsg, e, List.drop_left' (by simp), trimNl_snoc, if_pos]
  refine ⟨rfl, ?_⟩
  unfold mkTail
  split
  · rfl
  · rename_i h
    have : bnum x ≠ 61 := fun h2 => h (hs h2)
    simp [okTail, this]
theorem addSide_nil (p : Pt) (j : Nat) : addSide p j [] = p := by rcases j with _ | _ | j <;> simp [addSide]
theorem addSide_app (p : Pt) (j : Nat) (x y : List Int) : addSide (addSide p j x) j y = addSide p j (x ++ y) := by rcases j with _ | _ | j <;> simp [addSide]
theorem all_side {N k : Nat} (hk : k ≠ 0) : ∀ (r : List (List Int)) (p : Pt), (∀ x ∈ r, mkOf N x = 0) → rdAll N r ([p], k) = some ([addSide p (k - 1) r.flatten], k)
  | [], p, _ => by simp [rdAll, addSide_nil]
  | x :: r, p, h => by
    have h1 : rdStep N ([p], k) x = some ([addSide p (k - 1) x], k) := by simp [rdStep, h x List.mem_cons_self, hk, onLast]
    simp only [rdAll, h1, Option.bind_some]
    rw [all_side hk r _ (fun y hy => h y (List.mem_cons_of_mem _ hy)), addSide_app, List.flatten_cons]
theorem read_region {N : Nat} (h1 : 1 ≤ N) (s0 s1 s2 : ByteArray) {a b c : List Int} (ha : endNl a = a) (hb : endNl b = b) (hc : endNl c = c) (ga : Good N a) (gb : Good N b) (gc : Good N c) :
    rdAll N (linesOf (mkLine 60 N s0 ++ (a ++ (mkLine 124 N s1 ++ (b ++ (mkLine 61 N ⟨#[]⟩ ++ (c ++ mkLine 62 N s2))))))) ([], 0) = some ([⟨true, [], a, b, c⟩], 0) := by
  have e0 : ∀ (x : UInt8) (s : ByteArray), endNl (mkLine x N s) = mkLine x N s := fun x s => endNl_line [] x N s
  have m1 := mkLine_mk (x := 60) (by decide) h1 s0 (fun h => by simp [bnum] at h)
  have m2 := mkLine_mk (x := 124) (by decide) h1 s1 (fun h => by simp [bnum] at h)
  have m3 := mkLine_mk (x := 61) (by decide) h1 ⟨#[]⟩ (fun h => by rfl)
  have m4 := mkLine_mk (x := 62) (by decide) h1 s2 (fun h => by simp [bnum] at h)
  have b1 : bnum 60 = 60 := rfl
  have b2 : bnum 124 = 124 := rfl
  have b3 : bnum 61 = 61 := rfl
  have b4 : bnum 62 = 62 := rfl
  rw [b1] at m1; rw [b2] at m2; rw [b3] at m3; rw [b4] at m4
  rw [lines_app (e0 _ _), lines_app ha, lines_app (e0 _ _), lines_app hb, lines_app (e0 _ _), lines_app hc, mkLine_lines (by decide), mkLine_lines (by decide), mkLine_lines (by decide), mkLine_lines (by decide)]
  have r1 : rdAll N [mkLine 60 N s0] ([], 0) = some ([⟨true, [], [], [], []⟩], 1) := by simp [rdAll, rdStep, m1]
  have r2 : rdAll N (linesOf a) ([⟨true, [], [], [], []⟩], 1) = some ([⟨true, [], a, [], []⟩], 1) := by
    have := all_side (N := N) (k := 1) (by decide) (linesOf a) ⟨true, [], [], [], []⟩ ga.mk
    rw [lines_flat] at this; exact this
  have r3 : ∀ l, rdAll N [mkLine 124 N s1] (l, 1) = some (l, 2) := by intro l; simp [rdAll, rdStep, m2]
  have r4 : rdAll N (linesOf b) ([⟨true, [], a, [], []⟩], 2) = some ([⟨true, [], a, b, []⟩], 2) := by
    have := all_side (N := N) (k := 2) (by decide) (linesOf b) ⟨true, [], a, [], []⟩ gb.mk
    rw [lines_flat] at this; exact this
  have r5 : ∀ l, rdAll N [mkLine 61 N ⟨#[]⟩] (l, 2) = some (l, 3) := by intro l; simp [rdAll, rdStep, m3]
  have r6 : rdAll N (linesOf c) ([⟨true, [], a, b, []⟩], 3) = some ([⟨true, [], a, b, c⟩], 3) := by
    have := all_side (N := N) (k := 3) (by decide) (linesOf c) ⟨true, [], a, b, []⟩ gc.mk
    rw [lines_flat] at this; exact this
  have r7 : ∀ l, rdAll N [mkLine 62 N s2] (l, 3) = some (l, 0) := by intro l; simp [rdAll, rdStep, m4]
  rw [rdAll_app, r1, Option.bind_some, rdAll_app, r2, Option.bind_some, rdAll_app, r3, Option.bind_some, rdAll_app, r4, Option.bind_some, rdAll_app, r5, Option.bind_some, rdAll_app, r6, Option.bind_some, r7]
theorem read_plain {N : Nat} {t : List Int} (ht : t ≠ []) (g : Good N t) : rdAll N (linesOf t) ([], 0) = some ([⟨false, t, [], [], []⟩], 0) := by
  cases hL : linesOf t with
  | nil => exact absurd hL (lines_ne ht)
  | cons y r =>
    have hm := g.mk
    rw [hL] at hm
    have h3 : rdStep N ([], 0) y = some ([⟨false, y, [], [], []⟩], 0) := by simp [rdStep, hm y List.mem_cons_self]
    have h4 := all_plain r y (fun z hz => hm z (List.mem_cons_of_mem _ hz))
    simp only [rdAll, h3, Option.bind_some, h4]
    have h5 := lines_flat t
    rw [hL, List.flatten_cons] at h5
    rw [h5]
structure GoodP (N : Nat) (p : Pt) : Prop where
  plain : p.region = false → Good N p.text
  side : p.region = true → Good N p.s0 ∧ Good N p.s1 ∧ Good N p.s2
theorem read_chunk {N : Nat} (h1 : 1 ≤ N) (s0 s1 s2 : ByteArray) (last : Bool) {p : Pt} (g : GoodP N p) : rdAll N (linesOf (chunk N s0 s1 s2 last p)) ([], 0) = some (jPart last [] p, 0) := by
  unfold chunk jPart
  cases hr : p.region with
  | true =>
    obtain ⟨g0, g1, g2⟩ := g.side hr
    simp only [if_true]
    exact read_region h1 s0 s1 s2 (endNl_idem _) (endNl_idem _) (endNl_idem _) g0.ended g1.ended g2.ended
  | false =>
    have gt := g.plain hr
    simp only [Bool.false_eq_true, if_false]
    by_cases ht : jTxt last p = []
    · rw [ht]; rfl
    · rw [if_neg ht]
      refine read_plain ht ?_
      unfold jTxt
      split
      · exact gt
      · exact gt.ended
/-- What is joined: plain parts end in a newline and have no sides. -/
def JOk (l : List Pt) : Prop := ∀ p ∈ l, p.region = false → endNl p.text = p.text ∧ p.s0 = [] ∧ p.s1 = [] ∧ p.s2 = []
theorem JOk.plain {l : List Pt} (h : JOk l) : PlainOk l := fun p hp hr => (h p hp hr).2
theorem JOk.glue {out : List Pt} (h : JOk out) (last : Bool) (p : Pt) : glue out (jPart last [] p) = jPart last out p := by
  unfold jPart
  split
  · rcases snoc_cases out with rfl | ⟨fr, q, rfl⟩
    · rfl
    · simp [Q.glue]
  · split
    · rfl
    · rcases snoc_cases out with rfl | ⟨fr, q, rfl⟩
      · simp [Q.glue]
      · cases hq : q.region with
        | true => simp [Q.glue, hq]
        | false =>
          obtain ⟨h1, h2, h3, h4⟩ := h q (by simp) hq
          simp [Q.glue, hq, onLast_snoc, mg, jAdd, h1, h2, h3, h4]
theorem JOk.next {out : List Pt} (h : JOk out) (p : Pt) : JOk (jPart false out p) := by
  unfold jPart
  have hs : ∀ (l : List Pt) (q : Pt), JOk l → (q.region = false → endNl q.text = q.text ∧ q.s0 = [] ∧ q.s1 = [] ∧ q.s2 = []) → JOk (l ++ [q]) := fun l q hl hq r hr => by
    rcases List.mem_append.1 hr with hr | hr
    · exact hl r hr
    · rw [List.mem_singleton] at hr; subst hr; exact hq
  have ht : jTxt false p = endNl p.text := rfl
  split
  · exact hs _ _ h (fun h => by cases h)
  · split
    · exact h
    · rcases snoc_cases out with rfl | ⟨fr, q, rfl⟩
      · exact hs [] _ h (fun _ => ⟨by rw [ht]; exact endNl_idem _, rfl, rfl, rfl⟩)
      · have hl : (fr ++ [q]).getLast? = some q := by simp
        rw [hl]
        simp only
        cases hq : q.region with
        | true => simp only [if_true]; exact hs _ _ h (fun _ => ⟨by rw [ht]; exact endNl_idem _, rfl, rfl, rfl⟩)
        | false =>
          obtain ⟨h1, h2⟩ := h q (by simp) hq
          simp only [Bool.false_eq_true, if_false, onLast_snoc]
          refine hs _ _ (fun r hr => h r (List.mem_append_left _ hr)) (fun _ => ⟨?_, h2⟩)
          simp only [jAdd, ht]
          rw [endNl_app (endNl_idem _), endNl_idem]
/-- What was written is read as it was, joined. -/
theorem back_all {N : Nat} (h1 : 1 ≤ N) (s0 s1 s2 : ByteArray) : ∀ (r : List Pt) (acc : List Int) (out : List Pt), (∀ p ∈ r, GoodP N p) → endNl acc = acc → rdAll N (linesOf acc) ([], 0) = some (out, 0) → JOk out → rdAll N (linesOf (wrAll N s0 s1 s2 r acc)) ([], 0) = some (jAll r out, 0)
  | [], acc, out, _, _, h, _ => h
  | p :: r, acc, out, hg, ha, h, hj => by
    have hstep : ∀ last, rdAll N (linesOf (acc ++ chunk N s0 s1 s2 last p)) ([], 0) = some (jPart last out p, 0) := fun last => by
      rw [lines_app ha, rdAll_app, h, Option.bind_some]
      have h3 := all_glue (n := N) out hj.plain (linesOf (chunk N s0 s1 s2 last p)) [] 0 (fun h => absurd rfl h)
      have e2 : glue out [] = out := rfl
      rw [e2, read_chunk h1 s0 s1 s2 last (hg p List.mem_cons_self)] at h3
      rw [h3, Option.map_some]
      simp only
      rw [hj.glue]
    show rdAll N (linesOf (wrAll N s0 s1 s2 r (wrPart N s0 s1 s2 r.isEmpty acc p))) ([], 0) = some (jAll r (jPart r.isEmpty out p), 0)
    rw [wr_chunk N s0 s1 s2 _ ha p]
    cases r with
    | nil => exact hstep true
    | cons q t => exact back_all h1 s0 s1 s2 (q :: t) _ _ (fun u hu => hg u (List.mem_cons_of_mem _ hu)) (chunk_end N s0 s1 s2 ha p) (hstep false) (hj.next p)
theorem read_back {N : Int} (h1 : 1 ≤ N) (h2 : N ≤ 16777216) (s0 s1 s2 : ByteArray) (ps : List Pt) (hg : ∀ p ∈ ps, GoodP N.toNat p) : writeOf N s0 s1 s2 ps = (wrAll N.toNat s0 s1 s2 ps [], 0) ∧ readOf N (wrAll N.toNat s0 s1 s2 ps []) = (jAll ps [], 0) := by
  refine ⟨by unfold writeOf; rw [if_pos ⟨h1, h2⟩], ?_⟩
  unfold readOf
  rw [if_pos ⟨h1, h2⟩, back_all (by omega) s0 s1 s2 ps [] [] hg rfl rfl (fun p hp => by cases hp)]
  rfl
theorem rpAll_snoc (side : Int) (p : Pt) : ∀ (l : List Pt) (a : List Int), rpAll side (l ++ [p]) a = rpPart side (rpAll side l a) p
  | [], a => rfl
  | q :: l, a => rpAll_snoc side p l _
/-- A side of what is joined is that side of the parts. -/
theorem pick_back {side : Int} (hs : 0 ≤ side ∧ side < 3) : ∀ (r : List Pt) (out : List Pt), JOk out → endNl (rpAll side out []) = rpAll side out [] → pickAll side r (rpAll side out []) = rpAll side (jAll r out) []
  | [], out, _, _ => rfl
  | p :: r, out, hj, he => by
    have hstep : ∀ last, pickPart side last (rpAll side out []) p = rpAll side (jPart last out p) [] := fun last => by
      unfold pickPart jPart
      cases hr : p.region with
      | true =>
        simp only [if_true]
        rw [if_pos hs, rpAll_snoc, endNl_app he]
        unfold rpPart
        simp only [if_true]
        rw [if_pos hs, he]
        congr 1
        unfold sideOf
        simp only
        split
        · rw [endNl_idem]
        · split <;> rw [endNl_idem]
      | false =>
        simp only [Bool.false_eq_true, if_false]
        have hL : (if last = true then rpAll side out [] ++ p.text else endNl (rpAll side out [] ++ p.text)) = rpAll side out [] ++ jTxt last p := by
          unfold jTxt
          split
          · rfl
          · exact endNl_app he
        rw [hL]
        by_cases ht : jTxt last p = []
        · rw [if_pos ht, ht, List.append_nil]
        · rw [if_neg ht]
          rcases snoc_cases out with rfl | ⟨fr, q, rfl⟩
          · rfl
          · have hl : (fr ++ [q]).getLast? = some q := by simp
            rw [hl]
            simp only
            cases hq : q.region with
            | true =>
              simp only [if_true]
              rw [rpAll_snoc side _ (fr ++ [q])]
              unfold rpPart
              simp only [Bool.false_eq_true, if_false]
              rw [he]
            | false =>
              have h1 := (hj q (by simp) hq).1
              simp only [Bool.false_eq_true, if_false, onLast_snoc]
              rw [rpAll_snoc, rpAll_snoc]
              unfold rpPart
              simp only [jAdd, hq, Bool.false_eq_true, if_false, h1, List.append_assoc]
    show pickAll side r (pickPart side r.isEmpty (rpAll side out []) p) = rpAll side (jAll r (jPart r.isEmpty out p)) []
    cases r with
    | nil => exact hstep true
    | cons q t =>
      have h2 := hstep false
      have h3 : endNl (pickPart side false (rpAll side out []) p) = pickPart side false (rpAll side out []) p := by
        unfold pickPart
        split
        · first | (rw [if_pos hs]; exact endNl_idem _) | exact endNl_idem _
        · exact endNl_idem _
      show pickAll side (q :: t) (pickPart side false (rpAll side out []) p) = rpAll side (jAll (q :: t) (jPart false out p)) []
      rw [h2] at h3 ⊢
      exact pick_back hs (q :: t) _ (hj.next p) h3
theorem pick_joined {side : Int} (hs : 0 ≤ side ∧ side < 3) (ps : List Pt) : pickAll side (jAll ps []) [] = pickAll side ps [] := by
  rw [pick_eq]
  exact (pick_back hs ps [] (fun p hp => by cases hp) rfl).symm
/-- Bounds of what is joined. -/
def JB (K : Nat) (l : List Pt) : Prop := ∀ p ∈ l, p.text.length ≤ K ∧ p.s0.length ≤ 501 ∧ p.s1.length ≤ 501 ∧ p.s2.length ≤ 501
theorem JB.next {K : Nat} {out : List Pt} (h : JB K out) {p : Pt} (hp : p.text.length ≤ 500 ∧ p.s0.length ≤ 500 ∧ p.s1.length ≤ 500 ∧ p.s2.length ≤ 500) (last : Bool) : JB (K + 502) (jPart last out p) ∧ (jPart last out p).length ≤ out.length + 1 := by
  have hs : ∀ (l : List Pt) (q : Pt), JB (K + 502) l → (q.text.length ≤ K + 502 ∧ q.s0.length ≤ 501 ∧ q.s1.length ≤ 501 ∧ q.s2.length ≤ 501) → JB (K + 502) (l ++ [q]) := fun l q hl hq r hr => by
    rcases List.mem_append.1 hr with hr | hr
    · exact hl r hr
    · rw [List.mem_singleton] at hr; subst hr; exact hq
  have hw : JB (K + 502) out := fun q hq => ⟨Nat.le_trans (h q hq).1 (by omega), (h q hq).2⟩
  have ht : (jTxt last p).length ≤ 501 := by
    unfold jTxt
    split
    · omega
    · have := endNl_le p.text; omega
  unfold jPart
  split
  · refine ⟨hs _ _ hw ⟨by simp, ?_, ?_, ?_⟩, by simp⟩
    · have := endNl_le p.s0; simp only; omega
    · have := endNl_le p.s1; simp only; omega
    · have := endNl_le p.s2; simp only; omega
  · split
    · exact ⟨hw, by omega⟩
    · rcases snoc_cases out with rfl | ⟨fr, q, rfl⟩
      · exact ⟨hs [] _ hw ⟨by simp only; omega, by simp, by simp, by simp⟩, by simp⟩
      · have hl : (fr ++ [q]).getLast? = some q := by simp
        rw [hl]
        simp only
        split
        · exact ⟨hs _ _ hw ⟨by simp only; omega, by simp, by simp, by simp⟩, by simp⟩
        · rw [onLast_snoc]
          have h1 := h q (by simp)
          have h2 := endNl_le q.text
          refine ⟨hs _ _ (fun r hr => hw r (List.mem_append_left _ hr)) ⟨?_, h1.2⟩, by simp⟩
          simp only [jAdd, List.length_append]
          omega
theorem JB.all : ∀ (r : List Pt) (K : Nat) (out : List Pt), JB K out → (∀ p ∈ r, p.text.length ≤ 500 ∧ p.s0.length ≤ 500 ∧ p.s1.length ≤ 500 ∧ p.s2.length ≤ 500) → JB (K + r.length * 502) (jAll r out) ∧ (jAll r out).length ≤ out.length + r.length
  | [], K, out, h, _ => by simpa [jAll] using h
  | p :: r, K, out, h, hp => by
    have h1 := h.next (hp p List.mem_cons_self) r.isEmpty
    have ih := JB.all r (K + 502) _ h1.1 (fun q hq => hp q (List.mem_cons_of_mem _ hq))
    refine ⟨?_, ?_⟩
    · have e : K + (p :: r).length * 502 = K + 502 + r.length * 502 := by simp only [List.length_cons]; omega
      rw [e]; exact ih.1
    · have := ih.2; have := h1.2; simp only [jAll, List.length_cons]; omega
theorem joined_small {ps : List Pt} (hl : ps.length ≤ 20) (hp : ∀ p ∈ ps, p.text.length ≤ 500 ∧ p.s0.length ≤ 500 ∧ p.s1.length ≤ 500 ∧ p.s2.length ≤ 500) : (jAll ps []).length ≤ 20 ∧ ∀ p ∈ jAll ps [], p.text.length ≤ 20000 ∧ p.s0.length ≤ 501 ∧ p.s1.length ≤ 501 ∧ p.s2.length ≤ 501 := by
  have h := JB.all ps 0 [] (fun p hp => by cases hp) hp
  refine ⟨by have := h.2; simp at this; omega, fun p hq => ?_⟩
  have := h.1 p hq
  omega
end Go.Proofs.YtnnnbeimehfiiaaDoor.Q
