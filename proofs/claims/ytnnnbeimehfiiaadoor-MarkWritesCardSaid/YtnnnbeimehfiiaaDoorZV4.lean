/- The texts of this claim that lie below its row, in their order: KMw. -/
import Derived.Test.YtnnnbeimehfiiaaDoorZV3
-- Written by a program of this session (wip/gen_mw.py) for this claim; Lean checks it.
/-! MarkWrites, walked: it answers true. -/
set_option linter.unusedVariables false
set_option linter.unusedSimpArgs false
namespace Go.Proofs.YtnnnbeimehfiiaaDoor.Q
open Go Go.RowKit Go.Proofs.YtnnnbeimehfiiaaDoorW.PrintWords Go.Proofs.YtnnnbeimehfiiaaDoorW.PrintLast Go.Proofs.YtnnnbeimehfiiaaDoorW.PrintMore Go.Proofs.YtnnnbeimehfiiaaDoorW.SL
attribute [local go_sem] max2_int min2_int max_two min_two max_three min_three max_four min_four
def mmw.T6 : Bool × List (List Nat × List Nat) := (true, [([], []), ([], []), ([1], [1]), ([2], [2]), ([], []), ([4], [4]), ([5], [5]), ([6], [6]), ([7], [7]), ([3, 8], [3, 8]), ([0, 0, 1, 2, 3, 4, 5, 6, 7, 8, 9], [0]), ([10, 9, 0, 1, 2, 3, 4, 5, 6, 7, 8, 9], [9, 10])])
def mmw.B6 : List Nat := [0, 0, 2, 6, 0, 16, 48, 112, 240, 510, 1023, 2047]
theorem mmw.tab6 : rtab .any (opsOf Tryd.f7 6) = mmw.T6 := by kernel_rfl
theorem mmw.bits6 : waitsOk mmw.T6.2 mmw.B6 = true := by kernel_rfl
theorem writeOf_eq (n : Int) (s0 s1 s2 : ByteArray) (ps : List Pt) : writeOf n s0 s1 s2 ps = rwOf n s0 s1 s2 ps := by
  unfold writeOf rwOf; rw [write_eq]
set_option maxHeartbeats 16000000 in
set_option maxRecDepth 100000 in
theorem writes_calls (n : Int) (s0 s1 s2 : ByteArray) (A : Option Addr) (c : Nat) (ps : List Pt) (side : Int) (w : World) (hr : Kd.C kP w A ps.length ps) (hc : ps.length ≤ c) :
    Calls Tryd.prog 7 #[.int .i64 n, .agg #[.string s0, .string s1, .string s2], .slice A ps.length c, .int .i64 side] w fun e w' => e = .returned (.bool true) ∧ Below w.heap.size w w' := by
  have hF0 : ∀ a ∈ [rdV kP A c ps], a.P w (fun k => k < w.heap.size) := by
    intro a ha; rw [List.mem_singleton] at ha; subst ha
    exact ⟨hc, Kd.C_F kP_heap hr⟩
  have S0 := Aside0.mk ((Stt.start w hF0).box (g := w.heap.size) (t := 39) (cs := #[.string s0, .string s1, .string s2]) rfl (heap_alloc_new w _) (below_alloc (Below.refl _ _) _))
  clear hF0 hr hc
  by_cases hbig : 2000 < n ∧ n ≤ 16777216
  · have h1 := eq_true hbig.1
    have h2 := eq_true hbig.2
    clear hbig
    go_enter Tryd.func7, Tryd.ntmps7
    go_wp2_with (go_at_call 11; refine (known_walk _).mono ?_; rintro e_ wk ⟨rfl, hb_⟩; replace S0 := Aside0.mk (S0.out.keep hb_); clear hb_)
    go_ret
    exact ⟨rfl, S0.out.below⟩
  have hn : n ≤ 100000 ∨ 16777216 < n := by omega
  replace hn := Aside0.mk hn
  obtain ⟨m0, hm0⟩ : ∃ m, min s0.size 1000 = m := ⟨_, rfl⟩
  obtain ⟨m1, hm1⟩ : ∃ m, min s1.size 1000 = m := ⟨_, rfl⟩
  obtain ⟨m2, hm2⟩ : ∃ m, min s2.size 1000 = m := ⟨_, rfl⟩
  obtain ⟨t0, ht0⟩ : ∃ t, s0.extract 0 m0 = t := ⟨_, rfl⟩
  obtain ⟨t1, ht1⟩ : ∃ t, s1.extract 0 m1 = t := ⟨_, rfl⟩
  obtain ⟨t2, ht2⟩ : ∃ t, s2.extract 0 m2 = t := ⟨_, rfl⟩
  have hts : t0.size ≤ 1000 ∧ t1.size ≤ 1000 ∧ t2.size ≤ 1000 := by rw [← ht0, ← ht1, ← ht2]; simp; omega
  have hq0 := mn1000 s0
  have hq1 := mn1000 s1
  have hq2 := mn1000 s2
  rw [hm0] at hq0; rw [hm1] at hq1; rw [hm2] at hq2
  have hm := (⟨hm0, hm1, hm2⟩ : _ ∧ _ ∧ _)
  replace hm := Aside0.mk hm
  replace hts := Aside0.mk hts
  have HT := Aside0.mk (⟨hq0, hq1, hq2, ht0, ht1, ht2⟩ : _ ∧ _ ∧ _ ∧ _ ∧ _ ∧ _)
  clear hm0 hm1 hm2 hq0 hq1 hq2 ht0 ht1 ht2
  have hfl : (2000 < n) = False ∨ ((2000 < n) = True ∧ (n ≤ 16777216) = False ∧ (16777216 < n) = True) := by
    by_cases h : 2000 < n
    · exact .inr ⟨eq_true h, eq_false (by omega), eq_true (by omega)⟩
    · exact .inl (eq_false h)
  replace hbig := Aside0.mk hbig
  go_enter Tryd.func7, Tryd.ntmps7
  rcases hfl with h1 | ⟨h1, h2, h2'⟩
  · skip
    have hstr := fun (A : Option Addr) (c : Nat) (d : List Int) (W : World) (h : Kd.C B8 W A d.length d) => (Kd.C_string Tryd.underlying22 Tryd.underlying5 Tryd.underlying9 h : (convert 22 9 (.slice A d.length c)).run Tryd.prog W = .ok (.string (strOfNums d)) W)
    go_wp2
    go_loopg [9] 3 (fun kq v9 W => ∃ (ii : Int) (i : Nat), v9 = .int .i64 ii ∧ Aside0 (ii = (i : Int)) ∧ Aside0 (i ≤ 3 ∧ kq = 3 - i) ∧ Aside0 (Stt w (fun k => k < w.heap.size) [blk w.heap.size 39 (lab3 s0 s1 s2 t0 t1 t2 i)] [rdV kP A c ps] W))
    case atStart => exact ⟨0, 0, rfl, ⟨rfl⟩, ⟨by omega, rfl⟩, S0⟩
    case round =>
      clear S0
      obtain ⟨ii, i, rfl, hii, hi, S⟩ := hrel
      obtain ⟨wb, rfl⟩ : ∃ q, q = wr := ⟨_, rfl⟩
      obtain h3 | hk3 : i = 3 ∨ i < 3 := by have := hi.out.1; omega
      · subst h3
        obtain rfl : ii = 3 := hii.out
        obtain ⟨fl0, fl1, fl2⟩ := box3 (S.out.at_blk 0 rfl)
        replace S : Aside0 (Stt w (fun k => k < w.heap.size) [blk w.heap.size 39 #[.string t0, .string t1, .string t2]] [rdV kP A c ps] wb) := S
        have hqs := fewOf_small ps
        have hql := fewOf_len ps
        have hFew := fun W hW => few_calls A c ps W hW (S.out.rdL 0 rfl)
        obtain ⟨qs, hqe⟩ : ∃ qs, fewOf ps = qs := ⟨_, rfl⟩
        rw [hqe] at hqs hql
        simp only [hqe] at hFew
        have hQ := (⟨fun p hp => by have := hqs p hp; omega, by omega⟩ : (∀ p ∈ qs, p.text.length ≤ 5000000 ∧ p.s0.length ≤ 5000000 ∧ p.s1.length ≤ 5000000 ∧ p.s2.length ≤ 5000000) ∧ qs.length ≤ 20)
        have hW1 := fun A c W hC hc => Write_calls n t0 t1 t2 A c qs W hC hc (by omega) hQ.1 (by have := hts.out; omega) (by have := hts.out; omega) (by have := hts.out; omega)
        have hW2 := fun A c W hC hc => rWrite_calls n t0 t1 t2 A c qs W hn.out hC hc (by omega) hQ.1 (by have := hts.out; omega) (by have := hts.out; omega) (by have := hts.out; omega)
        simp only [← writeOf_eq] at hW2
        obtain ⟨⟨wr, er⟩, hwr⟩ : ∃ r, writeOf n t0 t1 t2 qs = r := ⟨_, rfl⟩
        simp only [hwr] at hW1 hW2
        have hP1 := fun A c W hC hc => Pick_calls side A c qs W hC hc (by omega) hQ.1
        have hP2 := fun A c W hC hc => rPick_calls side A c qs W hC hc (by omega) hQ.1
        simp only [← pick_eq] at hP2
        obtain ⟨pk, hpk⟩ : ∃ r, pickAll side qs [] = r := ⟨_, rfl⟩
        simp only [hpk] at hP1 hP2
        have hA := fun A c W hC hc => as_calls A c qs W hC hc (by omega)
        have HALL := Aside0.mk (⟨hFew, hW1, hW2, hP1, hP2, hA⟩ : _ ∧ _ ∧ _ ∧ _ ∧ _ ∧ _)
        clear hqs hql hFew hqe hQ hW1 hW2 hwr hP1 hP2 hpk hA hi hii HT hm hts hn
        go_upto_region 8 with (go_at_call 18; refine (HALL.out.1 _ (S.out.rdC 0 rfl)).mono ?_; rintro e_ w4 ⟨A1, c1, A2, c2, rfl, hc1_, hC1_, hc2_, hC2_, hb_⟩; have G1 := Aside0.mk (⟨hC1_, hc1_, hC2_, S.out.keep hb_⟩ : _ ∧ _ ∧ _ ∧ _); have G1c := Aside0.mk hc2_; clear hc1_ hC1_ hc2_ hC2_ hb_ S fl0 fl1 fl2; obtain ⟨fl0, fl1, fl2⟩ := box3 (G1.out.2.2.2.at_blk 0 rfl))
        go_upto_region 9 with (go_at_call 19; refine (HALL.out.2.1 _ _ _ G1.out.1 G1.out.2.1).mono ?_; rintro e_ w5 ⟨AW1, cW1, rfl, hc_, hC_, hb_⟩; have G2 := Aside0.mk (⟨Kd.C_below G1.out.1 hb_, G1.out.2.1, Kd.C_below G1.out.2.2.1 hb_, G1.out.2.2.2.keep hb_, hC_⟩ : _ ∧ _ ∧ _ ∧ _ ∧ _); clear hc_ hC_ hb_ fl0 fl1 fl2; obtain ⟨fl0, fl1, fl2⟩ := box3 (G2.out.2.2.2.1.at_blk 0 rfl))
        go_upto_region 10 with (go_at_call 21; refine (HALL.out.2.2.1 _ _ _ G2.out.2.2.1 G1c.out).mono ?_; rintro e_ w6 ⟨AW2, cW2, rfl, hc_, hC_, hb_⟩; have G3 := Aside0.mk (⟨Kd.C_below G2.out.1 hb_, G2.out.2.1, Kd.C_below G2.out.2.2.1 hb_, G2.out.2.2.2.1.keep hb_, Kd.C_below G2.out.2.2.2.2 hb_, hC_⟩ : _ ∧ _ ∧ _ ∧ _ ∧ _ ∧ _); clear hc_ hC_ hb_ fl0 fl1 fl2)
        go_upto_region 11 with (first | (go_at_call 22; refine (HALL.out.2.2.2.1 _ _ _ G3.out.1 G3.out.2.1).mono ?_; rintro e_ w7 ⟨AK1, cK1, rfl, hc_, hC_, hb_⟩; have G4 := Aside0.mk (⟨Kd.C_below G3.out.1 hb_, G3.out.2.1, Kd.C_below G3.out.2.2.1 hb_, G3.out.2.2.2.1.keep hb_, Kd.C_below G3.out.2.2.2.2.1 hb_, Kd.C_below G3.out.2.2.2.2.2 hb_, hC_⟩ : _ ∧ _ ∧ _ ∧ _ ∧ _ ∧ _ ∧ _); clear hc_ hC_ hb_) | (go_at_call 23; refine (HALL.out.2.2.2.2.1 _ _ _ G4.out.2.2.1 G1c.out).mono ?_; rintro e_ w8 ⟨AK2, cK2, rfl, hc_, hC_, hb_⟩; have G5 := Aside0.mk (⟨Kd.C_below G4.out.1 hb_, G4.out.2.1, Kd.C_below G4.out.2.2.1 hb_, G4.out.2.2.2.1.keep hb_, Kd.C_below G4.out.2.2.2.2.1 hb_, Kd.C_below G4.out.2.2.2.2.2.1 hb_, Kd.C_below G4.out.2.2.2.2.2.2 hb_, hC_⟩ : _ ∧ _ ∧ _ ∧ _ ∧ _ ∧ _ ∧ _ ∧ _); clear hc_ hC_ hb_))
        go_wp2_with (first | (go_at_call 11; refine (known_walk _).mono ?_; rintro e_ wk ⟨rfl, hb_⟩; have G6 := Aside0.mk (⟨Kd.C_below G5.out.1 hb_, G5.out.2.1, Kd.C_below G5.out.2.2.1 hb_, G5.out.2.2.2.1.keep hb_, Kd.C_below G5.out.2.2.2.2.1 hb_, Kd.C_below G5.out.2.2.2.2.2.1 hb_, Kd.C_below G5.out.2.2.2.2.2.2.1 hb_, Kd.C_below G5.out.2.2.2.2.2.2.2 hb_⟩ : _ ∧ _ ∧ _ ∧ _ ∧ _ ∧ _ ∧ _ ∧ _); have cv1 := hstr AW1 cW1 wr _ G6.out.2.2.2.2.1; have cv2 := hstr AW2 cW2 wr _ G6.out.2.2.2.2.2.1; have cv3 := hstr AK1 cK1 pk _ G6.out.2.2.2.2.2.2.1; have cv4 := hstr AK2 cK2 pk _ G6.out.2.2.2.2.2.2.2; clear hb_) | (go_at_call 13; refine (HALL.out.2.2.2.2.2 _ _ _ G6.out.1 G6.out.2.1).mono ?_; rintro e_ wa ⟨Aa, ca, rfl, hc_, hC_, hb_⟩; have G7 := Aside0.mk (⟨hC_, Kd.C_below G6.out.2.2.1 hb_, G6.out.2.2.2.1.keep hb_⟩ : _ ∧ _ ∧ _); clear hc_ hC_ hb_) | (go_at_call 12; refine (same_calls Aa A2 ca c2 qs _ G7.out.1 G7.out.2.1).mono ?_; rintro e_ wz ⟨rfl, hb_⟩; have G8 := Aside0.mk (G7.out.2.2.keep hb_); clear hb_))
        go_ret
        exact ⟨rfl, G8.out.below⟩
      · obtain rfl | rfl | rfl : i = 0 ∨ i = 1 ∨ i = 2 := by omega
        · obtain rfl : ii = 0 := hii.out
          have SD := Aside0.mk (S.out.keep (below_drew1 (Below.refl wb.heap.size wb)))
          obtain ⟨hb0, hb1, hb2⟩ := box3 (SD.out.at_blk 0 rfl)
          have hfz : wb.drew.frozen? ⟨w.heap.size, 0, none⟩ = false := blk_frozen (SD.out.at_blk 0 rfl) 0
          have hmn := HT.out.1
          have hex := HT.out.2.2.2.1
          have hle := eq_true (show (m0 : Int) ≤ (s0.size : Int) by have := hm.out.1; omega)
          have hge := eq_true (show (0 : Int) ≤ (m0 : Int) by omega)
          go_wp2
          have E := trivial
          refine start_ (n := 12) (S := fun w' => True) (ds := []) #[false, false, false, false, false, false, false, false, false, false, false, false] (by kernel_rfl) rfl rfl trivial (fun hHeld => ?_)
          refine with_tabW mmw.tab6 mmw.bits6 (fun HT_ HW_ => ?_)
          have E := trivial
          generalize wb.drew = wd at hb0 hb1 hb2 hfz SD hHeld ⊢
          refine pure_ (i := 0) (N := some 29) (v := ?_) (a' := ?_) #[true, false, false, false, false, false, false, false, false, false, false, false] rfl rfl (any_of HT_.out (by kernel_rfl)) (fun _ _ _ h => h) (Or.inl ⟨by rfl, ?_⟩) ?_ ?_
          rotate_left
          · intro w'
            go_simp
            with_reducible rfl
          rotate_left
          · simp only [Act.put, List.setIfInBounds_toArray, List.set_cons_zero, List.set_cons_succ, i64_w, i32_w]
            rfl
          refine pure_ (i := 1) (N := some 30) (v := ?_) (a' := ?_) #[true, true, false, false, false, false, false, false, false, false, false, false] rfl rfl (any_of HT_.out (by kernel_rfl)) (fun _ _ _ h => h) (Or.inl ⟨by rfl, ?_⟩) ?_ ?_
          rotate_left
          · intro w'
            go_simp
            with_reducible rfl
          rotate_left
          · simp only [Act.put, List.setIfInBounds_toArray, List.set_cons_zero, List.set_cons_succ, i64_w, i32_w]
            rfl
          refine pure_ (i := 2) (N := some 31) (v := ?_) (a' := ?_) #[true, true, true, false, false, false, false, false, false, false, false, false] rfl rfl (any_of HT_.out (by kernel_rfl)) (fun _ _ _ h => h) (Or.inl ⟨by rfl, ?_⟩) ?_ ?_
          rotate_left
          · intro w'
            go_simp
            with_reducible rfl
          rotate_left
          · simp only [Act.put, List.setIfInBounds_toArray, List.set_cons_zero, List.set_cons_succ, i64_w, i32_w]
            rfl
          refine pure_ (i := 4) (N := some 33) (v := ?_) (a' := ?_) #[true, true, true, false, true, false, false, false, false, false, false, false] rfl rfl (any_of HT_.out (by kernel_rfl)) (fun _ _ _ h => h) (Or.inl ⟨by rfl, ?_⟩) ?_ ?_
          rotate_left
          · intro w'
            go_simp
            with_reducible rfl
          rotate_left
          · simp only [Act.put, List.setIfInBounds_toArray, List.set_cons_zero, List.set_cons_succ, i64_w, i32_w]
            rfl
          refine pure_ (i := 5) (N := some 34) (v := ?_) (a' := ?_) #[true, true, true, false, true, true, false, false, false, false, false, false] rfl rfl (any_of HT_.out (by kernel_rfl)) (fun _ _ _ h => h) (Or.inl ⟨by rfl, ?_⟩) ?_ ?_
          rotate_left
          · intro w'
            go_simp
            with_reducible rfl
          rotate_left
          · simp only [Act.put, List.setIfInBounds_toArray, List.set_cons_zero, List.set_cons_succ, i64_w, i32_w]
            rfl
          refine inv_at [3, 6, 7, 8, 9, 10, 11] (fun a0_ b a w' => a = putSel a0_ b [(3, 32, .string s0), (6, 35, .string s0), (7, 36, .int .i64 (s0.size : Int)), (8, 37, .int .i64 (m0 : Int)), (9, 38, .string t0), (10, 39, .pointer (some ⟨w.heap.size, 0, none⟩))] ∧ (b 11 = false → w' = wd) ∧ (b 11 = true → w' = wd.setCell ⟨w.heap.size, 0, none⟩ (.string t0))) HT_.out HW_.out (by kernel_rfl) (by kernel_rfl) ?_ ?_ ?_
          · exact ⟨by simp only [putSel, Bool.false_eq_true, if_false], fun _ => rfl, fun h_ => absurd h_ (by decide)⟩
          · skip
            clear E
            refine steps_cons ?_ ?_
            · rintro b a w' ⟨ha, Q_E, Q_Ef⟩ hb_ hon hoff
              refine ⟨_, rfl, fun K hK => ?_⟩
              have e31 : a.tmps[31]? = some (.pointer (some ⟨w.heap.size, 0, none⟩)) := by rw [ha]; exact (putSel_off rfl).trans rfl
              replace ha := Aside0.mk ha
              have E := Aside0.mk (Q_E (hoff 11 (by kernel_rfl)))
              have hw_ := E.out
              have hc_ := hb0
              rw [← hw_] at hc_
              refine value_ (w1 := w') (v := .string s0) (by rfl) rfl ?_ ?_
              · go_simp
                (try simp only [i64_w])
                try rfl
              refine hK.out _ _ ⟨(by rw [ha.out]; exact putSel_upk 0 hb_ rfl rfl rfl), Q_E, fun h0_ => absurd ((hoff 11 (by kernel_rfl)).symm.trans h0_) (by decide)⟩
            refine steps_cons ?_ ?_
            · rintro b a w' ⟨ha, Q_E, Q_Ef⟩ hb_ hon hoff
              refine ⟨_, rfl, fun K hK => ?_⟩
              have e34 : a.tmps[34]? = some (.pointer (some ⟨w.heap.size, 0, none⟩)) := by rw [ha]; exact (putSel_off rfl).trans rfl
              replace ha := Aside0.mk ha
              have E := Aside0.mk (Q_E (hoff 11 (by kernel_rfl)))
              have hw_ := E.out
              have hc_ := hb0
              rw [← hw_] at hc_
              refine value_ (w1 := w') (v := .string s0) (by rfl) rfl ?_ ?_
              · go_simp
                (try simp only [i64_w])
                try rfl
              refine hK.out _ _ ⟨(by rw [ha.out]; exact putSel_upk 1 hb_ rfl rfl rfl), Q_E, fun h0_ => absurd ((hoff 11 (by kernel_rfl)).symm.trans h0_) (by decide)⟩
            refine steps_cons ?_ ?_
            · rintro b a w' ⟨ha, Q_E, Q_Ef⟩ hb_ hon hoff
              refine ⟨_, rfl, fun K hK => ?_⟩
              have e35 : a.tmps[35]? = some (.string s0) := by rw [ha]; exact putSel_on (e := (6, 35, .string s0)) 1 rfl rfl (hon 6 (by kernel_rfl)) rfl
              replace ha := Aside0.mk ha
              have E := Aside0.mk (Q_E (hoff 11 (by kernel_rfl)))
              refine value_ (w1 := w') (v := .int .i64 (s0.size : Int)) (by rfl) rfl ?_ ?_
              · go_simp
                (try simp only [i64_w])
                try rfl
              refine hK.out _ _ ⟨(by rw [ha.out]; exact putSel_upk 2 hb_ rfl rfl rfl), Q_E, fun h0_ => absurd ((hoff 11 (by kernel_rfl)).symm.trans h0_) (by decide)⟩
            refine steps_cons ?_ ?_
            · rintro b a w' ⟨ha, Q_E, Q_Ef⟩ hb_ hon hoff
              refine ⟨_, rfl, fun K hK => ?_⟩
              have e36 : a.tmps[36]? = some (.int .i64 (s0.size : Int)) := by rw [ha]; exact putSel_on (e := (7, 36, .int .i64 (s0.size : Int))) 2 rfl rfl (hon 7 (by kernel_rfl)) rfl
              replace ha := Aside0.mk ha
              have E := Aside0.mk (Q_E (hoff 11 (by kernel_rfl)))
              refine value_ (w1 := w') (v := .int .i64 (m0 : Int)) (by rfl) rfl ?_ ?_
              · go_simp
                (try simp only [i64_w])
                try rfl
              refine hK.out _ _ ⟨(by rw [ha.out]; exact putSel_upk 3 hb_ rfl rfl rfl), Q_E, fun h0_ => absurd ((hoff 11 (by kernel_rfl)).symm.trans h0_) (by decide)⟩
            refine steps_cons ?_ ?_
            · rintro b a w' ⟨ha, Q_E, Q_Ef⟩ hb_ hon hoff
              refine ⟨_, rfl, fun K hK => ?_⟩
              have e32 : a.tmps[32]? = some (.string s0) := by rw [ha]; exact putSel_on (e := (3, 32, .string s0)) 0 rfl rfl (hon 3 (by kernel_rfl)) rfl
              have e37 : a.tmps[37]? = some (.int .i64 (m0 : Int)) := by rw [ha]; exact putSel_on (e := (8, 37, .int .i64 (m0 : Int))) 3 rfl rfl (hon 8 (by kernel_rfl)) rfl
              replace ha := Aside0.mk ha
              have E := Aside0.mk (Q_E (hoff 11 (by kernel_rfl)))
              refine value_ (w1 := w') (v := .string t0) (by rfl) rfl ?_ ?_
              · go_simp
                (try simp only [i64_w])
                try rfl
              refine hK.out _ _ ⟨(by rw [ha.out]; exact putSel_upk 4 hb_ rfl rfl rfl), Q_E, fun h0_ => absurd ((hoff 11 (by kernel_rfl)).symm.trans h0_) (by decide)⟩
            refine steps_cons ?_ ?_
            · rintro b a w' ⟨ha, Q_E, Q_Ef⟩ hb_ hon hoff
              refine ⟨_, rfl, fun K hK => ?_⟩
              have e5 : a.tmps[5]? = some (.pointer (some ⟨w.heap.size, 0, none⟩)) := by rw [ha]; exact (putSel_off rfl).trans rfl
              have e29 : a.tmps[29]? = some (.int .i64 0) := by rw [ha]; exact (putSel_off rfl).trans rfl
              replace ha := Aside0.mk ha
              have E := Aside0.mk (Q_E (hoff 11 (by kernel_rfl)))
              refine value_ (w1 := w') (v := .pointer (some ⟨w.heap.size, 0, none⟩)) (by rfl) rfl ?_ ?_
              · go_simp
                (try simp only [i64_w])
                try rfl
              refine hK.out _ _ ⟨(by rw [ha.out]; exact putSel_upk 5 hb_ rfl rfl rfl), Q_E, fun h0_ => absurd ((hoff 11 (by kernel_rfl)).symm.trans h0_) (by decide)⟩
            refine steps_cons ?_ ?_
            · rintro b a w' ⟨ha, Q_E, Q_Ef⟩ hb_ hon hoff
              refine ⟨_, rfl, fun K hK => ?_⟩
              have e39 : a.tmps[39]? = some (.pointer (some ⟨w.heap.size, 0, none⟩)) := by rw [ha]; exact putSel_on (e := (10, 39, .pointer (some ⟨w.heap.size, 0, none⟩))) 5 rfl rfl (hon 10 (by kernel_rfl)) rfl
              have e38 : a.tmps[38]? = some (.string t0) := by rw [ha]; exact putSel_on (e := (9, 38, .string t0)) 4 rfl rfl (hon 9 (by kernel_rfl)) rfl
              replace ha := Aside0.mk ha
              have E := Aside0.mk (Q_E hb_)
              have hw_ := E.out
              have hc_ := hb0
              rw [← hw_] at hc_
              have hf_ := hfz
              rw [← hw_] at hf_
              refine skip_ (w1 := w'.setCell ⟨w.heap.size, 0, none⟩ (.string t0)) (by rfl) rfl ?_ ?_
              · go_simp
                try rfl
              refine hK.out _ _ ⟨(by rw [ha.out]; exact putSel_none (v := undef) rfl), fun h0_ => absurd ((up_self b 11).symm.trans h0_) (by decide), fun _ => (by rw [hw_])⟩
            exact steps_nil
          · rintro b a w' hall ⟨ha, Q_E, Q_Ef⟩
            clear E
            have hb3_ := hall 3 (by kernel_rfl)
            have hb6_ := hall 6 (by kernel_rfl)
            have hb7_ := hall 7 (by kernel_rfl)
            have hb8_ := hall 8 (by kernel_rfl)
            have hb9_ := hall 9 (by kernel_rfl)
            have hb10_ := hall 10 (by kernel_rfl)
            have hb11_ := hall 11 (by kernel_rfl)
            subst ha
            simp only [putSel, hb3_, hb6_, hb7_, hb8_, hb9_, hb10_, hb11_, if_true, Act.put, List.setIfInBounds_toArray, List.set_cons_zero, List.set_cons_succ]
            clear Q_E
            have Ef := Aside0.mk (Q_Ef hb11_)
            clear Q_Ef
            clear hall hb3_ hb6_ hb7_ hb8_ hb9_ hb10_ hb11_
            have hw_ := Ef.out
            subst hw_
            have S2 := Aside0.mk (set0S SD.out 0 (.string t0))
            clear E Ef SD hb0 hb1 hb2 hfz hmn hex hle hge
            go_wp2
            go_roundg (3 - (0 + 1))
            case rel => exact ⟨1, 1, by first | rfl | (simp; done), ⟨rfl⟩, ⟨by omega, rfl⟩, S2⟩
            case measure => have := hi.out.2; omega
        · obtain rfl : ii = 1 := hii.out
          have SD := Aside0.mk (S.out.keep (below_drew1 (Below.refl wb.heap.size wb)))
          obtain ⟨hb0, hb1, hb2⟩ := box3 (SD.out.at_blk 0 rfl)
          have hfz : wb.drew.frozen? ⟨w.heap.size, 1, none⟩ = false := blk_frozen (SD.out.at_blk 0 rfl) 1
          have hmn := HT.out.2.1
          have hex := HT.out.2.2.2.2.1
          have hle := eq_true (show (m1 : Int) ≤ (s1.size : Int) by have := hm.out.2.1; omega)
          have hge := eq_true (show (0 : Int) ≤ (m1 : Int) by omega)
          go_wp2
          have E := trivial
          refine start_ (n := 12) (S := fun w' => True) (ds := []) #[false, false, false, false, false, false, false, false, false, false, false, false] (by kernel_rfl) rfl rfl trivial (fun hHeld => ?_)
          refine with_tabW mmw.tab6 mmw.bits6 (fun HT_ HW_ => ?_)
          have E := trivial
          generalize wb.drew = wd at hb0 hb1 hb2 hfz SD hHeld ⊢
          refine pure_ (i := 0) (N := some 29) (v := ?_) (a' := ?_) #[true, false, false, false, false, false, false, false, false, false, false, false] rfl rfl (any_of HT_.out (by kernel_rfl)) (fun _ _ _ h => h) (Or.inl ⟨by rfl, ?_⟩) ?_ ?_
          rotate_left
          · intro w'
            go_simp
            with_reducible rfl
          rotate_left
          · simp only [Act.put, List.setIfInBounds_toArray, List.set_cons_zero, List.set_cons_succ, i64_w, i32_w]
            rfl
          refine pure_ (i := 1) (N := some 30) (v := ?_) (a' := ?_) #[true, true, false, false, false, false, false, false, false, false, false, false] rfl rfl (any_of HT_.out (by kernel_rfl)) (fun _ _ _ h => h) (Or.inl ⟨by rfl, ?_⟩) ?_ ?_
          rotate_left
          · intro w'
            go_simp
            with_reducible rfl
          rotate_left
          · simp only [Act.put, List.setIfInBounds_toArray, List.set_cons_zero, List.set_cons_succ, i64_w, i32_w]
            rfl
          refine pure_ (i := 2) (N := some 31) (v := ?_) (a' := ?_) #[true, true, true, false, false, false, false, false, false, false, false, false] rfl rfl (any_of HT_.out (by kernel_rfl)) (fun _ _ _ h => h) (Or.inl ⟨by rfl, ?_⟩) ?_ ?_
          rotate_left
          · intro w'
            go_simp
            with_reducible rfl
          rotate_left
          · simp only [Act.put, List.setIfInBounds_toArray, List.set_cons_zero, List.set_cons_succ, i64_w, i32_w]
            rfl
          refine pure_ (i := 4) (N := some 33) (v := ?_) (a' := ?_) #[true, true, true, false, true, false, false, false, false, false, false, false] rfl rfl (any_of HT_.out (by kernel_rfl)) (fun _ _ _ h => h) (Or.inl ⟨by rfl, ?_⟩) ?_ ?_
          rotate_left
          · intro w'
            go_simp
            with_reducible rfl
          rotate_left
          · simp only [Act.put, List.setIfInBounds_toArray, List.set_cons_zero, List.set_cons_succ, i64_w, i32_w]
            rfl
          refine pure_ (i := 5) (N := some 34) (v := ?_) (a' := ?_) #[true, true, true, false, true, true, false, false, false, false, false, false] rfl rfl (any_of HT_.out (by kernel_rfl)) (fun _ _ _ h => h) (Or.inl ⟨by rfl, ?_⟩) ?_ ?_
          rotate_left
          · intro w'
            go_simp
            with_reducible rfl
          rotate_left
          · simp only [Act.put, List.setIfInBounds_toArray, List.set_cons_zero, List.set_cons_succ, i64_w, i32_w]
            rfl
          refine inv_at [3, 6, 7, 8, 9, 10, 11] (fun a0_ b a w' => a = putSel a0_ b [(3, 32, .string s1), (6, 35, .string s1), (7, 36, .int .i64 (s1.size : Int)), (8, 37, .int .i64 (m1 : Int)), (9, 38, .string t1), (10, 39, .pointer (some ⟨w.heap.size, 1, none⟩))] ∧ (b 11 = false → w' = wd) ∧ (b 11 = true → w' = wd.setCell ⟨w.heap.size, 1, none⟩ (.string t1))) HT_.out HW_.out (by kernel_rfl) (by kernel_rfl) ?_ ?_ ?_
          · exact ⟨by simp only [putSel, Bool.false_eq_true, if_false], fun _ => rfl, fun h_ => absurd h_ (by decide)⟩
          · skip
            clear E
            refine steps_cons ?_ ?_
            · rintro b a w' ⟨ha, Q_E, Q_Ef⟩ hb_ hon hoff
              refine ⟨_, rfl, fun K hK => ?_⟩
              have e31 : a.tmps[31]? = some (.pointer (some ⟨w.heap.size, 1, none⟩)) := by rw [ha]; exact (putSel_off rfl).trans rfl
              replace ha := Aside0.mk ha
              have E := Aside0.mk (Q_E (hoff 11 (by kernel_rfl)))
              have hw_ := E.out
              have hc_ := hb1
              rw [← hw_] at hc_
              refine value_ (w1 := w') (v := .string s1) (by rfl) rfl ?_ ?_
              · go_simp
                (try simp only [i64_w])
                try rfl
              refine hK.out _ _ ⟨(by rw [ha.out]; exact putSel_upk 0 hb_ rfl rfl rfl), Q_E, fun h0_ => absurd ((hoff 11 (by kernel_rfl)).symm.trans h0_) (by decide)⟩
            refine steps_cons ?_ ?_
            · rintro b a w' ⟨ha, Q_E, Q_Ef⟩ hb_ hon hoff
              refine ⟨_, rfl, fun K hK => ?_⟩
              have e34 : a.tmps[34]? = some (.pointer (some ⟨w.heap.size, 1, none⟩)) := by rw [ha]; exact (putSel_off rfl).trans rfl
              replace ha := Aside0.mk ha
              have E := Aside0.mk (Q_E (hoff 11 (by kernel_rfl)))
              have hw_ := E.out
              have hc_ := hb1
              rw [← hw_] at hc_
              refine value_ (w1 := w') (v := .string s1) (by rfl) rfl ?_ ?_
              · go_simp
                (try simp only [i64_w])
                try rfl
              refine hK.out _ _ ⟨(by rw [ha.out]; exact putSel_upk 1 hb_ rfl rfl rfl), Q_E, fun h0_ => absurd ((hoff 11 (by kernel_rfl)).symm.trans h0_) (by decide)⟩
            refine steps_cons ?_ ?_
            · rintro b a w' ⟨ha, Q_E, Q_Ef⟩ hb_ hon hoff
              refine ⟨_, rfl, fun K hK => ?_⟩
              have e35 : a.tmps[35]? = some (.string s1) := by rw [ha]; exact putSel_on (e := (6, 35, .string s1)) 1 rfl rfl (hon 6 (by kernel_rfl)) rfl
              replace ha := Aside0.mk ha
              have E := Aside0.mk (Q_E (hoff 11 (by kernel_rfl)))
              refine value_ (w1 := w') (v := .int .i64 (s1.size : Int)) (by rfl) rfl ?_ ?_
              · go_simp
                (try simp only [i64_w])
                try rfl
              refine hK.out _ _ ⟨(by rw [ha.out]; exact putSel_upk 2 hb_ rfl rfl rfl), Q_E, fun h0_ => absurd ((hoff 11 (by kernel_rfl)).symm.trans h0_) (by decide)⟩
            refine steps_cons ?_ ?_
            · rintro b a w' ⟨ha, Q_E, Q_Ef⟩ hb_ hon hoff
              refine ⟨_, rfl, fun K hK => ?_⟩
              have e36 : a.tmps[36]? = some (.int .i64 (s1.size : Int)) := by rw [ha]; exact putSel_on (e := (7, 36, .int .i64 (s1.size : Int))) 2 rfl rfl (hon 7 (by kernel_rfl)) rfl
              replace ha := Aside0.mk ha
              have E := Aside0.mk (Q_E (hoff 11 (by kernel_rfl)))
              refine value_ (w1 := w') (v := .int .i64 (m1 : Int)) (by rfl) rfl ?_ ?_
              · go_simp
                (try simp only [i64_w])
                try rfl
              refine hK.out _ _ ⟨(by rw [ha.out]; exact putSel_upk 3 hb_ rfl rfl rfl), Q_E, fun h0_ => absurd ((hoff 11 (by kernel_rfl)).symm.trans h0_) (by decide)⟩
            refine steps_cons ?_ ?_
            · rintro b a w' ⟨ha, Q_E, Q_Ef⟩ hb_ hon hoff
              refine ⟨_, rfl, fun K hK => ?_⟩
              have e32 : a.tmps[32]? = some (.string s1) := by rw [ha]; exact putSel_on (e := (3, 32, .string s1)) 0 rfl rfl (hon 3 (by kernel_rfl)) rfl
              have e37 : a.tmps[37]? = some (.int .i64 (m1 : Int)) := by rw [ha]; exact putSel_on (e := (8, 37, .int .i64 (m1 : Int))) 3 rfl rfl (hon 8 (by kernel_rfl)) rfl
              replace ha := Aside0.mk ha
              have E := Aside0.mk (Q_E (hoff 11 (by kernel_rfl)))
              refine value_ (w1 := w') (v := .string t1) (by rfl) rfl ?_ ?_
              · go_simp
                (try simp only [i64_w])
                try rfl
              refine hK.out _ _ ⟨(by rw [ha.out]; exact putSel_upk 4 hb_ rfl rfl rfl), Q_E, fun h0_ => absurd ((hoff 11 (by kernel_rfl)).symm.trans h0_) (by decide)⟩
            refine steps_cons ?_ ?_
            · rintro b a w' ⟨ha, Q_E, Q_Ef⟩ hb_ hon hoff
              refine ⟨_, rfl, fun K hK => ?_⟩
              have e5 : a.tmps[5]? = some (.pointer (some ⟨w.heap.size, 0, none⟩)) := by rw [ha]; exact (putSel_off rfl).trans rfl
              have e29 : a.tmps[29]? = some (.int .i64 1) := by rw [ha]; exact (putSel_off rfl).trans rfl
              replace ha := Aside0.mk ha
              have E := Aside0.mk (Q_E (hoff 11 (by kernel_rfl)))
              refine value_ (w1 := w') (v := .pointer (some ⟨w.heap.size, 1, none⟩)) (by rfl) rfl ?_ ?_
              · go_simp
                (try simp only [i64_w])
                try rfl
              refine hK.out _ _ ⟨(by rw [ha.out]; exact putSel_upk 5 hb_ rfl rfl rfl), Q_E, fun h0_ => absurd ((hoff 11 (by kernel_rfl)).symm.trans h0_) (by decide)⟩
            refine steps_cons ?_ ?_
            · rintro b a w' ⟨ha, Q_E, Q_Ef⟩ hb_ hon hoff
              refine ⟨_, rfl, fun K hK => ?_⟩
              have e39 : a.tmps[39]? = some (.pointer (some ⟨w.heap.size, 1, none⟩)) := by rw [ha]; exact putSel_on (e := (10, 39, .pointer (some ⟨w.heap.size, 1, none⟩))) 5 rfl rfl (hon 10 (by kernel_rfl)) rfl
              have e38 : a.tmps[38]? = some (.string t1) := by rw [ha]; exact putSel_on (e := (9, 38, .string t1)) 4 rfl rfl (hon 9 (by kernel_rfl)) rfl
              replace ha := Aside0.mk ha
              have E := Aside0.mk (Q_E hb_)
              have hw_ := E.out
              have hc_ := hb1
              rw [← hw_] at hc_
              have hf_ := hfz
              rw [← hw_] at hf_
              refine skip_ (w1 := w'.setCell ⟨w.heap.size, 1, none⟩ (.string t1)) (by rfl) rfl ?_ ?_
              · go_simp
                try rfl
              refine hK.out _ _ ⟨(by rw [ha.out]; exact putSel_none (v := undef) rfl), fun h0_ => absurd ((up_self b 11).symm.trans h0_) (by decide), fun _ => (by rw [hw_])⟩
            exact steps_nil
          · rintro b a w' hall ⟨ha, Q_E, Q_Ef⟩
            clear E
            have hb3_ := hall 3 (by kernel_rfl)
            have hb6_ := hall 6 (by kernel_rfl)
            have hb7_ := hall 7 (by kernel_rfl)
            have hb8_ := hall 8 (by kernel_rfl)
            have hb9_ := hall 9 (by kernel_rfl)
            have hb10_ := hall 10 (by kernel_rfl)
            have hb11_ := hall 11 (by kernel_rfl)
            subst ha
            simp only [putSel, hb3_, hb6_, hb7_, hb8_, hb9_, hb10_, hb11_, if_true, Act.put, List.setIfInBounds_toArray, List.set_cons_zero, List.set_cons_succ]
            clear Q_E
            have Ef := Aside0.mk (Q_Ef hb11_)
            clear Q_Ef
            clear hall hb3_ hb6_ hb7_ hb8_ hb9_ hb10_ hb11_
            have hw_ := Ef.out
            subst hw_
            have S2 := Aside0.mk (set0S SD.out 1 (.string t1))
            clear E Ef SD hb0 hb1 hb2 hfz hmn hex hle hge
            go_wp2
            go_roundg (3 - (1 + 1))
            case rel => exact ⟨2, 2, by first | rfl | (simp; done), ⟨rfl⟩, ⟨by omega, rfl⟩, S2⟩
            case measure => have := hi.out.2; omega
        · obtain rfl : ii = 2 := hii.out
          have SD := Aside0.mk (S.out.keep (below_drew1 (Below.refl wb.heap.size wb)))
          obtain ⟨hb0, hb1, hb2⟩ := box3 (SD.out.at_blk 0 rfl)
          have hfz : wb.drew.frozen? ⟨w.heap.size, 2, none⟩ = false := blk_frozen (SD.out.at_blk 0 rfl) 2
          have hmn := HT.out.2.2.1
          have hex := HT.out.2.2.2.2.2
          have hle := eq_true (show (m2 : Int) ≤ (s2.size : Int) by have := hm.out.2.2; omega)
          have hge := eq_true (show (0 : Int) ≤ (m2 : Int) by omega)
          go_wp2
          have E := trivial
          refine start_ (n := 12) (S := fun w' => True) (ds := []) #[false, false, false, false, false, false, false, false, false, false, false, false] (by kernel_rfl) rfl rfl trivial (fun hHeld => ?_)
          refine with_tabW mmw.tab6 mmw.bits6 (fun HT_ HW_ => ?_)
          have E := trivial
          generalize wb.drew = wd at hb0 hb1 hb2 hfz SD hHeld ⊢
          refine pure_ (i := 0) (N := some 29) (v := ?_) (a' := ?_) #[true, false, false, false, false, false, false, false, false, false, false, false] rfl rfl (any_of HT_.out (by kernel_rfl)) (fun _ _ _ h => h) (Or.inl ⟨by rfl, ?_⟩) ?_ ?_
          rotate_left
          · intro w'
            go_simp
            with_reducible rfl
          rotate_left
          · simp only [Act.put, List.setIfInBounds_toArray, List.set_cons_zero, List.set_cons_succ, i64_w, i32_w]
            rfl
          refine pure_ (i := 1) (N := some 30) (v := ?_) (a' := ?_) #[true, true, false, false, false, false, false, false, false, false, false, false] rfl rfl (any_of HT_.out (by kernel_rfl)) (fun _ _ _ h => h) (Or.inl ⟨by rfl, ?_⟩) ?_ ?_
          rotate_left
          · intro w'
            go_simp
            with_reducible rfl
          rotate_left
          · simp only [Act.put, List.setIfInBounds_toArray, List.set_cons_zero, List.set_cons_succ, i64_w, i32_w]
            rfl
          refine pure_ (i := 2) (N := some 31) (v := ?_) (a' := ?_) #[true, true, true, false, false, false, false, false, false, false, false, false] rfl rfl (any_of HT_.out (by kernel_rfl)) (fun _ _ _ h => h) (Or.inl ⟨by rfl, ?_⟩) ?_ ?_
          rotate_left
          · intro w'
            go_simp
            with_reducible rfl
          rotate_left
          · simp only [Act.put, List.setIfInBounds_toArray, List.set_cons_zero, List.set_cons_succ, i64_w, i32_w]
            rfl
          refine pure_ (i := 4) (N := some 33) (v := ?_) (a' := ?_) #[true, true, true, false, true, false, false, false, false, false, false, false] rfl rfl (any_of HT_.out (by kernel_rfl)) (fun _ _ _ h => h) (Or.inl ⟨by rfl, ?_⟩) ?_ ?_
          rotate_left
          · intro w'
            go_simp
            with_reducible rfl
          rotate_left
          · simp only [Act.put, List.setIfInBounds_toArray, List.set_cons_zero, List.set_cons_succ, i64_w, i32_w]
            rfl
          refine pure_ (i := 5) (N := some 34) (v := ?_) (a' := ?_) #[true, true, true, false, true, true, false, false, false, false, false, false] rfl rfl (any_of HT_.out (by kernel_rfl)) (fun _ _ _ h => h) (Or.inl ⟨by rfl, ?_⟩) ?_ ?_
          rotate_left
          · intro w'
            go_simp
            with_reducible rfl
          rotate_left
          · simp only [Act.put, List.setIfInBounds_toArray, List.set_cons_zero, List.set_cons_succ, i64_w, i32_w]
            rfl
          refine inv_at [3, 6, 7, 8, 9, 10, 11] (fun a0_ b a w' => a = putSel a0_ b [(3, 32, .string s2), (6, 35, .string s2), (7, 36, .int .i64 (s2.size : Int)), (8, 37, .int .i64 (m2 : Int)), (9, 38, .string t2), (10, 39, .pointer (some ⟨w.heap.size, 2, none⟩))] ∧ (b 11 = false → w' = wd) ∧ (b 11 = true → w' = wd.setCell ⟨w.heap.size, 2, none⟩ (.string t2))) HT_.out HW_.out (by kernel_rfl) (by kernel_rfl) ?_ ?_ ?_
          · exact ⟨by simp only [putSel, Bool.false_eq_true, if_false], fun _ => rfl, fun h_ => absurd h_ (by decide)⟩
          · skip
            clear E
            refine steps_cons ?_ ?_
            · rintro b a w' ⟨ha, Q_E, Q_Ef⟩ hb_ hon hoff
              refine ⟨_, rfl, fun K hK => ?_⟩
              have e31 : a.tmps[31]? = some (.pointer (some ⟨w.heap.size, 2, none⟩)) := by rw [ha]; exact (putSel_off rfl).trans rfl
              replace ha := Aside0.mk ha
              have E := Aside0.mk (Q_E (hoff 11 (by kernel_rfl)))
              have hw_ := E.out
              have hc_ := hb2
              rw [← hw_] at hc_
              refine value_ (w1 := w') (v := .string s2) (by rfl) rfl ?_ ?_
              · go_simp
                (try simp only [i64_w])
                try rfl
              refine hK.out _ _ ⟨(by rw [ha.out]; exact putSel_upk 0 hb_ rfl rfl rfl), Q_E, fun h0_ => absurd ((hoff 11 (by kernel_rfl)).symm.trans h0_) (by decide)⟩
            refine steps_cons ?_ ?_
            · rintro b a w' ⟨ha, Q_E, Q_Ef⟩ hb_ hon hoff
              refine ⟨_, rfl, fun K hK => ?_⟩
              have e34 : a.tmps[34]? = some (.pointer (some ⟨w.heap.size, 2, none⟩)) := by rw [ha]; exact (putSel_off rfl).trans rfl
              replace ha := Aside0.mk ha
              have E := Aside0.mk (Q_E (hoff 11 (by kernel_rfl)))
              have hw_ := E.out
              have hc_ := hb2
              rw [← hw_] at hc_
              refine value_ (w1 := w') (v := .string s2) (by rfl) rfl ?_ ?_
              · go_simp
                (try simp only [i64_w])
                try rfl
              refine hK.out _ _ ⟨(by rw [ha.out]; exact putSel_upk 1 hb_ rfl rfl rfl), Q_E, fun h0_ => absurd ((hoff 11 (by kernel_rfl)).symm.trans h0_) (by decide)⟩
            refine steps_cons ?_ ?_
            · rintro b a w' ⟨ha, Q_E, Q_Ef⟩ hb_ hon hoff
              refine ⟨_, rfl, fun K hK => ?_⟩
              have e35 : a.tmps[35]? = some (.string s2) := by rw [ha]; exact putSel_on (e := (6, 35, .string s2)) 1 rfl rfl (hon 6 (by kernel_rfl)) rfl
              replace ha := Aside0.mk ha
              have E := Aside0.mk (Q_E (hoff 11 (by kernel_rfl)))
              refine value_ (w1 := w') (v := .int .i64 (s2.size : Int)) (by rfl) rfl ?_ ?_
              · go_simp
                (try simp only [i64_w])
                try rfl
              refine hK.out _ _ ⟨(by rw [ha.out]; exact putSel_upk 2 hb_ rfl rfl rfl), Q_E, fun h0_ => absurd ((hoff 11 (by kernel_rfl)).symm.trans h0_) (by decide)⟩
            refine steps_cons ?_ ?_
            · rintro b a w' ⟨ha, Q_E, Q_Ef⟩ hb_ hon hoff
              refine ⟨_, rfl, fun K hK => ?_⟩
              have e36 : a.tmps[36]? = some (.int .i64 (s2.size : Int)) := by rw [ha]; exact putSel_on (e := (7, 36, .int .i64 (s2.size : Int))) 2 rfl rfl (hon 7 (by kernel_rfl)) rfl
              replace ha := Aside0.mk ha
              have E := Aside0.mk (Q_E (hoff 11 (by kernel_rfl)))
              refine value_ (w1 := w') (v := .int .i64 (m2 : Int)) (by rfl) rfl ?_ ?_
              · go_simp
                (try simp only [i64_w])
                try rfl
              refine hK.out _ _ ⟨(by rw [ha.out]; exact putSel_upk 3 hb_ rfl rfl rfl), Q_E, fun h0_ => absurd ((hoff 11 (by kernel_rfl)).symm.trans h0_) (by decide)⟩
            refine steps_cons ?_ ?_
            · rintro b a w' ⟨ha, Q_E, Q_Ef⟩ hb_ hon hoff
              refine ⟨_, rfl, fun K hK => ?_⟩
              have e32 : a.tmps[32]? = some (.string s2) := by rw [ha]; exact putSel_on (e := (3, 32, .string s2)) 0 rfl rfl (hon 3 (by kernel_rfl)) rfl
              have e37 : a.tmps[37]? = some (.int .i64 (m2 : Int)) := by rw [ha]; exact putSel_on (e := (8, 37, .int .i64 (m2 : Int))) 3 rfl rfl (hon 8 (by kernel_rfl)) rfl
              replace ha := Aside0.mk ha
              have E := Aside0.mk (Q_E (hoff 11 (by kernel_rfl)))
              refine value_ (w1 := w') (v := .string t2) (by rfl) rfl ?_ ?_
              · go_simp
                (try simp only [i64_w])
                try rfl
              refine hK.out _ _ ⟨(by rw [ha.out]; exact putSel_upk 4 hb_ rfl rfl rfl), Q_E, fun h0_ => absurd ((hoff 11 (by kernel_rfl)).symm.trans h0_) (by decide)⟩
            refine steps_cons ?_ ?_
            · rintro b a w' ⟨ha, Q_E, Q_Ef⟩ hb_ hon hoff
              refine ⟨_, rfl, fun K hK => ?_⟩
              have e5 : a.tmps[5]? = some (.pointer (some ⟨w.heap.size, 0, none⟩)) := by rw [ha]; exact (putSel_off rfl).trans rfl
              have e29 : a.tmps[29]? = some (.int .i64 2) := by rw [ha]; exact (putSel_off rfl).trans rfl
              replace ha := Aside0.mk ha
              have E := Aside0.mk (Q_E (hoff 11 (by kernel_rfl)))
              refine value_ (w1 := w') (v := .pointer (some ⟨w.heap.size, 2, none⟩)) (by rfl) rfl ?_ ?_
              · go_simp
                (try simp only [i64_w])
                try rfl
              refine hK.out _ _ ⟨(by rw [ha.out]; exact putSel_upk 5 hb_ rfl rfl rfl), Q_E, fun h0_ => absurd ((hoff 11 (by kernel_rfl)).symm.trans h0_) (by decide)⟩
            refine steps_cons ?_ ?_
            · rintro b a w' ⟨ha, Q_E, Q_Ef⟩ hb_ hon hoff
              refine ⟨_, rfl, fun K hK => ?_⟩
              have e39 : a.tmps[39]? = some (.pointer (some ⟨w.heap.size, 2, none⟩)) := by rw [ha]; exact putSel_on (e := (10, 39, .pointer (some ⟨w.heap.size, 2, none⟩))) 5 rfl rfl (hon 10 (by kernel_rfl)) rfl
              have e38 : a.tmps[38]? = some (.string t2) := by rw [ha]; exact putSel_on (e := (9, 38, .string t2)) 4 rfl rfl (hon 9 (by kernel_rfl)) rfl
              replace ha := Aside0.mk ha
              have E := Aside0.mk (Q_E hb_)
              have hw_ := E.out
              have hc_ := hb2
              rw [← hw_] at hc_
              have hf_ := hfz
              rw [← hw_] at hf_
              refine skip_ (w1 := w'.setCell ⟨w.heap.size, 2, none⟩ (.string t2)) (by rfl) rfl ?_ ?_
              · go_simp
                try rfl
              refine hK.out _ _ ⟨(by rw [ha.out]; exact putSel_none (v := undef) rfl), fun h0_ => absurd ((up_self b 11).symm.trans h0_) (by decide), fun _ => (by rw [hw_])⟩
            exact steps_nil
          · rintro b a w' hall ⟨ha, Q_E, Q_Ef⟩
            clear E
            have hb3_ := hall 3 (by kernel_rfl)
            have hb6_ := hall 6 (by kernel_rfl)
            have hb7_ := hall 7 (by kernel_rfl)
            have hb8_ := hall 8 (by kernel_rfl)
            have hb9_ := hall 9 (by kernel_rfl)
            have hb10_ := hall 10 (by kernel_rfl)
            have hb11_ := hall 11 (by kernel_rfl)
            subst ha
            simp only [putSel, hb3_, hb6_, hb7_, hb8_, hb9_, hb10_, hb11_, if_true, Act.put, List.setIfInBounds_toArray, List.set_cons_zero, List.set_cons_succ]
            clear Q_E
            have Ef := Aside0.mk (Q_Ef hb11_)
            clear Q_Ef
            clear hall hb3_ hb6_ hb7_ hb8_ hb9_ hb10_ hb11_
            have hw_ := Ef.out
            subst hw_
            have S2 := Aside0.mk (set0S SD.out 2 (.string t2))
            clear E Ef SD hb0 hb1 hb2 hfz hmn hex hle hge
            go_wp2
            go_roundg (3 - (2 + 1))
            case rel => exact ⟨3, 3, by first | rfl | (simp; done), ⟨rfl⟩, ⟨by omega, rfl⟩, S2⟩
            case measure => have := hi.out.2; omega
  · skip
    have hstr := fun (A : Option Addr) (c : Nat) (d : List Int) (W : World) (h : Kd.C B8 W A d.length d) => (Kd.C_string Tryd.underlying22 Tryd.underlying5 Tryd.underlying9 h : (convert 22 9 (.slice A d.length c)).run Tryd.prog W = .ok (.string (strOfNums d)) W)
    go_wp2
    go_loopg [9] 3 (fun kq v9 W => ∃ (ii : Int) (i : Nat), v9 = .int .i64 ii ∧ Aside0 (ii = (i : Int)) ∧ Aside0 (i ≤ 3 ∧ kq = 3 - i) ∧ Aside0 (Stt w (fun k => k < w.heap.size) [blk w.heap.size 39 (lab3 s0 s1 s2 t0 t1 t2 i)] [rdV kP A c ps] W))
    case atStart => exact ⟨0, 0, rfl, ⟨rfl⟩, ⟨by omega, rfl⟩, S0⟩
    case round =>
      clear S0
      obtain ⟨ii, i, rfl, hii, hi, S⟩ := hrel
      obtain ⟨wb, rfl⟩ : ∃ q, q = wr := ⟨_, rfl⟩
      obtain h3 | hk3 : i = 3 ∨ i < 3 := by have := hi.out.1; omega
      · subst h3
        obtain rfl : ii = 3 := hii.out
        obtain ⟨fl0, fl1, fl2⟩ := box3 (S.out.at_blk 0 rfl)
        replace S : Aside0 (Stt w (fun k => k < w.heap.size) [blk w.heap.size 39 #[.string t0, .string t1, .string t2]] [rdV kP A c ps] wb) := S
        have hqs := fewOf_small ps
        have hql := fewOf_len ps
        have hFew := fun W hW => few_calls A c ps W hW (S.out.rdL 0 rfl)
        obtain ⟨qs, hqe⟩ : ∃ qs, fewOf ps = qs := ⟨_, rfl⟩
        rw [hqe] at hqs hql
        simp only [hqe] at hFew
        have hQ := (⟨fun p hp => by have := hqs p hp; omega, by omega⟩ : (∀ p ∈ qs, p.text.length ≤ 5000000 ∧ p.s0.length ≤ 5000000 ∧ p.s1.length ≤ 5000000 ∧ p.s2.length ≤ 5000000) ∧ qs.length ≤ 20)
        have hW1 := fun A c W hC hc => Write_calls n t0 t1 t2 A c qs W hC hc (by omega) hQ.1 (by have := hts.out; omega) (by have := hts.out; omega) (by have := hts.out; omega)
        have hW2 := fun A c W hC hc => rWrite_calls n t0 t1 t2 A c qs W hn.out hC hc (by omega) hQ.1 (by have := hts.out; omega) (by have := hts.out; omega) (by have := hts.out; omega)
        simp only [← writeOf_eq] at hW2
        obtain ⟨⟨wr, er⟩, hwr⟩ : ∃ r, writeOf n t0 t1 t2 qs = r := ⟨_, rfl⟩
        simp only [hwr] at hW1 hW2
        have hP1 := fun A c W hC hc => Pick_calls side A c qs W hC hc (by omega) hQ.1
        have hP2 := fun A c W hC hc => rPick_calls side A c qs W hC hc (by omega) hQ.1
        simp only [← pick_eq] at hP2
        obtain ⟨pk, hpk⟩ : ∃ r, pickAll side qs [] = r := ⟨_, rfl⟩
        simp only [hpk] at hP1 hP2
        have hA := fun A c W hC hc => as_calls A c qs W hC hc (by omega)
        have HALL := Aside0.mk (⟨hFew, hW1, hW2, hP1, hP2, hA⟩ : _ ∧ _ ∧ _ ∧ _ ∧ _ ∧ _)
        clear hqs hql hFew hqe hQ hW1 hW2 hwr hP1 hP2 hpk hA hi hii HT hm hts hn
        go_upto_region 8 with (go_at_call 18; refine (HALL.out.1 _ (S.out.rdC 0 rfl)).mono ?_; rintro e_ w4 ⟨A1, c1, A2, c2, rfl, hc1_, hC1_, hc2_, hC2_, hb_⟩; have G1 := Aside0.mk (⟨hC1_, hc1_, hC2_, S.out.keep hb_⟩ : _ ∧ _ ∧ _ ∧ _); have G1c := Aside0.mk hc2_; clear hc1_ hC1_ hc2_ hC2_ hb_ S fl0 fl1 fl2; obtain ⟨fl0, fl1, fl2⟩ := box3 (G1.out.2.2.2.at_blk 0 rfl))
        go_upto_region 9 with (go_at_call 19; refine (HALL.out.2.1 _ _ _ G1.out.1 G1.out.2.1).mono ?_; rintro e_ w5 ⟨AW1, cW1, rfl, hc_, hC_, hb_⟩; have G2 := Aside0.mk (⟨Kd.C_below G1.out.1 hb_, G1.out.2.1, Kd.C_below G1.out.2.2.1 hb_, G1.out.2.2.2.keep hb_, hC_⟩ : _ ∧ _ ∧ _ ∧ _ ∧ _); clear hc_ hC_ hb_ fl0 fl1 fl2; obtain ⟨fl0, fl1, fl2⟩ := box3 (G2.out.2.2.2.1.at_blk 0 rfl))
        go_upto_region 10 with (go_at_call 21; refine (HALL.out.2.2.1 _ _ _ G2.out.2.2.1 G1c.out).mono ?_; rintro e_ w6 ⟨AW2, cW2, rfl, hc_, hC_, hb_⟩; have G3 := Aside0.mk (⟨Kd.C_below G2.out.1 hb_, G2.out.2.1, Kd.C_below G2.out.2.2.1 hb_, G2.out.2.2.2.1.keep hb_, Kd.C_below G2.out.2.2.2.2 hb_, hC_⟩ : _ ∧ _ ∧ _ ∧ _ ∧ _ ∧ _); clear hc_ hC_ hb_ fl0 fl1 fl2)
        go_upto_region 11 with (first | (go_at_call 22; refine (HALL.out.2.2.2.1 _ _ _ G3.out.1 G3.out.2.1).mono ?_; rintro e_ w7 ⟨AK1, cK1, rfl, hc_, hC_, hb_⟩; have G4 := Aside0.mk (⟨Kd.C_below G3.out.1 hb_, G3.out.2.1, Kd.C_below G3.out.2.2.1 hb_, G3.out.2.2.2.1.keep hb_, Kd.C_below G3.out.2.2.2.2.1 hb_, Kd.C_below G3.out.2.2.2.2.2 hb_, hC_⟩ : _ ∧ _ ∧ _ ∧ _ ∧ _ ∧ _ ∧ _); clear hc_ hC_ hb_) | (go_at_call 23; refine (HALL.out.2.2.2.2.1 _ _ _ G4.out.2.2.1 G1c.out).mono ?_; rintro e_ w8 ⟨AK2, cK2, rfl, hc_, hC_, hb_⟩; have G5 := Aside0.mk (⟨Kd.C_below G4.out.1 hb_, G4.out.2.1, Kd.C_below G4.out.2.2.1 hb_, G4.out.2.2.2.1.keep hb_, Kd.C_below G4.out.2.2.2.2.1 hb_, Kd.C_below G4.out.2.2.2.2.2.1 hb_, Kd.C_below G4.out.2.2.2.2.2.2 hb_, hC_⟩ : _ ∧ _ ∧ _ ∧ _ ∧ _ ∧ _ ∧ _ ∧ _); clear hc_ hC_ hb_))
        go_wp2_with (first | (go_at_call 11; refine (known_walk _).mono ?_; rintro e_ wk ⟨rfl, hb_⟩; have G6 := Aside0.mk (⟨Kd.C_below G5.out.1 hb_, G5.out.2.1, Kd.C_below G5.out.2.2.1 hb_, G5.out.2.2.2.1.keep hb_, Kd.C_below G5.out.2.2.2.2.1 hb_, Kd.C_below G5.out.2.2.2.2.2.1 hb_, Kd.C_below G5.out.2.2.2.2.2.2.1 hb_, Kd.C_below G5.out.2.2.2.2.2.2.2 hb_⟩ : _ ∧ _ ∧ _ ∧ _ ∧ _ ∧ _ ∧ _ ∧ _); have cv1 := hstr AW1 cW1 wr _ G6.out.2.2.2.2.1; have cv2 := hstr AW2 cW2 wr _ G6.out.2.2.2.2.2.1; have cv3 := hstr AK1 cK1 pk _ G6.out.2.2.2.2.2.2.1; have cv4 := hstr AK2 cK2 pk _ G6.out.2.2.2.2.2.2.2; clear hb_) | (go_at_call 13; refine (HALL.out.2.2.2.2.2 _ _ _ G6.out.1 G6.out.2.1).mono ?_; rintro e_ wa ⟨Aa, ca, rfl, hc_, hC_, hb_⟩; have G7 := Aside0.mk (⟨hC_, Kd.C_below G6.out.2.2.1 hb_, G6.out.2.2.2.1.keep hb_⟩ : _ ∧ _ ∧ _); clear hc_ hC_ hb_) | (go_at_call 12; refine (same_calls Aa A2 ca c2 qs _ G7.out.1 G7.out.2.1).mono ?_; rintro e_ wz ⟨rfl, hb_⟩; have G8 := Aside0.mk (G7.out.2.2.keep hb_); clear hb_))
        go_ret
        exact ⟨rfl, G8.out.below⟩
      · obtain rfl | rfl | rfl : i = 0 ∨ i = 1 ∨ i = 2 := by omega
        · obtain rfl : ii = 0 := hii.out
          have SD := Aside0.mk (S.out.keep (below_drew1 (Below.refl wb.heap.size wb)))
          obtain ⟨hb0, hb1, hb2⟩ := box3 (SD.out.at_blk 0 rfl)
          have hfz : wb.drew.frozen? ⟨w.heap.size, 0, none⟩ = false := blk_frozen (SD.out.at_blk 0 rfl) 0
          have hmn := HT.out.1
          have hex := HT.out.2.2.2.1
          have hle := eq_true (show (m0 : Int) ≤ (s0.size : Int) by have := hm.out.1; omega)
          have hge := eq_true (show (0 : Int) ≤ (m0 : Int) by omega)
          go_wp2
          have E := trivial
          refine start_ (n := 12) (S := fun w' => True) (ds := []) #[false, false, false, false, false, false, false, false, false, false, false, false] (by kernel_rfl) rfl rfl trivial (fun hHeld => ?_)
          refine with_tabW mmw.tab6 mmw.bits6 (fun HT_ HW_ => ?_)
          have E := trivial
          generalize wb.drew = wd at hb0 hb1 hb2 hfz SD hHeld ⊢
          refine pure_ (i := 0) (N := some 29) (v := ?_) (a' := ?_) #[true, false, false, false, false, false, false, false, false, false, false, false] rfl rfl (any_of HT_.out (by kernel_rfl)) (fun _ _ _ h => h) (Or.inl ⟨by rfl, ?_⟩) ?_ ?_
          rotate_left
          · intro w'
            go_simp
            with_reducible rfl
          rotate_left
          · simp only [Act.put, List.setIfInBounds_toArray, List.set_cons_zero, List.set_cons_succ, i64_w, i32_w]
            rfl
          refine pure_ (i := 1) (N := some 30) (v := ?_) (a' := ?_) #[true, true, false, false, false, false, false, false, false, false, false, false] rfl rfl (any_of HT_.out (by kernel_rfl)) (fun _ _ _ h => h) (Or.inl ⟨by rfl, ?_⟩) ?_ ?_
          rotate_left
          · intro w'
            go_simp
            with_reducible rfl
          rotate_left
          · simp only [Act.put, List.setIfInBounds_toArray, List.set_cons_zero, List.set_cons_succ, i64_w, i32_w]
            rfl
          refine pure_ (i := 2) (N := some 31) (v := ?_) (a' := ?_) #[true, true, true, false, false, false, false, false, false, false, false, false] rfl rfl (any_of HT_.out (by kernel_rfl)) (fun _ _ _ h => h) (Or.inl ⟨by rfl, ?_⟩) ?_ ?_
          rotate_left
          · intro w'
            go_simp
            with_reducible rfl
          rotate_left
          · simp only [Act.put, List.setIfInBounds_toArray, List.set_cons_zero, List.set_cons_succ, i64_w, i32_w]
            rfl
          refine pure_ (i := 4) (N := some 33) (v := ?_) (a' := ?_) #[true, true, true, false, true, false, false, false, false, false, false, false] rfl rfl (any_of HT_.out (by kernel_rfl)) (fun _ _ _ h => h) (Or.inl ⟨by rfl, ?_⟩) ?_ ?_
          rotate_left
          · intro w'
            go_simp
            with_reducible rfl
          rotate_left
          · simp only [Act.put, List.setIfInBounds_toArray, List.set_cons_zero, List.set_cons_succ, i64_w, i32_w]
            rfl
          refine pure_ (i := 5) (N := some 34) (v := ?_) (a' := ?_) #[true, true, true, false, true, true, false, false, false, false, false, false] rfl rfl (any_of HT_.out (by kernel_rfl)) (fun _ _ _ h => h) (Or.inl ⟨by rfl, ?_⟩) ?_ ?_
          rotate_left
          · intro w'
            go_simp
            with_reducible rfl
          rotate_left
          · simp only [Act.put, List.setIfInBounds_toArray, List.set_cons_zero, List.set_cons_succ, i64_w, i32_w]
            rfl
          refine inv_at [3, 6, 7, 8, 9, 10, 11] (fun a0_ b a w' => a = putSel a0_ b [(3, 32, .string s0), (6, 35, .string s0), (7, 36, .int .i64 (s0.size : Int)), (8, 37, .int .i64 (m0 : Int)), (9, 38, .string t0), (10, 39, .pointer (some ⟨w.heap.size, 0, none⟩))] ∧ (b 11 = false → w' = wd) ∧ (b 11 = true → w' = wd.setCell ⟨w.heap.size, 0, none⟩ (.string t0))) HT_.out HW_.out (by kernel_rfl) (by kernel_rfl) ?_ ?_ ?_
          · exact ⟨by simp only [putSel, Bool.false_eq_true, if_false], fun _ => rfl, fun h_ => absurd h_ (by decide)⟩
          · skip
            clear E
            refine steps_cons ?_ ?_
            · rintro b a w' ⟨ha, Q_E, Q_Ef⟩ hb_ hon hoff
              refine ⟨_, rfl, fun K hK => ?_⟩
              have e31 : a.tmps[31]? = some (.pointer (some ⟨w.heap.size, 0, none⟩)) := by rw [ha]; exact (putSel_off rfl).trans rfl
              replace ha := Aside0.mk ha
              have E := Aside0.mk (Q_E (hoff 11 (by kernel_rfl)))
              have hw_ := E.out
              have hc_ := hb0
              rw [← hw_] at hc_
              refine value_ (w1 := w') (v := .string s0) (by rfl) rfl ?_ ?_
              · go_simp
                (try simp only [i64_w])
                try rfl
              refine hK.out _ _ ⟨(by rw [ha.out]; exact putSel_upk 0 hb_ rfl rfl rfl), Q_E, fun h0_ => absurd ((hoff 11 (by kernel_rfl)).symm.trans h0_) (by decide)⟩
            refine steps_cons ?_ ?_
            · rintro b a w' ⟨ha, Q_E, Q_Ef⟩ hb_ hon hoff
              refine ⟨_, rfl, fun K hK => ?_⟩
              have e34 : a.tmps[34]? = some (.pointer (some ⟨w.heap.size, 0, none⟩)) := by rw [ha]; exact (putSel_off rfl).trans rfl
              replace ha := Aside0.mk ha
              have E := Aside0.mk (Q_E (hoff 11 (by kernel_rfl)))
              have hw_ := E.out
              have hc_ := hb0
              rw [← hw_] at hc_
              refine value_ (w1 := w') (v := .string s0) (by rfl) rfl ?_ ?_
              · go_simp
                (try simp only [i64_w])
                try rfl
              refine hK.out _ _ ⟨(by rw [ha.out]; exact putSel_upk 1 hb_ rfl rfl rfl), Q_E, fun h0_ => absurd ((hoff 11 (by kernel_rfl)).symm.trans h0_) (by decide)⟩
            refine steps_cons ?_ ?_
            · rintro b a w' ⟨ha, Q_E, Q_Ef⟩ hb_ hon hoff
              refine ⟨_, rfl, fun K hK => ?_⟩
              have e35 : a.tmps[35]? = some (.string s0) := by rw [ha]; exact putSel_on (e := (6, 35, .string s0)) 1 rfl rfl (hon 6 (by kernel_rfl)) rfl
              replace ha := Aside0.mk ha
              have E := Aside0.mk (Q_E (hoff 11 (by kernel_rfl)))
              refine value_ (w1 := w') (v := .int .i64 (s0.size : Int)) (by rfl) rfl ?_ ?_
              · go_simp
                (try simp only [i64_w])
                try rfl
              refine hK.out _ _ ⟨(by rw [ha.out]; exact putSel_upk 2 hb_ rfl rfl rfl), Q_E, fun h0_ => absurd ((hoff 11 (by kernel_rfl)).symm.trans h0_) (by decide)⟩
            refine steps_cons ?_ ?_
            · rintro b a w' ⟨ha, Q_E, Q_Ef⟩ hb_ hon hoff
              refine ⟨_, rfl, fun K hK => ?_⟩
              have e36 : a.tmps[36]? = some (.int .i64 (s0.size : Int)) := by rw [ha]; exact putSel_on (e := (7, 36, .int .i64 (s0.size : Int))) 2 rfl rfl (hon 7 (by kernel_rfl)) rfl
              replace ha := Aside0.mk ha
              have E := Aside0.mk (Q_E (hoff 11 (by kernel_rfl)))
              refine value_ (w1 := w') (v := .int .i64 (m0 : Int)) (by rfl) rfl ?_ ?_
              · go_simp
                (try simp only [i64_w])
                try rfl
              refine hK.out _ _ ⟨(by rw [ha.out]; exact putSel_upk 3 hb_ rfl rfl rfl), Q_E, fun h0_ => absurd ((hoff 11 (by kernel_rfl)).symm.trans h0_) (by decide)⟩
            refine steps_cons ?_ ?_
            · rintro b a w' ⟨ha, Q_E, Q_Ef⟩ hb_ hon hoff
              refine ⟨_, rfl, fun K hK => ?_⟩
              have e32 : a.tmps[32]? = some (.string s0) := by rw [ha]; exact putSel_on (e := (3, 32, .string s0)) 0 rfl rfl (hon 3 (by kernel_rfl)) rfl
              have e37 : a.tmps[37]? = some (.int .i64 (m0 : Int)) := by rw [ha]; exact putSel_on (e := (8, 37, .int .i64 (m0 : Int))) 3 rfl rfl (hon 8 (by kernel_rfl)) rfl
              replace ha := Aside0.mk ha
              have E := Aside0.mk (Q_E (hoff 11 (by kernel_rfl)))
              refine value_ (w1 := w') (v := .string t0) (by rfl) rfl ?_ ?_
              · go_simp
                (try simp only [i64_w])
                try rfl
              refine hK.out _ _ ⟨(by rw [ha.out]; exact putSel_upk 4 hb_ rfl rfl rfl), Q_E, fun h0_ => absurd ((hoff 11 (by kernel_rfl)).symm.trans h0_) (by decide)⟩
            refine steps_cons ?_ ?_
            · rintro b a w' ⟨ha, Q_E, Q_Ef⟩ hb_ hon hoff
              refine ⟨_, rfl, fun K hK => ?_⟩
              have e5 : a.tmps[5]? = some (.pointer (some ⟨w.heap.size, 0, none⟩)) := by rw [ha]; exact (putSel_off rfl).trans rfl
              have e29 : a.tmps[29]? = some (.int .i64 0) := by rw [ha]; exact (putSel_off rfl).trans rfl
              replace ha := Aside0.mk ha
              have E := Aside0.mk (Q_E (hoff 11 (by kernel_rfl)))
              refine value_ (w1 := w') (v := .pointer (some ⟨w.heap.size, 0, none⟩)) (by rfl) rfl ?_ ?_
              · go_simp
                (try simp only [i64_w])
                try rfl
              refine hK.out _ _ ⟨(by rw [ha.out]; exact putSel_upk 5 hb_ rfl rfl rfl), Q_E, fun h0_ => absurd ((hoff 11 (by kernel_rfl)).symm.trans h0_) (by decide)⟩
            refine steps_cons ?_ ?_
            · rintro b a w' ⟨ha, Q_E, Q_Ef⟩ hb_ hon hoff
              refine ⟨_, rfl, fun K hK => ?_⟩
              have e39 : a.tmps[39]? = some (.pointer (some ⟨w.heap.size, 0, none⟩)) := by rw [ha]; exact putSel_on (e := (10, 39, .pointer (some ⟨w.heap.size, 0, none⟩))) 5 rfl rfl (hon 10 (by kernel_rfl)) rfl
              have e38 : a.tmps[38]? = some (.string t0) := by rw [ha]; exact putSel_on (e := (9, 38, .string t0)) 4 rfl rfl (hon 9 (by kernel_rfl)) rfl
              replace ha := Aside0.mk ha
              have E := Aside0.mk (Q_E hb_)
              have hw_ := E.out
              have hc_ := hb0
              rw [← hw_] at hc_
              have hf_ := hfz
              rw [← hw_] at hf_
              refine skip_ (w1 := w'.setCell ⟨w.heap.size, 0, none⟩ (.string t0)) (by rfl) rfl ?_ ?_
              · go_simp
                try rfl
              refine hK.out _ _ ⟨(by rw [ha.out]; exact putSel_none (v := undef) rfl), fun h0_ => absurd ((up_self b 11).symm.trans h0_) (by decide), fun _ => (by rw [hw_])⟩
            exact steps_nil
          · rintro b a w' hall ⟨ha, Q_E, Q_Ef⟩
            clear E
            have hb3_ := hall 3 (by kernel_rfl)
            have hb6_ := hall 6 (by kernel_rfl)
            have hb7_ := hall 7 (by kernel_rfl)
            have hb8_ := hall 8 (by kernel_rfl)
            have hb9_ := hall 9 (by kernel_rfl)
            have hb10_ := hall 10 (by kernel_rfl)
            have hb11_ := hall 11 (by kernel_rfl)
            subst ha
            simp only [putSel, hb3_, hb6_, hb7_, hb8_, hb9_, hb10_, hb11_, if_true, Act.put, List.setIfInBounds_toArray, List.set_cons_zero, List.set_cons_succ]
            clear Q_E
            have Ef := Aside0.mk (Q_Ef hb11_)
            clear Q_Ef
            clear hall hb3_ hb6_ hb7_ hb8_ hb9_ hb10_ hb11_
            have hw_ := Ef.out
            subst hw_
            have S2 := Aside0.mk (set0S SD.out 0 (.string t0))
            clear E Ef SD hb0 hb1 hb2 hfz hmn hex hle hge
            go_wp2
            go_roundg (3 - (0 + 1))
            case rel => exact ⟨1, 1, by first | rfl | (simp; done), ⟨rfl⟩, ⟨by omega, rfl⟩, S2⟩
            case measure => have := hi.out.2; omega
        · obtain rfl : ii = 1 := hii.out
          have SD := Aside0.mk (S.out.keep (below_drew1 (Below.refl wb.heap.size wb)))
          obtain ⟨hb0, hb1, hb2⟩ := box3 (SD.out.at_blk 0 rfl)
          have hfz : wb.drew.frozen? ⟨w.heap.size, 1, none⟩ = false := blk_frozen (SD.out.at_blk 0 rfl) 1
          have hmn := HT.out.2.1
          have hex := HT.out.2.2.2.2.1
          have hle := eq_true (show (m1 : Int) ≤ (s1.size : Int) by have := hm.out.2.1; omega)
          have hge := eq_true (show (0 : Int) ≤ (m1 : Int) by omega)
          go_wp2
          have E := trivial
          refine start_ (n := 12) (S := fun w' => True) (ds := []) #[false, false, false, false, false, false, false, false, false, false, false, false] (by kernel_rfl) rfl rfl trivial (fun hHeld => ?_)
          refine with_tabW mmw.tab6 mmw.bits6 (fun HT_ HW_ => ?_)
          have E := trivial
          generalize wb.drew = wd at hb0 hb1 hb2 hfz SD hHeld ⊢
          refine pure_ (i := 0) (N := some 29) (v := ?_) (a' := ?_) #[true, false, false, false, false, false, false, false, false, false, false, false] rfl rfl (any_of HT_.out (by kernel_rfl)) (fun _ _ _ h => h) (Or.inl ⟨by rfl, ?_⟩) ?_ ?_
          rotate_left
          · intro w'
            go_simp
            with_reducible rfl
          rotate_left
          · simp only [Act.put, List.setIfInBounds_toArray, List.set_cons_zero, List.set_cons_succ, i64_w, i32_w]
            rfl
          refine pure_ (i := 1) (N := some 30) (v := ?_) (a' := ?_) #[true, true, false, false, false, false, false, false, false, false, false, false] rfl rfl (any_of HT_.out (by kernel_rfl)) (fun _ _ _ h => h) (Or.inl ⟨by rfl, ?_⟩) ?_ ?_
          rotate_left
          · intro w'
            go_simp
            with_reducible rfl
          rotate_left
          · simp only [Act.put, List.setIfInBounds_toArray, List.set_cons_zero, List.set_cons_succ, i64_w, i32_w]
            rfl
          refine pure_ (i := 2) (N := some 31) (v := ?_) (a' := ?_) #[true, true, true, false, false, false, false, false, false, false, false, false] rfl rfl (any_of HT_.out (by kernel_rfl)) (fun _ _ _ h => h) (Or.inl ⟨by rfl, ?_⟩) ?_ ?_
          rotate_left
          · intro w'
            go_simp
            with_reducible rfl
          rotate_left
          · simp only [Act.put, List.setIfInBounds_toArray, List.set_cons_zero, List.set_cons_succ, i64_w, i32_w]
            rfl
          refine pure_ (i := 4) (N := some 33) (v := ?_) (a' := ?_) #[true, true, true, false, true, false, false, false, false, false, false, false] rfl rfl (any_of HT_.out (by kernel_rfl)) (fun _ _ _ h => h) (Or.inl ⟨by rfl, ?_⟩) ?_ ?_
          rotate_left
          · intro w'
            go_simp
            with_reducible rfl
          rotate_left
          · simp only [Act.put, List.setIfInBounds_toArray, List.set_cons_zero, List.set_cons_succ, i64_w, i32_w]
            rfl
          refine pure_ (i := 5) (N := some 34) (v := ?_) (a' := ?_) #[true, true, true, false, true, true, false, false, false, false, false, false] rfl rfl (any_of HT_.out (by kernel_rfl)) (fun _ _ _ h => h) (Or.inl ⟨by rfl, ?_⟩) ?_ ?_
          rotate_left
          · intro w'
            go_simp
            with_reducible rfl
          rotate_left
          · simp only [Act.put, List.setIfInBounds_toArray, List.set_cons_zero, List.set_cons_succ, i64_w, i32_w]
            rfl
          refine inv_at [3, 6, 7, 8, 9, 10, 11] (fun a0_ b a w' => a = putSel a0_ b [(3, 32, .string s1), (6, 35, .string s1), (7, 36, .int .i64 (s1.size : Int)), (8, 37, .int .i64 (m1 : Int)), (9, 38, .string t1), (10, 39, .pointer (some ⟨w.heap.size, 1, none⟩))] ∧ (b 11 = false → w' = wd) ∧ (b 11 = true → w' = wd.setCell ⟨w.heap.size, 1, none⟩ (.string t1))) HT_.out HW_.out (by kernel_rfl) (by kernel_rfl) ?_ ?_ ?_
          · exact ⟨by simp only [putSel, Bool.false_eq_true, if_false], fun _ => rfl, fun h_ => absurd h_ (by decide)⟩
          · skip
            clear E
            refine steps_cons ?_ ?_
            · rintro b a w' ⟨ha, Q_E, Q_Ef⟩ hb_ hon hoff
              refine ⟨_, rfl, fun K hK => ?_⟩
              have e31 : a.tmps[31]? = some (.pointer (some ⟨w.heap.size, 1, none⟩)) := by rw [ha]; exact (putSel_off rfl).trans rfl
              replace ha := Aside0.mk ha
              have E := Aside0.mk (Q_E (hoff 11 (by kernel_rfl)))
              have hw_ := E.out
              have hc_ := hb1
              rw [← hw_] at hc_
              refine value_ (w1 := w') (v := .string s1) (by rfl) rfl ?_ ?_
              · go_simp
                (try simp only [i64_w])
                try rfl
              refine hK.out _ _ ⟨(by rw [ha.out]; exact putSel_upk 0 hb_ rfl rfl rfl), Q_E, fun h0_ => absurd ((hoff 11 (by kernel_rfl)).symm.trans h0_) (by decide)⟩
            refine steps_cons ?_ ?_
            · rintro b a w' ⟨ha, Q_E, Q_Ef⟩ hb_ hon hoff
              refine ⟨_, rfl, fun K hK => ?_⟩
              have e34 : a.tmps[34]? = some (.pointer (some ⟨w.heap.size, 1, none⟩)) := by rw [ha]; exact (putSel_off rfl).trans rfl
              replace ha := Aside0.mk ha
              have E := Aside0.mk (Q_E (hoff 11 (by kernel_rfl)))
              have hw_ := E.out
              have hc_ := hb1
              rw [← hw_] at hc_
              refine value_ (w1 := w') (v := .string s1) (by rfl) rfl ?_ ?_
              · go_simp
                (try simp only [i64_w])
                try rfl
              refine hK.out _ _ ⟨(by rw [ha.out]; exact putSel_upk 1 hb_ rfl rfl rfl), Q_E, fun h0_ => absurd ((hoff 11 (by kernel_rfl)).symm.trans h0_) (by decide)⟩
            refine steps_cons ?_ ?_
            · rintro b a w' ⟨ha, Q_E, Q_Ef⟩ hb_ hon hoff
              refine ⟨_, rfl, fun K hK => ?_⟩
              have e35 : a.tmps[35]? = some (.string s1) := by rw [ha]; exact putSel_on (e := (6, 35, .string s1)) 1 rfl rfl (hon 6 (by kernel_rfl)) rfl
              replace ha := Aside0.mk ha
              have E := Aside0.mk (Q_E (hoff 11 (by kernel_rfl)))
              refine value_ (w1 := w') (v := .int .i64 (s1.size : Int)) (by rfl) rfl ?_ ?_
              · go_simp
                (try simp only [i64_w])
                try rfl
              refine hK.out _ _ ⟨(by rw [ha.out]; exact putSel_upk 2 hb_ rfl rfl rfl), Q_E, fun h0_ => absurd ((hoff 11 (by kernel_rfl)).symm.trans h0_) (by decide)⟩
            refine steps_cons ?_ ?_
            · rintro b a w' ⟨ha, Q_E, Q_Ef⟩ hb_ hon hoff
              refine ⟨_, rfl, fun K hK => ?_⟩
              have e36 : a.tmps[36]? = some (.int .i64 (s1.size : Int)) := by rw [ha]; exact putSel_on (e := (7, 36, .int .i64 (s1.size : Int))) 2 rfl rfl (hon 7 (by kernel_rfl)) rfl
              replace ha := Aside0.mk ha
              have E := Aside0.mk (Q_E (hoff 11 (by kernel_rfl)))
              refine value_ (w1 := w') (v := .int .i64 (m1 : Int)) (by rfl) rfl ?_ ?_
              · go_simp
                (try simp only [i64_w])
                try rfl
              refine hK.out _ _ ⟨(by rw [ha.out]; exact putSel_upk 3 hb_ rfl rfl rfl), Q_E, fun h0_ => absurd ((hoff 11 (by kernel_rfl)).symm.trans h0_) (by decide)⟩
            refine steps_cons ?_ ?_
            · rintro b a w' ⟨ha, Q_E, Q_Ef⟩ hb_ hon hoff
              refine ⟨_, rfl, fun K hK => ?_⟩
              have e32 : a.tmps[32]? = some (.string s1) := by rw [ha]; exact putSel_on (e := (3, 32, .string s1)) 0 rfl rfl (hon 3 (by kernel_rfl)) rfl
              have e37 : a.tmps[37]? = some (.int .i64 (m1 : Int)) := by rw [ha]; exact putSel_on (e := (8, 37, .int .i64 (m1 : Int))) 3 rfl rfl (hon 8 (by kernel_rfl)) rfl
              replace ha := Aside0.mk ha
              have E := Aside0.mk (Q_E (hoff 11 (by kernel_rfl)))
              refine value_ (w1 := w') (v := .string t1) (by rfl) rfl ?_ ?_
              · go_simp
                (try simp only [i64_w])
                try rfl
              refine hK.out _ _ ⟨(by rw [ha.out]; exact putSel_upk 4 hb_ rfl rfl rfl), Q_E, fun h0_ => absurd ((hoff 11 (by kernel_rfl)).symm.trans h0_) (by decide)⟩
            refine steps_cons ?_ ?_
            · rintro b a w' ⟨ha, Q_E, Q_Ef⟩ hb_ hon hoff
              refine ⟨_, rfl, fun K hK => ?_⟩
              have e5 : a.tmps[5]? = some (.pointer (some ⟨w.heap.size, 0, none⟩)) := by rw [ha]; exact (putSel_off rfl).trans rfl
              have e29 : a.tmps[29]? = some (.int .i64 1) := by rw [ha]; exact (putSel_off rfl).trans rfl
              replace ha := Aside0.mk ha
              have E := Aside0.mk (Q_E (hoff 11 (by kernel_rfl)))
              refine value_ (w1 := w') (v := .pointer (some ⟨w.heap.size, 1, none⟩)) (by rfl) rfl ?_ ?_
              · go_simp
                (try simp only [i64_w])
                try rfl
              refine hK.out _ _ ⟨(by rw [ha.out]; exact putSel_upk 5 hb_ rfl rfl rfl), Q_E, fun h0_ => absurd ((hoff 11 (by kernel_rfl)).symm.trans h0_) (by decide)⟩
            refine steps_cons ?_ ?_
            · rintro b a w' ⟨ha, Q_E, Q_Ef⟩ hb_ hon hoff
              refine ⟨_, rfl, fun K hK => ?_⟩
              have e39 : a.tmps[39]? = some (.pointer (some ⟨w.heap.size, 1, none⟩)) := by rw [ha]; exact putSel_on (e := (10, 39, .pointer (some ⟨w.heap.size, 1, none⟩))) 5 rfl rfl (hon 10 (by kernel_rfl)) rfl
              have e38 : a.tmps[38]? = some (.string t1) := by rw [ha]; exact putSel_on (e := (9, 38, .string t1)) 4 rfl rfl (hon 9 (by kernel_rfl)) rfl
              replace ha := Aside0.mk ha
              have E := Aside0.mk (Q_E hb_)
              have hw_ := E.out
              have hc_ := hb1
              rw [← hw_] at hc_
              have hf_ := hfz
              rw [← hw_] at hf_
              refine skip_ (w1 := w'.setCell ⟨w.heap.size, 1, none⟩ (.string t1)) (by rfl) rfl ?_ ?_
              · go_simp
                try rfl
              refine hK.out _ _ ⟨(by rw [ha.out]; exact putSel_none (v := undef) rfl), fun h0_ => absurd ((up_self b 11).symm.trans h0_) (by decide), fun _ => (by rw [hw_])⟩
            exact steps_nil
          · rintro b a w' hall ⟨ha, Q_E, Q_Ef⟩
            clear E
            have hb3_ := hall 3 (by kernel_rfl)
            have hb6_ := hall 6 (by kernel_rfl)
            have hb7_ := hall 7 (by kernel_rfl)
            have hb8_ := hall 8 (by kernel_rfl)
            have hb9_ := hall 9 (by kernel_rfl)
            have hb10_ := hall 10 (by kernel_rfl)
            have hb11_ := hall 11 (by kernel_rfl)
            subst ha
            simp only [putSel, hb3_, hb6_, hb7_, hb8_, hb9_, hb10_, hb11_, if_true, Act.put, List.setIfInBounds_toArray, List.set_cons_zero, List.set_cons_succ]
            clear Q_E
            have Ef := Aside0.mk (Q_Ef hb11_)
            clear Q_Ef
            clear hall hb3_ hb6_ hb7_ hb8_ hb9_ hb10_ hb11_
            have hw_ := Ef.out
            subst hw_
            have S2 := Aside0.mk (set0S SD.out 1 (.string t1))
            clear E Ef SD hb0 hb1 hb2 hfz hmn hex hle hge
            go_wp2
            go_roundg (3 - (1 + 1))
            case rel => exact ⟨2, 2, by first | rfl | (simp; done), ⟨rfl⟩, ⟨by omega, rfl⟩, S2⟩
            case measure => have := hi.out.2; omega
        · obtain rfl : ii = 2 := hii.out
          have SD := Aside0.mk (S.out.keep (below_drew1 (Below.refl wb.heap.size wb)))
          obtain ⟨hb0, hb1, hb2⟩ := box3 (SD.out.at_blk 0 rfl)
          have hfz : wb.drew.frozen? ⟨w.heap.size, 2, none⟩ = false := blk_frozen (SD.out.at_blk 0 rfl) 2
          have hmn := HT.out.2.2.1
          have hex := HT.out.2.2.2.2.2
          have hle := eq_true (show (m2 : Int) ≤ (s2.size : Int) by have := hm.out.2.2; omega)
          have hge := eq_true (show (0 : Int) ≤ (m2 : Int) by omega)
          go_wp2
          have E := trivial
          refine start_ (n := 12) (S := fun w' => True) (ds := []) #[false, false, false, false, false, false, false, false, false, false, false, false] (by kernel_rfl) rfl rfl trivial (fun hHeld => ?_)
          refine with_tabW mmw.tab6 mmw.bits6 (fun HT_ HW_ => ?_)
          have E := trivial
          generalize wb.drew = wd at hb0 hb1 hb2 hfz SD hHeld ⊢
          refine pure_ (i := 0) (N := some 29) (v := ?_) (a' := ?_) #[true, false, false, false, false, false, false, false, false, false, false, false] rfl rfl (any_of HT_.out (by kernel_rfl)) (fun _ _ _ h => h) (Or.inl ⟨by rfl, ?_⟩) ?_ ?_
          rotate_left
          · intro w'
            go_simp
            with_reducible rfl
          rotate_left
          · simp only [Act.put, List.setIfInBounds_toArray, List.set_cons_zero, List.set_cons_succ, i64_w, i32_w]
            rfl
          refine pure_ (i := 1) (N := some 30) (v := ?_) (a' := ?_) #[true, true, false, false, false, false, false, false, false, false, false, false] rfl rfl (any_of HT_.out (by kernel_rfl)) (fun _ _ _ h => h) (Or.inl ⟨by rfl, ?_⟩) ?_ ?_
          rotate_left
          · intro w'
            go_simp
            with_reducible rfl
          rotate_left
          · simp only [Act.put, List.setIfInBounds_toArray, List.set_cons_zero, List.set_cons_succ, i64_w, i32_w]
            rfl
          refine pure_ (i := 2) (N := some 31) (v := ?_) (a' := ?_) #[true, true, true, false, false, false, false, false, false, false, false, false] rfl rfl (any_of HT_.out (by kernel_rfl)) (fun _ _ _ h => h) (Or.inl ⟨by rfl, ?_⟩) ?_ ?_
          rotate_left
          · intro w'
            go_simp
            with_reducible rfl
          rotate_left
          · simp only [Act.put, List.setIfInBounds_toArray, List.set_cons_zero, List.set_cons_succ, i64_w, i32_w]
            rfl
          refine pure_ (i := 4) (N := some 33) (v := ?_) (a' := ?_) #[true, true, true, false, true, false, false, false, false, false, false, false] rfl rfl (any_of HT_.out (by kernel_rfl)) (fun _ _ _ h => h) (Or.inl ⟨by rfl, ?_⟩) ?_ ?_
          rotate_left
          · intro w'
            go_simp
            with_reducible rfl
          rotate_left
          · simp only [Act.put, List.setIfInBounds_toArray, List.set_cons_zero, List.set_cons_succ, i64_w, i32_w]
            rfl
          refine pure_ (i := 5) (N := some 34) (v := ?_) (a' := ?_) #[true, true, true, false, true, true, false, false, false, false, false, false] rfl rfl (any_of HT_.out (by kernel_rfl)) (fun _ _ _ h => h) (Or.inl ⟨by rfl, ?_⟩) ?_ ?_
          rotate_left
          · intro w'
            go_simp
            with_reducible rfl
          rotate_left
          · simp only [Act.put, List.setIfInBounds_toArray, List.set_cons_zero, List.set_cons_succ, i64_w, i32_w]
            rfl
          refine inv_at [3, 6, 7, 8, 9, 10, 11] (fun a0_ b a w' => a = putSel a0_ b [(3, 32, .string s2), (6, 35, .string s2), (7, 36, .int .i64 (s2.size : Int)), (8, 37, .int .i64 (m2 : Int)), (9, 38, .string t2), (10, 39, .pointer (some ⟨w.heap.size, 2, none⟩))] ∧ (b 11 = false → w' = wd) ∧ (b 11 = true → w' = wd.setCell ⟨w.heap.size, 2, none⟩ (.string t2))) HT_.out HW_.out (by kernel_rfl) (by kernel_rfl) ?_ ?_ ?_
          · exact ⟨by simp only [putSel, Bool.false_eq_true, if_false], fun _ => rfl, fun h_ => absurd h_ (by decide)⟩
          · skip
            clear E
            refine steps_cons ?_ ?_
            · rintro b a w' ⟨ha, Q_E, Q_Ef⟩ hb_ hon hoff
              refine ⟨_, rfl, fun K hK => ?_⟩
              have e31 : a.tmps[31]? = some (.pointer (some ⟨w.heap.size, 2, none⟩)) := by rw [ha]; exact (putSel_off rfl).trans rfl
              replace ha := Aside0.mk ha
              have E := Aside0.mk (Q_E (hoff 11 (by kernel_rfl)))
              have hw_ := E.out
              have hc_ := hb2
              rw [← hw_] at hc_
              refine value_ (w1 := w') (v := .string s2) (by rfl) rfl ?_ ?_
              · go_simp
                (try simp only [i64_w])
                try rfl
              refine hK.out _ _ ⟨(by rw [ha.out]; exact putSel_upk 0 hb_ rfl rfl rfl), Q_E, fun h0_ => absurd ((hoff 11 (by kernel_rfl)).symm.trans h0_) (by decide)⟩
            refine steps_cons ?_ ?_
            · rintro b a w' ⟨ha, Q_E, Q_Ef⟩ hb_ hon hoff
              refine ⟨_, rfl, fun K hK => ?_⟩
              have e34 : a.tmps[34]? = some (.pointer (some ⟨w.heap.size, 2, none⟩)) := by rw [ha]; exact (putSel_off rfl).trans rfl
              replace ha := Aside0.mk ha
              have E := Aside0.mk (Q_E (hoff 11 (by kernel_rfl)))
              have hw_ := E.out
              have hc_ := hb2
              rw [← hw_] at hc_
              refine value_ (w1 := w') (v := .string s2) (by rfl) rfl ?_ ?_
              · go_simp
                (try simp only [i64_w])
                try rfl
              refine hK.out _ _ ⟨(by rw [ha.out]; exact putSel_upk 1 hb_ rfl rfl rfl), Q_E, fun h0_ => absurd ((hoff 11 (by kernel_rfl)).symm.trans h0_) (by decide)⟩
            refine steps_cons ?_ ?_
            · rintro b a w' ⟨ha, Q_E, Q_Ef⟩ hb_ hon hoff
              refine ⟨_, rfl, fun K hK => ?_⟩
              have e35 : a.tmps[35]? = some (.string s2) := by rw [ha]; exact putSel_on (e := (6, 35, .string s2)) 1 rfl rfl (hon 6 (by kernel_rfl)) rfl
              replace ha := Aside0.mk ha
              have E := Aside0.mk (Q_E (hoff 11 (by kernel_rfl)))
              refine value_ (w1 := w') (v := .int .i64 (s2.size : Int)) (by rfl) rfl ?_ ?_
              · go_simp
                (try simp only [i64_w])
                try rfl
              refine hK.out _ _ ⟨(by rw [ha.out]; exact putSel_upk 2 hb_ rfl rfl rfl), Q_E, fun h0_ => absurd ((hoff 11 (by kernel_rfl)).symm.trans h0_) (by decide)⟩
            refine steps_cons ?_ ?_
            · rintro b a w' ⟨ha, Q_E, Q_Ef⟩ hb_ hon hoff
              refine ⟨_, rfl, fun K hK => ?_⟩
              have e36 : a.tmps[36]? = some (.int .i64 (s2.size : Int)) := by rw [ha]; exact putSel_on (e := (7, 36, .int .i64 (s2.size : Int))) 2 rfl rfl (hon 7 (by kernel_rfl)) rfl
              replace ha := Aside0.mk ha
              have E := Aside0.mk (Q_E (hoff 11 (by kernel_rfl)))
              refine value_ (w1 := w') (v := .int .i64 (m2 : Int)) (by rfl) rfl ?_ ?_
              · go_simp
                (try simp only [i64_w])
                try rfl
              refine hK.out _ _ ⟨(by rw [ha.out]; exact putSel_upk 3 hb_ rfl rfl rfl), Q_E, fun h0_ => absurd ((hoff 11 (by kernel_rfl)).symm.trans h0_) (by decide)⟩
            refine steps_cons ?_ ?_
            · rintro b a w' ⟨ha, Q_E, Q_Ef⟩ hb_ hon hoff
              refine ⟨_, rfl, fun K hK => ?_⟩
              have e32 : a.tmps[32]? = some (.string s2) := by rw [ha]; exact putSel_on (e := (3, 32, .string s2)) 0 rfl rfl (hon 3 (by kernel_rfl)) rfl
              have e37 : a.tmps[37]? = some (.int .i64 (m2 : Int)) := by rw [ha]; exact putSel_on (e := (8, 37, .int .i64 (m2 : Int))) 3 rfl rfl (hon 8 (by kernel_rfl)) rfl
              replace ha := Aside0.mk ha
              have E := Aside0.mk (Q_E (hoff 11 (by kernel_rfl)))
              refine value_ (w1 := w') (v := .string t2) (by rfl) rfl ?_ ?_
              · go_simp
                (try simp only [i64_w])
                try rfl
              refine hK.out _ _ ⟨(by rw [ha.out]; exact putSel_upk 4 hb_ rfl rfl rfl), Q_E, fun h0_ => absurd ((hoff 11 (by kernel_rfl)).symm.trans h0_) (by decide)⟩
            refine steps_cons ?_ ?_
            · rintro b a w' ⟨ha, Q_E, Q_Ef⟩ hb_ hon hoff
              refine ⟨_, rfl, fun K hK => ?_⟩
              have e5 : a.tmps[5]? = some (.pointer (some ⟨w.heap.size, 0, none⟩)) := by rw [ha]; exact (putSel_off rfl).trans rfl
              have e29 : a.tmps[29]? = some (.int .i64 2) := by rw [ha]; exact (putSel_off rfl).trans rfl
              replace ha := Aside0.mk ha
              have E := Aside0.mk (Q_E (hoff 11 (by kernel_rfl)))
              refine value_ (w1 := w') (v := .pointer (some ⟨w.heap.size, 2, none⟩)) (by rfl) rfl ?_ ?_
              · go_simp
                (try simp only [i64_w])
                try rfl
              refine hK.out _ _ ⟨(by rw [ha.out]; exact putSel_upk 5 hb_ rfl rfl rfl), Q_E, fun h0_ => absurd ((hoff 11 (by kernel_rfl)).symm.trans h0_) (by decide)⟩
            refine steps_cons ?_ ?_
            · rintro b a w' ⟨ha, Q_E, Q_Ef⟩ hb_ hon hoff
              refine ⟨_, rfl, fun K hK => ?_⟩
              have e39 : a.tmps[39]? = some (.pointer (some ⟨w.heap.size, 2, none⟩)) := by rw [ha]; exact putSel_on (e := (10, 39, .pointer (some ⟨w.heap.size, 2, none⟩))) 5 rfl rfl (hon 10 (by kernel_rfl)) rfl
              have e38 : a.tmps[38]? = some (.string t2) := by rw [ha]; exact putSel_on (e := (9, 38, .string t2)) 4 rfl rfl (hon 9 (by kernel_rfl)) rfl
              replace ha := Aside0.mk ha
              have E := Aside0.mk (Q_E hb_)
              have hw_ := E.out
              have hc_ := hb2
              rw [← hw_] at hc_
              have hf_ := hfz
              rw [← hw_] at hf_
              refine skip_ (w1 := w'.setCell ⟨w.heap.size, 2, none⟩ (.string t2)) (by rfl) rfl ?_ ?_
              · go_simp
                try rfl
              refine hK.out _ _ ⟨(by rw [ha.out]; exact putSel_none (v := undef) rfl), fun h0_ => absurd ((up_self b 11).symm.trans h0_) (by decide), fun _ => (by rw [hw_])⟩
            exact steps_nil
          · rintro b a w' hall ⟨ha, Q_E, Q_Ef⟩
            clear E
            have hb3_ := hall 3 (by kernel_rfl)
            have hb6_ := hall 6 (by kernel_rfl)
            have hb7_ := hall 7 (by kernel_rfl)
            have hb8_ := hall 8 (by kernel_rfl)
            have hb9_ := hall 9 (by kernel_rfl)
            have hb10_ := hall 10 (by kernel_rfl)
            have hb11_ := hall 11 (by kernel_rfl)
            subst ha
            simp only [putSel, hb3_, hb6_, hb7_, hb8_, hb9_, hb10_, hb11_, if_true, Act.put, List.setIfInBounds_toArray, List.set_cons_zero, List.set_cons_succ]
            clear Q_E
            have Ef := Aside0.mk (Q_Ef hb11_)
            clear Q_Ef
            clear hall hb3_ hb6_ hb7_ hb8_ hb9_ hb10_ hb11_
            have hw_ := Ef.out
            subst hw_
            have S2 := Aside0.mk (set0S SD.out 2 (.string t2))
            clear E Ef SD hb0 hb1 hb2 hfz hmn hex hle hge
            go_wp2
            go_roundg (3 - (2 + 1))
            case rel => exact ⟨3, 3, by first | rfl | (simp; done), ⟨rfl⟩, ⟨by omega, rfl⟩, S2⟩
            case measure => have := hi.out.2; omega
end Go.Proofs.YtnnnbeimehfiiaaDoor.Q
