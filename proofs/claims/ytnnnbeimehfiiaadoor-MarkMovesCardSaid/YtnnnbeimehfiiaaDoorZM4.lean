/- The texts of this claim that lie below its row, in their order: KMov. -/
import Derived.Test.YtnnnbeimehfiiaaDoorZM3
-- Written by a program of this session (wip/gen_mov.py) for this claim; Lean checks it.
/-! MarkMoves, walked: it answers true. -/
set_option linter.unusedVariables false
set_option linter.unusedSimpArgs false
namespace Go.Proofs.YtnnnbeimehfiiaaDoor.Q
open Go Go.RowKit Go.Proofs.YtnnnbeimehfiiaaDoorW.PrintWords Go.Proofs.YtnnnbeimehfiiaaDoorW.PrintLast Go.Proofs.YtnnnbeimehfiiaaDoorW.PrintMore Go.Proofs.YtnnnbeimehfiiaaDoorW.SL
attribute [local go_sem] max2_int min2_int max_two min_two max_three min_three max_four min_four
def mmov.T12 : Bool × List (List Nat × List Nat) := (true, [([], []), ([], []), ([], []), ([2], [2]), ([1, 3], [1, 3]), ([4], [4]), ([5], [5]), ([0, 6], [0, 6]), ([], []), ([8], [8]), ([9], [9]), ([10], [10]), ([7, 11, 7], [7, 11]), ([12], [12]), ([], []), ([14, 13, 12, 0, 1, 2, 3, 4, 5, 6, 7, 8, 9, 10, 11, 12, 13, 14], [13, 14])])
def mmov.B12 : List Nat := [0, 0, 0, 4, 14, 30, 62, 127, 0, 256, 768, 1792, 4095, 8191, 0, 32767]
theorem mmov.tab12 : rtab .any (opsOf Tryd.f6 12) = mmov.T12 := by kernel_rfl
theorem mmov.bits12 : waitsOk mmov.T12.2 mmov.B12 = true := by kernel_rfl
def mmov.T13 : Bool × List (List Nat × List Nat) := (true, [([], []), ([], []), ([], []), ([2], [2]), ([1, 3], [1, 3]), ([0, 4], [0, 4]), ([], []), ([6], [6]), ([5, 7, 5], [5, 7]), ([], []), ([9], [9]), ([8, 10, 8], [8, 10]), ([11, 11, 0, 1, 2, 3, 4, 5, 6, 7, 8, 9, 10, 11], [11])])
def mmov.B13 : List Nat := [0, 0, 0, 4, 14, 31, 0, 64, 255, 0, 512, 2047, 4095]
theorem mmov.tab13 : rtab .any (opsOf Tryd.f6 13) = mmov.T13 := by kernel_rfl
theorem mmov.bits13 : waitsOk mmov.T13.2 mmov.B13 = true := by kernel_rfl
def mmov.T15 : Bool × List (List Nat × List Nat) := (true, [([], []), ([0], [0]), ([1], [1]), ([2], [2]), ([3, 2, 2], [2, 3]), ([2], [2]), ([5, 4, 2], [2, 5]), ([4, 6, 6, 2], [2, 4, 6]), ([2, 7], [2, 7]), ([8, 7], [8]), ([9], [9]), ([10, 9], [9, 10]), ([9, 11], [9, 11]), ([12, 9], [12]), ([13], [13]), ([14, 13], [13, 14]), ([15, 13], [13, 15]), ([13, 16], [13, 16]), ([17, 13], [17]), ([18], [18]), ([19, 18], [18, 19]), ([20, 18], [18, 20]), ([21, 18], [18, 21]), ([22, 18], [18, 22]), ([18], [18]), ([24, 18], [18, 24]), ([23, 25, 18], [18, 23, 25]), ([18, 26], [18, 26]), ([27, 18, 0, 1, 2, 3, 4, 5, 6, 7, 8, 9, 10, 11, 12, 13, 14, 15, 16, 17, 18, 19, 20, 21, 22, 23, 24, 25, 26, 27], [27])])
def mmov.B15 : List Nat := [0, 1, 3, 7, 15, 7, 63, 127, 255, 511, 1023, 2047, 4095, 8191, 16383, 32767, 65535, 131071, 262143, 524287, 1048575, 2097151, 4194303, 8388607, 524287, 17301503, 67108863, 134217727, 268435455]
theorem mmov.tab15 : rtab .any (opsOf Tryd.f6 15) = mmov.T15 := by kernel_rfl
theorem mmov.bits15 : waitsOk mmov.T15.2 mmov.B15 = true := by kernel_rfl
theorem up_of {b : Nat → Bool} {i j : Nat} (h : up b i j = true) (hij : j ≠ i) : b j = true := by simpa [up, hij] using h
theorem up_off {b : Nat → Bool} {i j : Nat} (h : up b i j = false) (hij : j ≠ i) : b j = false := by simpa [up, hij] using h
theorem onLast_mem (f : Pt → Pt) (l : List Pt) (p : Pt) (h : p ∈ onLast f l) : p ∈ l ∨ ∃ q ∈ l, p = f q := by
  rcases snoc_cases l with rfl | ⟨fr, q, rfl⟩
  · simp [onLast] at h
  · rw [onLast_snoc] at h
    rcases List.mem_append.1 h with h | h
    · exact .inl (List.mem_append_left _ h)
    · rw [List.mem_singleton] at h; exact .inr ⟨q, by simp, h⟩
theorem step_texts {n : Nat} {s t : List Pt × Nat} {x : List Int} {B : Nat} (h : rdStep n s x = some t) (hs : ∀ p ∈ s.1, p.text.length ≤ B) : ∀ p ∈ t.1, p.text.length ≤ B + x.length := by
  intro p hp
  unfold rdStep at h
  split at h
  · split at h
    · split at h
      · split at h
        · injection h with h; subst h
          rcases List.mem_append.1 hp with hp | hp
          · have := hs p hp; omega
          · rw [List.mem_singleton] at hp; subst hp; simp
        · injection h with h; subst h
          rcases onLast_mem _ _ _ hp with hp | ⟨q, hq, rfl⟩
          · have := hs p hp; omega
          · have := hs q hq; simp only [addText, List.length_append]; omega
      · injection h with h; subst h
        simp at hp; subst hp; simp
    · injection h with h; subst h
      rcases onLast_mem _ _ _ hp with hp | ⟨q, hq, rfl⟩
      · have := hs p hp; omega
      · have := hs q hq
        have e : (addSide q (s.2 - 1) x).text = q.text := by rcases s.2 - 1 with _ | _ | k <;> rfl
        rw [e]; omega
  · split at h
    · injection h with h; subst h
      rcases List.mem_append.1 hp with hp | hp
      · have := hs p hp; omega
      · rw [List.mem_singleton] at hp; subst hp; simp
    · split at h
      · injection h with h; subst h; have := hs p hp; omega
      · split at h
        · injection h with h; subst h; have := hs p hp; omega
        · cases h
theorem all_texts {n : Nat} : ∀ {l : List (List Int)} {s t : List Pt × Nat} {B : Nat}, rdAll n l s = some t → (∀ p ∈ s.1, p.text.length ≤ B) → ∀ p ∈ t.1, p.text.length ≤ B + l.flatten.length
  | [], s, t, B, h, hs => by simp only [rdAll, Option.some.injEq] at h; subst h; simpa using hs
  | x :: r, s, t, B, h, hs => by
    simp only [rdAll] at h
    obtain ⟨u, hu, h⟩ := Option.bind_eq_some_iff.1 h
    have h1 := step_texts hu hs
    intro p hp
    have := all_texts h h1 p hp
    simp only [List.flatten_cons, List.length_append]; omega
theorem read_texts {n : Int} {x : List Int} {l : List Pt} {e : Int} (h : readOf n x = (l, e)) : ∀ p ∈ l, p.text.length ≤ x.length := by
  intro p hp
  unfold readOf at h
  split at h
  · cases hA : rdAll n.toNat (linesOf x) ([], 0) with
    | none => rw [hA] at h; simp at h; rw [h.1] at hp; simp at hp
    | some t =>
      obtain ⟨l', st⟩ := t
      rw [hA] at h
      simp only at h
      split at h
      · injection h with h _; subst h
        have := all_texts (B := 0) hA (by simp) p hp
        rw [lines_flat] at this; omega
      · simp at h; rw [h.1] at hp; simp at hp
  · simp at h; rw [h.1] at hp; simp at hp
theorem app_b {x y : List Int} (hx : ∀ u ∈ x, byte u) (hy : ∀ u ∈ y, byte u) : ∀ u ∈ x ++ y, byte u := fun u hu => by
  rcases List.mem_append.1 hu with hu | hu
  · exact hx u hu
  · exact hy u hu
theorem min_take (a : List Int) : (if (2000 : Int) < (a.length : Int) then 2000 else (a.length : Int)) = ((a.take 2000).length : Int) := by
  rw [List.length_take]; split <;> omega
/-- A row of rows that holds one, its literal's row just made. -/
theorem lit_rows {W : World} {g t : Nat} {A : Option Addr} {c : Nat} {x : List Int} (h : W.heap[g]? = some (.cells #[.slice A x.length c] t (0, 0))) (hc : x.length ≤ c) (hC : Kd.C B8 W A x.length x) : Kd.C (Kd.slice 5 B8) W (some ⟨g, 0, none⟩) [x].length [x] := by
  refine ⟨rfl, by simp, fun _ => ⟨_, rfl, fun j p hj => ?_⟩⟩
  cases j with
  | zero =>
    simp only [List.getElem?_cons_zero, Option.some.injEq] at hj
    subst hj
    refine ⟨_, by rfl, ⟨A, c, rfl, hc, hC⟩, fun i u hi => ?_⟩
    cases i with
    | zero => rw [base_add, blk_cell h]; simpa using hi
    | succ i => simp at hi
  | succ j => simp at hj
set_option maxHeartbeats 16000000 in
set_option maxRecDepth 100000 in
theorem moves_calls (n : Int) (A1 A2 : Option Addr) (c1 c2 : Nat) (a b : List Int) (w : World) (hr1 : Kd.C B8 w A1 a.length a) (hc1 : a.length ≤ c1) (hb1 : ∀ x ∈ a, byte x) (hr2 : Kd.C B8 w A2 b.length b) (hc2 : b.length ≤ c2) (hb2 : ∀ x ∈ b, byte x) :
  Calls Tryd.prog 6 #[.int .i64 n, .slice A1 a.length c1, .slice A2 b.length c2] w fun e w' => e = .returned (.bool true) ∧ Below w.heap.size w w' := by
 have hmn1 := min_take a
 have hmn2 := min_take b
 have hC1 : Kd.C B8 w A1 (a.take 2000).length (a.take 2000) := by
   by_cases h : 2000 ≤ a.length
   · exact Kd.C_take hr1 (m := 2000) h
   · rw [List.take_of_length_le (by omega)]; exact hr1
 have hC2 : Kd.C B8 w A2 (b.take 2000).length (b.take 2000) := by
   by_cases h : 2000 ≤ b.length
   · exact Kd.C_take hr2 (m := 2000) h
   · rw [List.take_of_length_le (by omega)]; exact hr2
 have hl1 : (a.take 2000).length ≤ 2000 ∧ (a.take 2000).length ≤ a.length := by rw [List.length_take]; omega
 have hl2 : (b.take 2000).length ≤ 2000 ∧ (b.take 2000).length ≤ b.length := by rw [List.length_take]; omega
 have hd1 : ∀ x ∈ a.take 2000, byte x := fun x hx => hb1 x (List.mem_of_mem_take hx)
 have hd2 : ∀ x ∈ b.take 2000, byte x := fun x hx => hb2 x (List.mem_of_mem_take hx)
 have htk1 := take_at A1 c1 a ((a.take 2000).length : Int) (by omega) (by omega) hc1
 have htk2 := take_at A2 c2 b ((b.take 2000).length : Int) (by omega) (by omega) hc2
 rw [Int.toNat_natCast] at htk1 htk2
 have hz1 := eq_true (show (0 : Int) ≤ ((a.take 2000).length : Int) by omega)
 have hz2 := eq_true (show (0 : Int) ≤ ((b.take 2000).length : Int) by omega)
 have hy1 := eq_true (show ((a.take 2000).length : Int) ≤ (a.length : Int) by omega)
 have hy2 := eq_true (show ((b.take 2000).length : Int) ≤ (b.length : Int) by omega)
 generalize a.take 2000 = da at *
 generalize b.take 2000 = db at *
 have HD := Aside0.mk (⟨hC1, hC2, hl1, hl2, hd1, hd2⟩ : _ ∧ _ ∧ _ ∧ _ ∧ _ ∧ _)
 clear hr1 hr2 hc1 hc2 hb1 hb2 hC1 hC2 hl1 hl2 hd1 hd2
 go_enter Tryd.func6, Tryd.ntmps6
 obtain ⟨M, hM⟩ : ∃ M, wrap64 (1 + wrap64 ((IntKind.u64.wrap n).tmod 20)) = M := ⟨_, rfl⟩
 go_upto_region 2 with (fail)
 rw [hM]
 clear hM
 go_upto_region 4 with (first | ((with_reducible refine gate_builtin (b := .append) (xs := #[.tmp 25, .tmp 30]) rfl ?_); at_builtin; refine wpl rfl (fun K hK => rw_app (B := w.heap.size) (by rfl) (.tmp 25) (.tmp 30) rfl Tryd.underlying22 inf5 rfl rfl (Rw.new (Nat.le_refl _)) (Kd.C_below HD.out.1 (below_alloc (Below.refl _ _) _)) (by simp) (by have := HD.out.2.2.1; simp; omega) ?_); intro v_ w_ r_ g_; refine hK _ _ ?_; rw [List.nil_append] at r_; have b_ := g_.below w (below_alloc (Below.refl _ _) _) (by simp); obtain ⟨Ap_, cp_, rfl, _⟩ := r_.form; have Qp := Aside0.mk (And.intro r_ b_); clear r_ g_ b_; obtain ⟨wp_, rfl⟩ : ∃ q, q = w_ := ⟨_, rfl⟩) | ((with_reducible refine gate_builtin (b := .append) (xs := #[.tmp 31, .tmp 32]) rfl ?_); at_builtin; refine wpl rfl (fun K hK => rw_one (B := w.heap.size) (g := wp_.heap.size) (by rfl) (.tmp 31) (.tmp 32) rfl Tryd.underlying22 inf5 (heap_alloc_new wp_ _) rfl rfl rfl (Qp.out.1.below (below_alloc (Below.refl _ _) _)) (Nat.le_trans Qp.out.2.2 (by simp)) (by have := HD.out.2.2.1; omega) ?_); intro v_ w_ r_ g_; refine hK _ _ ?_; have b_ := g_.below w (Qp.out.2.1.trans (below_lo (below_alloc (Below.refl wp_.heap.size wp_) _) Qp.out.2.2)) (Nat.le_trans Qp.out.2.2 (by simp)); obtain ⟨AX, cX, e_, hc_, hC_⟩ := r_.out; subst e_; have HX := Aside0.mk (⟨hc_, hC_, b_⟩ : _ ∧ _ ∧ _); clear r_ g_ b_ hc_ hC_; obtain ⟨wX, rfl⟩ : ∃ q, q = w_ := ⟨_, rfl⟩) | ((with_reducible refine gate_builtin (b := .append) (xs := #[.tmp 34, .tmp 39]) rfl ?_); at_builtin; refine wpl rfl (fun K hK => rw_app (B := wX.heap.size) (by rfl) (.tmp 34) (.tmp 39) rfl Tryd.underlying22 inf5 rfl rfl (Rw.new (Nat.le_refl _)) (Kd.C_below HD.out.2.1 (HX.out.2.2.1.trans (below_lo (below_alloc (Below.refl _ _) _) HX.out.2.2.2))) (by simp) (by have := HD.out.2.2.2.1; simp; omega) ?_); intro v_ w_ r_ g_; refine hK _ _ ?_; rw [List.nil_append] at r_; have b_ := g_.below wX (below_alloc (Below.refl _ _) _) (by simp); obtain ⟨Aq_, cq_, rfl, _⟩ := r_.form; have Qq := Aside0.mk (And.intro r_ b_); clear r_ g_ b_; obtain ⟨wq_, rfl⟩ : ∃ q, q = w_ := ⟨_, rfl⟩) | ((with_reducible refine gate_builtin (b := .append) (xs := #[.tmp 40, .tmp 41]) rfl ?_); at_builtin; refine wpl rfl (fun K hK => rw_one (B := wX.heap.size) (g := wq_.heap.size) (by rfl) (.tmp 40) (.tmp 41) rfl Tryd.underlying22 inf5 (heap_alloc_new wq_ _) rfl rfl rfl (Qq.out.1.below (below_alloc (Below.refl _ _) _)) (Nat.le_trans Qq.out.2.2 (by simp)) (by have := HD.out.2.2.2.1; omega) ?_); intro v_ w_ r_ g_; refine hK _ _ ?_; have b_ := g_.below wX (Qq.out.2.1.trans (below_lo (below_alloc (Below.refl wq_.heap.size wq_) _) Qq.out.2.2)) (Nat.le_trans Qq.out.2.2 (by simp)); obtain ⟨AY, cY, e_, hc_, hC_⟩ := r_.out; subst e_; have HY := Aside0.mk (⟨hc_, hC_, b_⟩ : _ ∧ _ ∧ _); clear r_ g_ b_ hc_ hC_; obtain ⟨wY, rfl⟩ : ∃ q, q = w_ := ⟨_, rfl⟩))
 obtain ⟨x, hx⟩ : ∃ x, x = da ++ [10] := ⟨_, rfl⟩
 obtain ⟨y, hy⟩ : ∃ y, y = db ++ [10] := ⟨_, rfl⟩
 have hxl : da.length + 1 = x.length := by rw [hx]; simp
 have hyl : db.length + 1 = y.length := by rw [hy]; simp
 rw [← hx] at HX
 rw [← hy] at HY
 rw [hxl, hyl]
 have hxb : ∀ u ∈ x, byte u := by rw [hx]; exact app_b HD.out.2.2.2.2.1 (by intro u hu; rw [List.mem_singleton] at hu; subst hu; unfold byte; omega)
 have hyb : ∀ u ∈ y, byte u := by rw [hy]; exact app_b HD.out.2.2.2.2.2 (by intro u hu; rw [List.mem_singleton] at hu; subst hu; unfold byte; omega)
 have hxn : x.length ≤ 2001 ∧ y.length ≤ 2001 := by have := HD.out.2.2.1; have := HD.out.2.2.2.1; omega
 have HN := Aside0.mk (⟨hxb, hyb, hxn⟩ : _ ∧ _ ∧ _)
 obtain ⟨⟨l, e⟩, hl⟩ : ∃ r, readOf M x = r := ⟨_, rfl⟩
 obtain ⟨⟨m, f⟩, hm⟩ : ∃ r, readOf M y = r := ⟨_, rfl⟩
 obtain ⟨z, hz⟩ : ∃ z, x ++ y = z := ⟨_, rfl⟩
 have hzl : x.length + y.length = z.length := by rw [← hz]; simp
 obtain ⟨⟨bo, g⟩, hbo⟩ : ∃ r, readOf M z = r := ⟨_, rfl⟩
 have hln : l.length ≤ 2001 := by have := readOf_len M x; rw [hl] at this; simp only at this; omega
 have hmn : m.length ≤ 2001 := by have := readOf_len M y; rw [hm] at this; simp only at this; omega
 have hbn : bo.length ≤ 4002 := by have := readOf_len M z; rw [hbo] at this; simp only at this; omega
 have hxyb : ∀ u ∈ z, byte u := by rw [← hz]; exact app_b hxb hyb
 have hR1 := fun W hW => read_calls M AX cX x W hW HX.out.1 hxb (by omega)
 have hR2 := fun W hW => read_calls M AY cY y W hW HY.out.1 hyb (by omega)
 have hR3 := fun A c W hW hc => read_calls M A c z W hW hc hxyb (by omega)
 simp only [hl] at hR1
 simp only [hm] at hR2
 simp only [hbo] at hR3
 replace hR1 := Aside0.mk hR1; replace hR2 := Aside0.mk hR2; replace hR3 := Aside0.mk hR3
 have HL := Aside0.mk (⟨hl, hm, hbo, hln, hmn, hbn⟩ : _ ∧ _ ∧ _ ∧ _ ∧ _ ∧ _)
 replace hx := Aside0.mk hx
 replace hz := Aside0.mk hz
 replace hzl := Aside0.mk hzl
 replace hy := Aside0.mk hy
 have F3 := Aside0.mk (⟨Kd.C_below HX.out.2.1 HY.out.2.2.1, HY.out.2.1, HX.out.2.2.1.trans (below_lo HY.out.2.2.1 HX.out.2.2.2)⟩ : _ ∧ _ ∧ _)
 clear hxl hyl hl hm hbo hln hmn hbn hxyb hxb hyb hxn hmn1 hmn2 htk1 htk2 hz1 hz2 hy1 hy2
 go_upto_region 5 with (go_at_call 9; refine (hR1.out wY F3.out.1).mono ?_; rintro e_ w4 ⟨Al, cl, rfl, hc_, hC_, hb_⟩; have F4 := Aside0.mk (⟨Kd.C_below F3.out.1 hb_, Kd.C_below F3.out.2.1 hb_, F3.out.2.2.trans (below_lo hb_ F3.out.2.2.size), hc_, hC_⟩ : _ ∧ _ ∧ _ ∧ _ ∧ _); clear hc_ hC_ hb_)
 go_upto_region 6 with (go_at_call 9; refine (hR2.out w4 F4.out.2.1).mono ?_; rintro e_ w5 ⟨Am, cm, rfl, hc_, hC_, hb_⟩; have F5 := Aside0.mk (⟨Kd.C_below F4.out.1 hb_, Kd.C_below F4.out.2.1 hb_, F4.out.2.2.1.trans (below_lo hb_ F4.out.2.2.1.size), F4.out.2.2.2.1, Kd.C_below F4.out.2.2.2.2 hb_, hc_, hC_⟩ : _ ∧ _ ∧ _ ∧ _ ∧ _ ∧ _ ∧ _); clear hc_ hC_ hb_)
 go_upto_region 7 with (first | ((with_reducible refine gate_builtin (b := .append) (xs := #[.tmp 57, .tmp 58]) rfl ?_); at_builtin; refine wpl rfl (fun K hK => rw_app (B := w5.heap.size) (by rfl) (.tmp 57) (.tmp 58) rfl Tryd.underlying22 inf5 rfl rfl (Rw.new (Nat.le_refl _)) (Kd.C_below F5.out.1 (below_alloc (Below.refl _ _) _)) (by simp) (by have := HN.out.2.2; simp; omega) ?_); intro v_ w_ r_ g_; refine hK _ _ ?_; rw [List.nil_append] at r_; have b_ := g_.below w5 (below_alloc (Below.refl _ _) _) (by simp); obtain ⟨Ar_, cr_, rfl, _⟩ := r_.form; have Qr := Aside0.mk (And.intro r_ b_); clear r_ g_ b_; obtain ⟨wr_, rfl⟩ : ∃ q, q = w_ := ⟨_, rfl⟩) | ((with_reducible refine gate_builtin (b := .append) (xs := #[.tmp 59, .tmp 60]) rfl ?_); at_builtin; refine wpl rfl (fun K hK => rw_app (B := w5.heap.size) (by rfl) (.tmp 59) (.tmp 60) rfl Tryd.underlying22 inf5 rfl rfl Qr.out.1 (Kd.C_below F5.out.2.1 Qr.out.2.1) Qr.out.2.2 (by have := HN.out.2.2; omega) ?_); intro v_ w_ r_ g_; refine hK _ _ ?_; rw [hz.out] at r_; have b_ := g_.below w5 Qr.out.2.1 Qr.out.2.2; obtain ⟨AZ, cZ, e_, hc_, hC_⟩ := r_.out; subst e_; have HZ := Aside0.mk (⟨hc_, hC_, b_⟩ : _ ∧ _ ∧ _); clear r_ g_ b_ hc_ hC_; obtain ⟨wZ, rfl⟩ : ∃ q, q = w_ := ⟨_, rfl⟩) | (go_at_call 9; refine (hR3.out AZ cZ wZ HZ.out.2.1 HZ.out.1).mono ?_; rintro e_ w7 ⟨Ab, cb, rfl, hc_, hC_, hb_⟩; have hz_ := HZ.out.2.2.1.trans (below_lo hb_ HZ.out.2.2.2); have F7 := Aside0.mk (⟨Kd.C_below F5.out.1 hz_, F5.out.2.2.1.trans (below_lo hz_ F5.out.2.2.1.size), F5.out.2.2.2.1, Kd.C_below F5.out.2.2.2.2.1 hz_, F5.out.2.2.2.2.2.1, Kd.C_below F5.out.2.2.2.2.2.2 hz_, hc_, hC_⟩ : _ ∧ _ ∧ _ ∧ _ ∧ _ ∧ _ ∧ _ ∧ _); clear hc_ hC_ hb_ hz_))
 by_cases he : e = 0
 · subst he
   by_cases hf : f = 0
   · subst hf
     have hgl := read_two hx.out HL.out.1 HL.out.2.1
     rw [hz.out, HL.out.2.2.1] at hgl
     injection hgl with hgl hg0
     subst hg0
     have hlp := read_pos (by rw [hx.out]; simp) HL.out.1
     have hmp := read_pos (by rw [hy.out]; simp) HL.out.2.1
     replace hgl := Aside0.mk hgl
     obtain ⟨lf, p, hlq⟩ : ∃ lf p, l = lf ++ [p] := (snoc_cases l).resolve_left hlp
     obtain ⟨q, mr, hmq⟩ : ∃ q mr, m = q :: mr := by cases m with | nil => exact absurd rfl hmp | cons q mr => exact ⟨q, mr, rfl⟩
     have hl0 : 0 < l.length := by rw [hlq]; simp
     have hm0 : 0 < m.length := by rw [hmq]; simp
     have hlp1 : l[((l.length : Int) - 1).toNat]? = some p := by rw [show ((l.length : Int) - 1).toNat = lf.length by rw [hlq]; simp]; rw [hlq]; simp
     have hmq1 : m[((0 : Int)).toNat]? = some q := by rw [hmq]; rfl
     obtain ⟨jt, hjt⟩ : ∃ jt, l ++ m = jt := ⟨_, rfl⟩
     have hok := read_ok HL.out.2.1
     have htx : p.text.length ≤ 2001 ∧ q.text.length ≤ 2001 := ⟨by have := read_texts HL.out.1 p (by rw [hlq]; simp); have := HN.out.2.2.1; omega, by have := read_texts HL.out.2.1 q (by rw [hmq]; simp); have := HN.out.2.2.2; omega⟩
     replace hok := Aside0.mk hok
     replace htx := Aside0.mk htx
     have HLM := Aside0.mk (⟨hlq, hmq, hl0, hm0, hlp1, hmq1⟩ : _ ∧ _ ∧ _ ∧ _ ∧ _ ∧ _)
     replace hjt := Aside0.mk hjt
     clear hlp hmp hR1 hR2 hR3 hlq hmq hlp1 hmq1
     obtain ⟨kL, hkL⟩ := (length_ev 1 [x] (by simp) (fun r hr => by rw [List.mem_singleton] at hr; subst hr; exact ⟨by have := HN.out.2.2.1; omega, HN.out.1⟩)).has
     rw [show (if (1 : Int) ≤ 1 ∧ (1 : Int) ≤ 1000 then (1 : Int) else 7) = 1 by simp] at hkL
     have hlong := (read_long (x := x) (by rw [hx.out]; simp) (by have := HN.out.2.2.1; omega)).1
     obtain ⟨LN, hLN⟩ : ∃ LN, lenAll 1 [x] = LN := ⟨_, rfl⟩
     rw [hLN] at hkL hlong
     have hR4 := fun W hW => read_calls LN AX cX x W hW HX.out.1 HN.out.1 (by have := HN.out.2.2.1; omega)
     simp only [hlong] at hR4
     replace hR4 := Aside0.mk hR4
     replace hkL := Aside0.mk hkL
     clear hlong hLN
     go_upto_region 9 with (go_at_call 11; refine (known_walk w7).mono ?_; rintro e_ w8 ⟨rfl, hb_⟩; have F8 := Aside0.mk (⟨Kd.C_below F7.out.1 hb_, F7.out.2.1.trans (below_lo hb_ F7.out.2.1.size), Kd.C_below F7.out.2.2.2.1 hb_, Kd.C_below F7.out.2.2.2.2.2.1 hb_, Kd.C_below F7.out.2.2.2.2.2.2.2 hb_⟩ : _ ∧ _ ∧ _ ∧ _ ∧ _); clear hb_)
     go_upto_region 11 with (first | ((with_reducible refine gate_builtin (b := .append) (xs := #[.tmp 76, .tmp 77]) rfl ?_); at_builtin; refine wpl rfl (fun K hK => rp_app (B := w8.heap.size) (Z := fun k => k < w8.heap.size) (by rfl) (.tmp 76) (.tmp 77) rfl Tryd.underlying23 inf50 (fun k h => h) rfl rfl (Rp.new (Nat.le_refl _)) (Kd.F_step (Kd.C_F kP_heap (F8.out.2.2.1)) (fun k hk hl => (below_alloc (Below.refl _ _) _).block k hk)) (by simp) (by have := HL.out.2.2.2.1; simp; omega) ?_); intro v_ w_ r_ g_ at_; clear at_; refine hK _ _ ?_; rw [List.nil_append] at r_; have b_ := g_.below w8 (below_alloc (Below.refl _ _) _) (by simp); obtain ⟨Aj_, cj_, rfl, _⟩ := r_.form; have Qj := Aside0.mk (And.intro r_ b_); clear r_ g_ b_; obtain ⟨wj_, rfl⟩ : ∃ q, q = w_ := ⟨_, rfl⟩) | ((with_reducible refine gate_builtin (b := .append) (xs := #[.tmp 78, .tmp 79]) rfl ?_); at_builtin; refine wpl rfl (fun K hK => rp_app (B := w8.heap.size) (Z := fun k => k < w8.heap.size) (by rfl) (.tmp 78) (.tmp 79) rfl Tryd.underlying23 inf50 (fun k h => h) rfl rfl Qj.out.1 (Kd.F_step (Kd.C_F kP_heap (F8.out.2.2.2.1)) (fun k hk hl => Qj.out.2.1.block k hk)) Qj.out.2.2 (by have := HL.out.2.2.2.1; have := HL.out.2.2.2.2.1; omega) ?_); intro v_ w_ r_ g_ at_; clear at_; refine hK _ _ ?_; rw [hjt.out] at r_; have b_ := g_.below w8 Qj.out.2.1 Qj.out.2.2; obtain ⟨AJ, cJ, e_, hc_, hC_⟩ := r_.out; subst e_; have HJ := Aside0.mk (⟨hc_, hC_, b_⟩ : _ ∧ _ ∧ _); clear r_ g_ b_ hc_ hC_; obtain ⟨wJ, rfl⟩ : ∃ q, q = w_ := ⟨_, rfl⟩))
     have hwl : wrap64 ((l.length : Int) - 1) = (l.length : Int) - 1 := by have := HL.out.2.2.2.1; unfold wrap64; omega
     have F9 := Aside0.mk (⟨Kd.C_below F8.out.1 HJ.out.2.2.1, F8.out.2.1.trans (below_lo HJ.out.2.2.1 F8.out.2.1.size), Kd.C_below F8.out.2.2.1 HJ.out.2.2.1, Kd.C_below F8.out.2.2.2.1 HJ.out.2.2.1, Kd.C_below F8.out.2.2.2.2 HJ.out.2.2.1⟩ : _ ∧ _ ∧ _ ∧ _ ∧ _)
     obtain ⟨adl, p', B1, d1, B2, d2, B3, d3, B4, d4, rfl, hp', _, hp0, hp1, hp2, hp3, hp4, hpg⟩ := at_Pt (Kd.C_F kP_heap F9.out.2.2.1) ((l.length : Int) - 1) (by omega) (by omega)
     obtain rfl : p = p' := Option.some.inj (HLM.out.2.2.2.2.1.symm.trans hp')
     obtain ⟨adm, q', E1, u1, E2, u2, E3, u3, E4, u4, rfl, hq', _, hq0, hq1, hq2, hq3, hq4, hqg⟩ := at_Pt (Kd.C_F kP_heap F9.out.2.2.2.1) 0 (Int.le_refl _) (by omega)
     obtain rfl : q = q' := Option.some.inj (HLM.out.2.2.2.2.2.symm.trans hq')
     have eq0_ : adm.add ((0 : Int).toNat * 5) = adm := by simp [Addr.add]
     rw [eq0_] at hq0 hq1
     have et_ : ((l.length : Int) - 1).toNat = l.length - 1 := by omega
     rw [et_] at hp0 hp1
     clear et_
     have hl0c := eq_true hl0
     have hm0c := eq_true hm0
     have hl0b := eq_true (show (0 : Int) < (l.length : Int) by omega)
     have hm0b := eq_true (show (0 : Int) < (m.length : Int) by omega)
     have hl1c := eq_true (show (1 : Int) ≤ (l.length : Int) by omega)
     have hl1d := eq_false (show ¬ (l.length : Int) < 1 by omega)
     have hl1b := eq_true (show (0 : Int) ≤ (l.length : Int) - 1 by omega)
     have hl2b := eq_true (show (l.length : Int) - 1 < (l.length : Int) by omega)
     have HPQ := Aside0.mk (⟨hp1, hq1, Kd.F_now hpg.1.2, Kd.F_now hqg.1.2⟩ : _ ∧ _ ∧ _ ∧ _)
     clear hp' hq' hpg hqg hp1 hp2 hp3 hp4 hq1 hq2 hq3 hq4 eq0_ hl0 hm0
     obtain ⟨pr, hpr⟩ : ∃ pr, p.region = pr := ⟨_, rfl⟩
     obtain ⟨qr, hqr⟩ : ∃ qr, q.region = qr := ⟨_, rfl⟩
     rw [hpr] at hp0
     rw [hqr] at hq0
     replace hpr := Aside0.mk hpr
     replace hqr := Aside0.mk hqr
     cases pr with
     | true =>
       go_upto_region 14 with (fail)
       have hbj : bo = jt := by
         rw [hgl.out, ← hjt.out, HLM.out.1, HLM.out.2.1]
         simp [glue, hpr.out, hqr.out]
       subst hbj
       have FT := Aside0.mk (⟨F9.out.1, F9.out.2.1, F9.out.2.2.2.2, HJ.out.2.1⟩ : _ ∧ _ ∧ _ ∧ _)
       have HJc := Aside0.mk HJ.out.1
       replace hp0 := Aside0.mk hp0
       replace hq0 := Aside0.mk hq0
       go_upto_region 15 with (first | (go_at_call 16; refine (mark_Length.calls kL 1 (some ⟨wJ.heap.size, 0, none⟩) 1 [x] LN _ (lit_rows (heap_alloc_new wJ _) HX.out.1 (Kd.C_below FT.out.1 (below_alloc (Below.refl _ _) _))) (Nat.le_refl _) hkL.out).mono ?_; rintro e_ wL ⟨rfl, hb_⟩; have hz_ := (below_alloc (Below.refl _ _) _).trans (below_lo hb_ (by simp)); have FL := Aside0.mk (⟨Kd.C_below FT.out.1 hz_, FT.out.2.1.trans (below_lo hz_ FT.out.2.1.size), Kd.C_below FT.out.2.2.1 hz_, Kd.C_below FT.out.2.2.2 hz_⟩ : _ ∧ _ ∧ _ ∧ _); clear hb_ hz_) | (go_at_call 9; refine (hR4.out wL FL.out.1).mono ?_; rintro e_ wO ⟨Ao, co, rfl, hc_, hC_, hb_⟩; have FO := Aside0.mk (⟨Kd.C_below FL.out.1 hb_, FL.out.2.1.trans (below_lo hb_ FL.out.2.1.size), Kd.C_below FL.out.2.2.1 hb_, Kd.C_below FL.out.2.2.2 hb_, hC_⟩ : _ ∧ _ ∧ _ ∧ _ ∧ _); clear hc_ hC_ hb_))
       obtain ⟨ado, x', G1, v1, G2, v2, G3, v3, G4, v4, eA_, hx', _, ho0, ho1, ho2, ho3, ho4, gg1, _⟩ := at_Pt (Kd.C_F kP_heap FO.out.2.2.2.2) 0 (Int.le_refl _) (by simp)
       subst eA_
       obtain rfl : (⟨false, x, [], [], []⟩ : Pt) = x' := Option.some.inj hx'
       have eo0_ : ado.add ((0 : Int).toNat * 5) = ado := by simp [Addr.add]
       rw [eo0_] at ho1
       simp only at ho1 gg1
       have hgC := Aside0.mk (Kd.F_now gg1.2)
       have FD := Aside0.mk (⟨Kd.C_below FO.out.1 (below_drew1 (Below.refl wO.heap.size wO)), FO.out.2.1.trans (below_lo (below_drew1 (Below.refl wO.heap.size wO)) FO.out.2.1.size), Kd.C_below FO.out.2.2.1 (below_drew1 (Below.refl wO.heap.size wO)), Kd.C_below FO.out.2.2.2.1 (below_drew1 (Below.refl wO.heap.size wO)), Kd.C_below hgC.out (below_drew1 (Below.refl wO.heap.size wO))⟩ : _ ∧ _ ∧ _ ∧ _ ∧ _)
       have ho1d : wO.drew.cell? ⟨ado.block, ado.off + 1, none⟩ = some (.slice G1 x.length v1) := ho1
       clear ho0 ho1 ho2 ho3 ho4 gg1 hx' eo0_ hgC
       have E0 := trivial
       refine start_ (n := 29) (S := fun w' => True) (ds := []) #[false, false, false, false, false, false, false, false, false, false, false, false, false, false, false, false, false, false, false, false, false, false, false, false, false, false, false, false, false] (by kernel_rfl) rfl rfl trivial (fun hHeld => ?_)
       refine with_tabW mmov.tab15 mmov.bits15 (fun HT_ HW_ => ?_)
       have E := trivial
       generalize wO.drew = wd at FD ho1d hHeld ⊢
       refine pure_ (i := 0) (N := some 140) (v := ?_) (a' := ?_) #[true, false, false, false, false, false, false, false, false, false, false, false, false, false, false, false, false, false, false, false, false, false, false, false, false, false, false, false, false] rfl rfl (any_of HT_.out (by kernel_rfl)) (fun _ _ _ h => h) (Or.inl ⟨by rfl, ?_⟩) ?_ ?_
       rotate_left
       · intro w'
         go_simp
         with_reducible rfl
       rotate_left
       · simp only [Act.put, List.setIfInBounds_toArray, List.set_cons_zero, List.set_cons_succ, i64_w, i32_w]
         rfl
       refine pure_ (i := 1) (N := some 141) (v := ?_) (a' := ?_) #[true, true, false, false, false, false, false, false, false, false, false, false, false, false, false, false, false, false, false, false, false, false, false, false, false, false, false, false, false] rfl rfl (any_of HT_.out (by kernel_rfl)) (fun _ _ _ h => h) (Or.inl ⟨by rfl, ?_⟩) ?_ ?_
       rotate_left
       · intro w'
         go_simp
         with_reducible rfl
       rotate_left
       · simp only [Act.put, List.setIfInBounds_toArray, List.set_cons_zero, List.set_cons_succ, i64_w, i32_w]
         rfl
       refine pure_ (i := 2) (N := some 142) (v := ?_) (a' := ?_) #[true, true, true, false, false, false, false, false, false, false, false, false, false, false, false, false, false, false, false, false, false, false, false, false, false, false, false, false, false] rfl rfl (any_of HT_.out (by kernel_rfl)) (fun _ _ _ h => h) (Or.inl ⟨by rfl, ?_⟩) ?_ ?_
       rotate_left
       · intro w'
         go_simp
         with_reducible rfl
       rotate_left
       · simp only [Act.put, List.setIfInBounds_toArray, List.set_cons_zero, List.set_cons_succ, i64_w, i32_w]
         rfl
       refine pure_ (i := 3) (N := some 143) (v := ?_) (a' := ?_) #[true, true, true, true, false, false, false, false, false, false, false, false, false, false, false, false, false, false, false, false, false, false, false, false, false, false, false, false, false] rfl rfl (any_of HT_.out (by kernel_rfl)) (fun _ _ _ h => h) (Or.inl ⟨by rfl, ?_⟩) ?_ ?_
       rotate_left
       · intro w'
         go_simp
         with_reducible rfl
       rotate_left
       · simp only [Act.put, List.setIfInBounds_toArray, List.set_cons_zero, List.set_cons_succ, i64_w, i32_w]
         rfl
       refine pure_ (i := 5) (N := some 145) (v := ?_) (a' := ?_) #[true, true, true, true, false, true, false, false, false, false, false, false, false, false, false, false, false, false, false, false, false, false, false, false, false, false, false, false, false] rfl rfl (any_of HT_.out (by kernel_rfl)) (fun _ _ _ h => h) (Or.inl ⟨by rfl, ?_⟩) ?_ ?_
       rotate_left
       · intro w'
         go_simp
         with_reducible rfl
       rotate_left
       · simp only [Act.put, List.setIfInBounds_toArray, List.set_cons_zero, List.set_cons_succ, i64_w, i32_w]
         rfl
       refine inv_at [4, 6, 7, 8, 9, 10, 11, 12, 13, 14, 15, 16, 17, 18, 19, 20, 21, 22, 23, 24, 25, 26, 27, 28] (fun a0_ b a w' => ∃ (va : Value) (vb : Value), a = putSel a0_ b [(4, 144, va), (6, 146, vb), (7, 147, .bool true), (8, 148, .bool true), (9, 149, .bool true), (10, 150, .int .i64 0), (11, 151, .bool true), (12, 152, .bool true), (13, 153, .bool true), (14, 154, .slice (some ado) 1 co), (15, 155, .int .i64 1), (16, 156, .bool true), (17, 157, .bool true), (18, 158, .bool true), (19, 159, .slice (some ado) 1 co), (20, 160, .pointer (some ado)), (21, 161, .pointer (some ⟨ado.block, ado.off + 1, none⟩)), (22, 162, .slice G1 x.length v1), (23, 163, .string (strOfNums x)), (24, 164, .slice AX x.length cX), (25, 165, .string (strOfNums x)), (26, 166, .bool true), (27, 167, .bool true), (28, 6, .bool true)] ∧ (Below wd.heap.size wd w') ∧ (b 4 = true → (∃ (A : Option Addr) (c : Nat), va = .slice A bo.length c ∧ Kd.C kP w' A bo.length bo)) ∧ (b 6 = true → (∃ (A : Option Addr) (c : Nat), vb = .slice A bo.length c ∧ Kd.C kP w' A bo.length bo))) HT_.out HW_.out (by kernel_rfl) (by kernel_rfl) ?_ ?_ ?_
       · exact ⟨.bool false, .bool false, by simp only [putSel, Bool.false_eq_true, if_false], Below.refl _ _, fun h_ => absurd h_ (by decide), fun h_ => absurd h_ (by decide)⟩
       · skip
         clear E
         refine steps_cons ?_ ?_
         · rintro b a w' ⟨va, vb, ha, Q_E, Q_Ea, Q_Eb⟩ hb_ hon hoff
           refine ⟨_, rfl, fun K hK => ?_⟩
           have e143 : a.tmps[143]? = some (.slice Ab bo.length cb) := by rw [ha]; exact (putSel_off rfl).trans rfl
           have e142 : a.tmps[142]? = some (.bool true) := by rw [ha]; exact (putSel_off rfl).trans rfl
           replace ha := Aside0.mk ha
           have E := Aside0.mk Q_E
           refine goes_ Tryd.func13 (by kernel_rfl) rfl #[.slice Ab bo.length cb] (wanted_on rfl rfl rfl (e142.trans (by first | rfl | (simp [*]; done)))) rfl rfl (by first | (simp only [List.map_toArray, List.map_cons, List.map_nil, Act.eval, Array.getD_eq_getD_getElem?, Option.getD_some, e143, e142]; done) | (simp only [List.map_toArray, List.map_cons, List.map_nil, Act.eval, Array.getD_eq_getD_getElem?, Option.getD_some, e143, e142]; rfl)) ?_
           refine (as_calls Ab cb bo _ (Kd.C_below FD.out.2.2.1 E.out) F7.out.2.2.2.2.2.2.1 (by have := HL.out.2.2.2.2.2; omega)).mono ?_
           rintro e w24 ⟨A5_, c5_, rfl, hc5_, hC5_, hb⟩
           refine ⟨_, rfl, ?_⟩
           have E3_ := below_step E.out hb
           have S3_ : (∃ (A : Option Addr) (c : Nat), (Value.slice A5_ bo.length c5_) = .slice A bo.length c ∧ Kd.C kP w24 A bo.length bo) := ⟨A5_, c5_, rfl, hC5_⟩
           refine hK.out _ _ ⟨(.slice A5_ bo.length c5_), vb, (by rw [ha.out]; exact putSel_upk 0 hb_ rfl rfl rfl), E3_, fun _ => S3_, fun h0_ => absurd ((hoff 6 (by kernel_rfl)).symm.trans h0_) (by decide)⟩
         refine steps_cons ?_ ?_
         · rintro b a w' ⟨va, vb, ha, Q_E, Q_Ea, Q_Eb⟩ hb_ hon hoff
           refine ⟨_, rfl, fun K hK => ?_⟩
           have e145 : a.tmps[145]? = some (.slice AJ bo.length cJ) := by rw [ha]; exact (putSel_off rfl).trans rfl
           have e142 : a.tmps[142]? = some (.bool true) := by rw [ha]; exact (putSel_off rfl).trans rfl
           replace ha := Aside0.mk ha
           have E := Aside0.mk Q_E
           have Ea := Aside0.mk (Q_Ea (hon 4 (by kernel_rfl)))
           refine goes_ Tryd.func13 (by kernel_rfl) rfl #[.slice AJ bo.length cJ] (wanted_on rfl rfl rfl (e142.trans (by first | rfl | (simp [*]; done)))) rfl rfl (by first | (simp only [List.map_toArray, List.map_cons, List.map_nil, Act.eval, Array.getD_eq_getD_getElem?, Option.getD_some, e145, e142]; done) | (simp only [List.map_toArray, List.map_cons, List.map_nil, Act.eval, Array.getD_eq_getD_getElem?, Option.getD_some, e145, e142]; rfl)) ?_
           refine (as_calls AJ cJ bo _ (Kd.C_below FD.out.2.2.2.1 E.out) HJc.out (by have := HL.out.2.2.2.2.2; omega)).mono ?_
           rintro e w24 ⟨A5_, c5_, rfl, hc5_, hC5_, hb⟩
           refine ⟨_, rfl, ?_⟩
           have E3_ := below_step E.out hb
           have S3_ : (∃ (A : Option Addr) (c : Nat), (Value.slice A5_ bo.length c5_) = .slice A bo.length c ∧ Kd.C kP w24 A bo.length bo) := ⟨A5_, c5_, rfl, hC5_⟩
           refine hK.out _ _ ⟨va, (.slice A5_ bo.length c5_), (by rw [ha.out]; exact putSel_upk 1 hb_ rfl rfl rfl), E3_, fun _ => (let ⟨A_, c_, e_, h_⟩ := Ea.out; ⟨A_, c_, e_, Kd.C_below h_ hb⟩), fun _ => S3_⟩
         refine steps_cons ?_ ?_
         · rintro b a w' ⟨va, vb, ha, Q_E, Q_Ea, Q_Eb⟩ hb_ hon hoff
           refine ⟨_, rfl, fun K hK => ?_⟩
           have e144 : a.tmps[144]? = some (va) := by rw [ha]; exact putSel_on (e := (4, 144, va)) 0 rfl rfl (hon 4 (by kernel_rfl)) rfl
           have e146 : a.tmps[146]? = some (vb) := by rw [ha]; exact putSel_on (e := (6, 146, vb)) 1 rfl rfl (hon 6 (by kernel_rfl)) rfl
           have e142 : a.tmps[142]? = some (.bool true) := by rw [ha]; exact (putSel_off rfl).trans rfl
           replace ha := Aside0.mk ha
           have E := Aside0.mk Q_E
           have Ea := Aside0.mk (Q_Ea (hon 4 (by kernel_rfl)))
           have Eb := Aside0.mk (Q_Eb (hon 6 (by kernel_rfl)))
           obtain ⟨Aa_, ca_, ea_, hCa_⟩ := Ea.out
           obtain ⟨Ab_, cb_, eb_, hCb_⟩ := Eb.out
           rw [ea_] at e144
           rw [eb_] at e146
           refine goes_ Tryd.func12 (by kernel_rfl) rfl #[.slice Aa_ bo.length ca_, .slice Ab_ bo.length cb_] (wanted_on rfl rfl rfl (e142.trans (by first | rfl | (simp [*]; done)))) rfl rfl (by first | (simp only [List.map_toArray, List.map_cons, List.map_nil, Act.eval, Array.getD_eq_getD_getElem?, Option.getD_some, e144, e146, e142]; done) | (simp only [List.map_toArray, List.map_cons, List.map_nil, Act.eval, Array.getD_eq_getD_getElem?, Option.getD_some, e144, e146, e142]; rfl)) ?_
           refine (same_calls Aa_ Ab_ ca_ cb_ bo _ hCa_ hCb_).mono ?_
           rintro e w24 ⟨rfl, hb⟩
           refine ⟨_, rfl, ?_⟩
           have E3_ := below_step E.out hb
           have Sa_ : (∃ (A : Option Addr) (c : Nat), va = .slice A bo.length c ∧ Kd.C kP w24 A bo.length bo) := ⟨Aa_, ca_, ea_, Kd.C_below hCa_ hb⟩
           have Sb_ : (∃ (A : Option Addr) (c : Nat), vb = .slice A bo.length c ∧ Kd.C kP w24 A bo.length bo) := ⟨Ab_, cb_, eb_, Kd.C_below hCb_ hb⟩
           refine hK.out _ _ ⟨va, vb, (by rw [ha.out]; exact putSel_upk 2 hb_ rfl rfl rfl), E3_, fun _ => Sa_, fun _ => Sb_⟩
         refine steps_cons ?_ ?_
         · rintro b a w' ⟨va, vb, ha, Q_E, Q_Ea, Q_Eb⟩ hb_ hon hoff
           refine ⟨_, rfl, fun K hK => ?_⟩
           have e142 : a.tmps[142]? = some (.bool true) := by rw [ha]; exact (putSel_off rfl).trans rfl
           have e147 : a.tmps[147]? = some (.bool true) := by rw [ha]; exact putSel_on (e := (7, 147, .bool true)) 2 rfl rfl (hon 7 (by kernel_rfl)) rfl
           replace ha := Aside0.mk ha
           have E := Aside0.mk Q_E
           have Ea := Aside0.mk (Q_Ea (hon 4 (by kernel_rfl)))
           have Eb := Aside0.mk (Q_Eb (hon 6 (by kernel_rfl)))
           refine value_ (w1 := w') (v := .bool true) (by rfl) rfl ?_ ?_
           · go_simp
             (try simp only [i64_w])
             try rfl
           refine hK.out _ _ ⟨va, vb, (by rw [ha.out]; exact putSel_upk 3 hb_ rfl rfl rfl), Q_E, Q_Ea, Q_Eb⟩
         refine steps_cons ?_ ?_
         · rintro b a w' ⟨va, vb, ha, Q_E, Q_Ea, Q_Eb⟩ hb_ hon hoff
           refine ⟨_, rfl, fun K hK => ?_⟩
           have e148 : a.tmps[148]? = some (.bool true) := by rw [ha]; exact putSel_on (e := (8, 148, .bool true)) 3 rfl rfl (hon 8 (by kernel_rfl)) rfl
           replace ha := Aside0.mk ha
           have E := Aside0.mk Q_E
           have Ea := Aside0.mk (Q_Ea (hon 4 (by kernel_rfl)))
           have Eb := Aside0.mk (Q_Eb (hon 6 (by kernel_rfl)))
           refine value_ (w1 := w') (v := .bool true) (by rfl) rfl ?_ ?_
           · go_simp
             (try simp only [i64_w])
             try rfl
           refine hK.out _ _ ⟨va, vb, (by rw [ha.out]; exact putSel_upk 4 hb_ rfl rfl rfl), Q_E, Q_Ea, Q_Eb⟩
         refine steps_cons ?_ ?_
         · rintro b a w' ⟨va, vb, ha, Q_E, Q_Ea, Q_Eb⟩ hb_ hon hoff
           refine ⟨_, rfl, fun K hK => ?_⟩
           have e19 : a.tmps[19]? = some (.int .i64 0) := by rw [ha]; exact (putSel_off rfl).trans rfl
           have e149 : a.tmps[149]? = some (.bool true) := by rw [ha]; exact putSel_on (e := (9, 149, .bool true)) 4 rfl rfl (hon 9 (by kernel_rfl)) rfl
           replace ha := Aside0.mk ha
           have E := Aside0.mk Q_E
           have Ea := Aside0.mk (Q_Ea (hon 4 (by kernel_rfl)))
           have Eb := Aside0.mk (Q_Eb (hon 6 (by kernel_rfl)))
           refine value_ (w1 := w') (v := .int .i64 0) (wanted_on rfl rfl rfl (e149.trans (by first | rfl | (simp [*]; done)))) rfl ?_ ?_
           · go_simp
             (try simp only [i64_w])
             try rfl
           refine hK.out _ _ ⟨va, vb, (by rw [ha.out]; exact putSel_upk 5 hb_ rfl rfl rfl), Q_E, Q_Ea, Q_Eb⟩
         refine steps_cons ?_ ?_
         · rintro b a w' ⟨va, vb, ha, Q_E, Q_Ea, Q_Eb⟩ hb_ hon hoff
           refine ⟨_, rfl, fun K hK => ?_⟩
           have e150 : a.tmps[150]? = some (.int .i64 0) := by rw [ha]; exact putSel_on (e := (10, 150, .int .i64 0)) 5 rfl rfl (hon 10 (by kernel_rfl)) rfl
           have e149 : a.tmps[149]? = some (.bool true) := by rw [ha]; exact putSel_on (e := (9, 149, .bool true)) 4 rfl rfl (hon 9 (by kernel_rfl)) rfl
           replace ha := Aside0.mk ha
           have E := Aside0.mk Q_E
           have Ea := Aside0.mk (Q_Ea (hon 4 (by kernel_rfl)))
           have Eb := Aside0.mk (Q_Eb (hon 6 (by kernel_rfl)))
           refine value_ (w1 := w') (v := .bool true) (wanted_on rfl rfl rfl (e149.trans (by first | rfl | (simp [*]; done)))) rfl ?_ ?_
           · go_simp
             (try simp only [i64_w])
             try rfl
           refine hK.out _ _ ⟨va, vb, (by rw [ha.out]; exact putSel_upk 6 hb_ rfl rfl rfl), Q_E, Q_Ea, Q_Eb⟩
         refine steps_cons ?_ ?_
         · rintro b a w' ⟨va, vb, ha, Q_E, Q_Ea, Q_Eb⟩ hb_ hon hoff
           refine ⟨_, rfl, fun K hK => ?_⟩
           have e149 : a.tmps[149]? = some (.bool true) := by rw [ha]; exact putSel_on (e := (9, 149, .bool true)) 4 rfl rfl (hon 9 (by kernel_rfl)) rfl
           have e151 : a.tmps[151]? = some (.bool true) := by rw [ha]; exact putSel_on (e := (11, 151, .bool true)) 6 rfl rfl (hon 11 (by kernel_rfl)) rfl
           replace ha := Aside0.mk ha
           have E := Aside0.mk Q_E
           have Ea := Aside0.mk (Q_Ea (hon 4 (by kernel_rfl)))
           have Eb := Aside0.mk (Q_Eb (hon 6 (by kernel_rfl)))
           refine value_ (w1 := w') (v := .bool true) (by rfl) rfl ?_ ?_
           · go_simp
             (try simp only [i64_w])
             try rfl
           refine hK.out _ _ ⟨va, vb, (by rw [ha.out]; exact putSel_upk 7 hb_ rfl rfl rfl), Q_E, Q_Ea, Q_Eb⟩
         refine steps_cons ?_ ?_
         · rintro b a w' ⟨va, vb, ha, Q_E, Q_Ea, Q_Eb⟩ hb_ hon hoff
           refine ⟨_, rfl, fun K hK => ?_⟩
           have e152 : a.tmps[152]? = some (.bool true) := by rw [ha]; exact putSel_on (e := (12, 152, .bool true)) 7 rfl rfl (hon 12 (by kernel_rfl)) rfl
           replace ha := Aside0.mk ha
           have E := Aside0.mk Q_E
           have Ea := Aside0.mk (Q_Ea (hon 4 (by kernel_rfl)))
           have Eb := Aside0.mk (Q_Eb (hon 6 (by kernel_rfl)))
           refine value_ (w1 := w') (v := .bool true) (by rfl) rfl ?_ ?_
           · go_simp
             (try simp only [i64_w])
             try rfl
           refine hK.out _ _ ⟨va, vb, (by rw [ha.out]; exact putSel_upk 8 hb_ rfl rfl rfl), Q_E, Q_Ea, Q_Eb⟩
         refine steps_cons ?_ ?_
         · rintro b a w' ⟨va, vb, ha, Q_E, Q_Ea, Q_Eb⟩ hb_ hon hoff
           refine ⟨_, rfl, fun K hK => ?_⟩
           have e18 : a.tmps[18]? = some (.slice (some ado) 1 co) := by rw [ha]; exact (putSel_off rfl).trans rfl
           have e153 : a.tmps[153]? = some (.bool true) := by rw [ha]; exact putSel_on (e := (13, 153, .bool true)) 8 rfl rfl (hon 13 (by kernel_rfl)) rfl
           replace ha := Aside0.mk ha
           have E := Aside0.mk Q_E
           have Ea := Aside0.mk (Q_Ea (hon 4 (by kernel_rfl)))
           have Eb := Aside0.mk (Q_Eb (hon 6 (by kernel_rfl)))
           refine value_ (w1 := w') (v := .slice (some ado) 1 co) (wanted_on rfl rfl rfl (e153.trans (by first | rfl | (simp [*]; done)))) rfl ?_ ?_
           · go_simp
             (try simp only [i64_w])
             try rfl
           refine hK.out _ _ ⟨va, vb, (by rw [ha.out]; exact putSel_upk 9 hb_ rfl rfl rfl), Q_E, Q_Ea, Q_Eb⟩
         refine steps_cons ?_ ?_
         · rintro b a w' ⟨va, vb, ha, Q_E, Q_Ea, Q_Eb⟩ hb_ hon hoff
           refine ⟨_, rfl, fun K hK => ?_⟩
           have e154 : a.tmps[154]? = some (.slice (some ado) 1 co) := by rw [ha]; exact putSel_on (e := (14, 154, .slice (some ado) 1 co)) 9 rfl rfl (hon 14 (by kernel_rfl)) rfl
           have e153 : a.tmps[153]? = some (.bool true) := by rw [ha]; exact putSel_on (e := (13, 153, .bool true)) 8 rfl rfl (hon 13 (by kernel_rfl)) rfl
           replace ha := Aside0.mk ha
           have E := Aside0.mk Q_E
           have Ea := Aside0.mk (Q_Ea (hon 4 (by kernel_rfl)))
           have Eb := Aside0.mk (Q_Eb (hon 6 (by kernel_rfl)))
           refine value_ (w1 := w') (v := .int .i64 1) (wanted_on rfl rfl rfl (e153.trans (by first | rfl | (simp [*]; done)))) rfl ?_ ?_
           · go_simp
             (try simp only [i64_w])
             try rfl
           refine hK.out _ _ ⟨va, vb, (by rw [ha.out]; exact putSel_upk 10 hb_ rfl rfl rfl), Q_E, Q_Ea, Q_Eb⟩
         refine steps_cons ?_ ?_
         · rintro b a w' ⟨va, vb, ha, Q_E, Q_Ea, Q_Eb⟩ hb_ hon hoff
           refine ⟨_, rfl, fun K hK => ?_⟩
           have e155 : a.tmps[155]? = some (.int .i64 1) := by rw [ha]; exact putSel_on (e := (15, 155, .int .i64 1)) 10 rfl rfl (hon 15 (by kernel_rfl)) rfl
           have e153 : a.tmps[153]? = some (.bool true) := by rw [ha]; exact putSel_on (e := (13, 153, .bool true)) 8 rfl rfl (hon 13 (by kernel_rfl)) rfl
           replace ha := Aside0.mk ha
           have E := Aside0.mk Q_E
           have Ea := Aside0.mk (Q_Ea (hon 4 (by kernel_rfl)))
           have Eb := Aside0.mk (Q_Eb (hon 6 (by kernel_rfl)))
           refine value_ (w1 := w') (v := .bool true) (wanted_on rfl rfl rfl (e153.trans (by first | rfl | (simp [*]; done)))) rfl ?_ ?_
           · go_simp
             (try simp only [i64_w])
             try rfl
           refine hK.out _ _ ⟨va, vb, (by rw [ha.out]; exact putSel_upk 11 hb_ rfl rfl rfl), Q_E, Q_Ea, Q_Eb⟩
         refine steps_cons ?_ ?_
         · rintro b a w' ⟨va, vb, ha, Q_E, Q_Ea, Q_Eb⟩ hb_ hon hoff
           refine ⟨_, rfl, fun K hK => ?_⟩
           have e153 : a.tmps[153]? = some (.bool true) := by rw [ha]; exact putSel_on (e := (13, 153, .bool true)) 8 rfl rfl (hon 13 (by kernel_rfl)) rfl
           have e156 : a.tmps[156]? = some (.bool true) := by rw [ha]; exact putSel_on (e := (16, 156, .bool true)) 11 rfl rfl (hon 16 (by kernel_rfl)) rfl
           replace ha := Aside0.mk ha
           have E := Aside0.mk Q_E
           have Ea := Aside0.mk (Q_Ea (hon 4 (by kernel_rfl)))
           have Eb := Aside0.mk (Q_Eb (hon 6 (by kernel_rfl)))
           refine value_ (w1 := w') (v := .bool true) (by rfl) rfl ?_ ?_
           · go_simp
             (try simp only [i64_w])
             try rfl
           refine hK.out _ _ ⟨va, vb, (by rw [ha.out]; exact putSel_upk 12 hb_ rfl rfl rfl), Q_E, Q_Ea, Q_Eb⟩
         refine steps_cons ?_ ?_
         · rintro b a w' ⟨va, vb, ha, Q_E, Q_Ea, Q_Eb⟩ hb_ hon hoff
           refine ⟨_, rfl, fun K hK => ?_⟩
           have e157 : a.tmps[157]? = some (.bool true) := by rw [ha]; exact putSel_on (e := (17, 157, .bool true)) 12 rfl rfl (hon 17 (by kernel_rfl)) rfl
           replace ha := Aside0.mk ha
           have E := Aside0.mk Q_E
           have Ea := Aside0.mk (Q_Ea (hon 4 (by kernel_rfl)))
           have Eb := Aside0.mk (Q_Eb (hon 6 (by kernel_rfl)))
           refine value_ (w1 := w') (v := .bool true) (by rfl) rfl ?_ ?_
           · go_simp
             (try simp only [i64_w])
             try rfl
           refine hK.out _ _ ⟨va, vb, (by rw [ha.out]; exact putSel_upk 13 hb_ rfl rfl rfl), Q_E, Q_Ea, Q_Eb⟩
         refine steps_cons ?_ ?_
         · rintro b a w' ⟨va, vb, ha, Q_E, Q_Ea, Q_Eb⟩ hb_ hon hoff
           refine ⟨_, rfl, fun K hK => ?_⟩
           have e18 : a.tmps[18]? = some (.slice (some ado) 1 co) := by rw [ha]; exact (putSel_off rfl).trans rfl
           have e158 : a.tmps[158]? = some (.bool true) := by rw [ha]; exact putSel_on (e := (18, 158, .bool true)) 13 rfl rfl (hon 18 (by kernel_rfl)) rfl
           replace ha := Aside0.mk ha
           have E := Aside0.mk Q_E
           have Ea := Aside0.mk (Q_Ea (hon 4 (by kernel_rfl)))
           have Eb := Aside0.mk (Q_Eb (hon 6 (by kernel_rfl)))
           refine value_ (w1 := w') (v := .slice (some ado) 1 co) (wanted_on rfl rfl rfl (e158.trans (by first | rfl | (simp [*]; done)))) rfl ?_ ?_
           · go_simp
             (try simp only [i64_w])
             try rfl
           refine hK.out _ _ ⟨va, vb, (by rw [ha.out]; exact putSel_upk 14 hb_ rfl rfl rfl), Q_E, Q_Ea, Q_Eb⟩
         refine steps_cons ?_ ?_
         · rintro b a w' ⟨va, vb, ha, Q_E, Q_Ea, Q_Eb⟩ hb_ hon hoff
           refine ⟨_, rfl, fun K hK => ?_⟩
           have e159 : a.tmps[159]? = some (.slice (some ado) 1 co) := by rw [ha]; exact putSel_on (e := (19, 159, .slice (some ado) 1 co)) 14 rfl rfl (hon 19 (by kernel_rfl)) rfl
           have e158 : a.tmps[158]? = some (.bool true) := by rw [ha]; exact putSel_on (e := (18, 158, .bool true)) 13 rfl rfl (hon 18 (by kernel_rfl)) rfl
           replace ha := Aside0.mk ha
           have E := Aside0.mk Q_E
           have Ea := Aside0.mk (Q_Ea (hon 4 (by kernel_rfl)))
           have Eb := Aside0.mk (Q_Eb (hon 6 (by kernel_rfl)))
           refine value_ (w1 := w') (v := .pointer (some ado)) (wanted_on rfl rfl rfl (e158.trans (by first | rfl | (simp [*]; done)))) rfl ?_ ?_
           · go_simp
             (try simp only [i64_w])
             try rfl
           refine hK.out _ _ ⟨va, vb, (by rw [ha.out]; exact putSel_upk 15 hb_ rfl rfl rfl), Q_E, Q_Ea, Q_Eb⟩
         refine steps_cons ?_ ?_
         · rintro b a w' ⟨va, vb, ha, Q_E, Q_Ea, Q_Eb⟩ hb_ hon hoff
           refine ⟨_, rfl, fun K hK => ?_⟩
           have e160 : a.tmps[160]? = some (.pointer (some ado)) := by rw [ha]; exact putSel_on (e := (20, 160, .pointer (some ado))) 15 rfl rfl (hon 20 (by kernel_rfl)) rfl
           have e158 : a.tmps[158]? = some (.bool true) := by rw [ha]; exact putSel_on (e := (18, 158, .bool true)) 13 rfl rfl (hon 18 (by kernel_rfl)) rfl
           replace ha := Aside0.mk ha
           have E := Aside0.mk Q_E
           have Ea := Aside0.mk (Q_Ea (hon 4 (by kernel_rfl)))
           have Eb := Aside0.mk (Q_Eb (hon 6 (by kernel_rfl)))
           refine value_ (w1 := w') (v := .pointer (some ⟨ado.block, ado.off + 1, none⟩)) (wanted_on rfl rfl rfl (e158.trans (by first | rfl | (simp [*]; done)))) rfl ?_ ?_
           · go_simp
             (try simp only [i64_w])
             try rfl
           refine hK.out _ _ ⟨va, vb, (by rw [ha.out]; exact putSel_upk 16 hb_ rfl rfl rfl), Q_E, Q_Ea, Q_Eb⟩
         refine steps_cons ?_ ?_
         · rintro b a w' ⟨va, vb, ha, Q_E, Q_Ea, Q_Eb⟩ hb_ hon hoff
           refine ⟨_, rfl, fun K hK => ?_⟩
           have e161 : a.tmps[161]? = some (.pointer (some ⟨ado.block, ado.off + 1, none⟩)) := by rw [ha]; exact putSel_on (e := (21, 161, .pointer (some ⟨ado.block, ado.off + 1, none⟩))) 16 rfl rfl (hon 21 (by kernel_rfl)) rfl
           have e158 : a.tmps[158]? = some (.bool true) := by rw [ha]; exact putSel_on (e := (18, 158, .bool true)) 13 rfl rfl (hon 18 (by kernel_rfl)) rfl
           replace ha := Aside0.mk ha
           have E := Aside0.mk Q_E
           have Ea := Aside0.mk (Q_Ea (hon 4 (by kernel_rfl)))
           have Eb := Aside0.mk (Q_Eb (hon 6 (by kernel_rfl)))
           have hc_ := (E.out.cell (World.block_lt_of_cell? _ _ ho1d)).trans ho1d
           refine value_ (w1 := w') (v := .slice G1 x.length v1) (wanted_on rfl rfl rfl (e158.trans (by first | rfl | (simp [*]; done)))) rfl ?_ ?_
           · go_simp
             (try simp only [i64_w])
             try rfl
           refine hK.out _ _ ⟨va, vb, (by rw [ha.out]; exact putSel_upk 17 hb_ rfl rfl rfl), Q_E, Q_Ea, Q_Eb⟩
         refine steps_cons ?_ ?_
         · rintro b a w' ⟨va, vb, ha, Q_E, Q_Ea, Q_Eb⟩ hb_ hon hoff
           refine ⟨_, rfl, fun K hK => ?_⟩
           have e162 : a.tmps[162]? = some (.slice G1 x.length v1) := by rw [ha]; exact putSel_on (e := (22, 162, .slice G1 x.length v1)) 17 rfl rfl (hon 22 (by kernel_rfl)) rfl
           have e158 : a.tmps[158]? = some (.bool true) := by rw [ha]; exact putSel_on (e := (18, 158, .bool true)) 13 rfl rfl (hon 18 (by kernel_rfl)) rfl
           replace ha := Aside0.mk ha
           have E := Aside0.mk Q_E
           have Ea := Aside0.mk (Q_Ea (hon 4 (by kernel_rfl)))
           have Eb := Aside0.mk (Q_Eb (hon 6 (by kernel_rfl)))
           have hcv_ := Kd.C_string (P := Tryd.prog) (c := v1) Tryd.underlying22 Tryd.underlying5 Tryd.underlying9 (Kd.C_below FD.out.2.2.2.2 E.out)
           refine value_ (w1 := w') (v := .string (strOfNums x)) (wanted_on rfl rfl rfl (e158.trans (by first | rfl | (simp [*]; done)))) rfl ?_ ?_
           · go_simp
             (try simp only [i64_w])
             try rfl
           refine hK.out _ _ ⟨va, vb, (by rw [ha.out]; exact putSel_upk 18 hb_ rfl rfl rfl), Q_E, Q_Ea, Q_Eb⟩
         refine steps_cons ?_ ?_
         · rintro b a w' ⟨va, vb, ha, Q_E, Q_Ea, Q_Eb⟩ hb_ hon hoff
           refine ⟨_, rfl, fun K hK => ?_⟩
           have e7 : a.tmps[7]? = some (.slice AX x.length cX) := by rw [ha]; exact (putSel_off rfl).trans rfl
           have e158 : a.tmps[158]? = some (.bool true) := by rw [ha]; exact putSel_on (e := (18, 158, .bool true)) 13 rfl rfl (hon 18 (by kernel_rfl)) rfl
           replace ha := Aside0.mk ha
           have E := Aside0.mk Q_E
           have Ea := Aside0.mk (Q_Ea (hon 4 (by kernel_rfl)))
           have Eb := Aside0.mk (Q_Eb (hon 6 (by kernel_rfl)))
           refine value_ (w1 := w') (v := .slice AX x.length cX) (wanted_on rfl rfl rfl (e158.trans (by first | rfl | (simp [*]; done)))) rfl ?_ ?_
           · go_simp
             (try simp only [i64_w])
             try rfl
           refine hK.out _ _ ⟨va, vb, (by rw [ha.out]; exact putSel_upk 19 hb_ rfl rfl rfl), Q_E, Q_Ea, Q_Eb⟩
         refine steps_cons ?_ ?_
         · rintro b a w' ⟨va, vb, ha, Q_E, Q_Ea, Q_Eb⟩ hb_ hon hoff
           refine ⟨_, rfl, fun K hK => ?_⟩
           have e164 : a.tmps[164]? = some (.slice AX x.length cX) := by rw [ha]; exact putSel_on (e := (24, 164, .slice AX x.length cX)) 19 rfl rfl (hon 24 (by kernel_rfl)) rfl
           have e158 : a.tmps[158]? = some (.bool true) := by rw [ha]; exact putSel_on (e := (18, 158, .bool true)) 13 rfl rfl (hon 18 (by kernel_rfl)) rfl
           replace ha := Aside0.mk ha
           have E := Aside0.mk Q_E
           have Ea := Aside0.mk (Q_Ea (hon 4 (by kernel_rfl)))
           have Eb := Aside0.mk (Q_Eb (hon 6 (by kernel_rfl)))
           have hcv_ := Kd.C_string (P := Tryd.prog) (c := cX) Tryd.underlying22 Tryd.underlying5 Tryd.underlying9 (Kd.C_below FD.out.1 E.out)
           refine value_ (w1 := w') (v := .string (strOfNums x)) (wanted_on rfl rfl rfl (e158.trans (by first | rfl | (simp [*]; done)))) rfl ?_ ?_
           · go_simp
             (try simp only [i64_w])
             try rfl
           refine hK.out _ _ ⟨va, vb, (by rw [ha.out]; exact putSel_upk 20 hb_ rfl rfl rfl), Q_E, Q_Ea, Q_Eb⟩
         refine steps_cons ?_ ?_
         · rintro b a w' ⟨va, vb, ha, Q_E, Q_Ea, Q_Eb⟩ hb_ hon hoff
           refine ⟨_, rfl, fun K hK => ?_⟩
           have e163 : a.tmps[163]? = some (.string (strOfNums x)) := by rw [ha]; exact putSel_on (e := (23, 163, .string (strOfNums x))) 18 rfl rfl (hon 23 (by kernel_rfl)) rfl
           have e165 : a.tmps[165]? = some (.string (strOfNums x)) := by rw [ha]; exact putSel_on (e := (25, 165, .string (strOfNums x))) 20 rfl rfl (hon 25 (by kernel_rfl)) rfl
           have e158 : a.tmps[158]? = some (.bool true) := by rw [ha]; exact putSel_on (e := (18, 158, .bool true)) 13 rfl rfl (hon 18 (by kernel_rfl)) rfl
           replace ha := Aside0.mk ha
           have E := Aside0.mk Q_E
           have Ea := Aside0.mk (Q_Ea (hon 4 (by kernel_rfl)))
           have Eb := Aside0.mk (Q_Eb (hon 6 (by kernel_rfl)))
           refine value_ (w1 := w') (v := .bool true) (wanted_on rfl rfl rfl (e158.trans (by first | rfl | (simp [*]; done)))) rfl ?_ ?_
           · go_simp
             (try simp only [i64_w])
             try rfl
           refine hK.out _ _ ⟨va, vb, (by rw [ha.out]; exact putSel_upk 21 hb_ rfl rfl rfl), Q_E, Q_Ea, Q_Eb⟩
         refine steps_cons ?_ ?_
         · rintro b a w' ⟨va, vb, ha, Q_E, Q_Ea, Q_Eb⟩ hb_ hon hoff
           refine ⟨_, rfl, fun K hK => ?_⟩
           have e158 : a.tmps[158]? = some (.bool true) := by rw [ha]; exact putSel_on (e := (18, 158, .bool true)) 13 rfl rfl (hon 18 (by kernel_rfl)) rfl
           have e166 : a.tmps[166]? = some (.bool true) := by rw [ha]; exact putSel_on (e := (26, 166, .bool true)) 21 rfl rfl (hon 26 (by kernel_rfl)) rfl
           replace ha := Aside0.mk ha
           have E := Aside0.mk Q_E
           have Ea := Aside0.mk (Q_Ea (hon 4 (by kernel_rfl)))
           have Eb := Aside0.mk (Q_Eb (hon 6 (by kernel_rfl)))
           refine value_ (w1 := w') (v := .bool true) (by rfl) rfl ?_ ?_
           · go_simp
             (try simp only [i64_w])
             try rfl
           refine hK.out _ _ ⟨va, vb, (by rw [ha.out]; exact putSel_upk 22 hb_ rfl rfl rfl), Q_E, Q_Ea, Q_Eb⟩
         refine steps_cons ?_ ?_
         · rintro b a w' ⟨va, vb, ha, Q_E, Q_Ea, Q_Eb⟩ hb_ hon hoff
           refine ⟨_, rfl, fun K hK => ?_⟩
           have e167 : a.tmps[167]? = some (.bool true) := by rw [ha]; exact putSel_on (e := (27, 167, .bool true)) 22 rfl rfl (hon 27 (by kernel_rfl)) rfl
           replace ha := Aside0.mk ha
           have E := Aside0.mk Q_E
           have Ea := Aside0.mk (Q_Ea (hon 4 (by kernel_rfl)))
           have Eb := Aside0.mk (Q_Eb (hon 6 (by kernel_rfl)))
           refine value_ (w1 := w') (v := .bool true) (by rfl) rfl ?_ ?_
           · go_simp
             (try simp only [i64_w])
             try rfl
           refine hK.out _ _ ⟨va, vb, (by rw [ha.out]; exact putSel_upk 23 hb_ rfl rfl rfl), Q_E, Q_Ea, Q_Eb⟩
         exact steps_nil
       · rintro b a w' hall ⟨va, vb, ha, Q_E, Q_Ea, Q_Eb⟩
         clear E
         have hb4_ := hall 4 (by kernel_rfl)
         have hb6_ := hall 6 (by kernel_rfl)
         have hb7_ := hall 7 (by kernel_rfl)
         have hb8_ := hall 8 (by kernel_rfl)
         have hb9_ := hall 9 (by kernel_rfl)
         have hb10_ := hall 10 (by kernel_rfl)
         have hb11_ := hall 11 (by kernel_rfl)
         have hb12_ := hall 12 (by kernel_rfl)
         have hb13_ := hall 13 (by kernel_rfl)
         have hb14_ := hall 14 (by kernel_rfl)
         have hb15_ := hall 15 (by kernel_rfl)
         have hb16_ := hall 16 (by kernel_rfl)
         have hb17_ := hall 17 (by kernel_rfl)
         have hb18_ := hall 18 (by kernel_rfl)
         have hb19_ := hall 19 (by kernel_rfl)
         have hb20_ := hall 20 (by kernel_rfl)
         have hb21_ := hall 21 (by kernel_rfl)
         have hb22_ := hall 22 (by kernel_rfl)
         have hb23_ := hall 23 (by kernel_rfl)
         have hb24_ := hall 24 (by kernel_rfl)
         have hb25_ := hall 25 (by kernel_rfl)
         have hb26_ := hall 26 (by kernel_rfl)
         have hb27_ := hall 27 (by kernel_rfl)
         have hb28_ := hall 28 (by kernel_rfl)
         subst ha
         simp only [putSel, hb4_, hb6_, hb7_, hb8_, hb9_, hb10_, hb11_, hb12_, hb13_, hb14_, hb15_, hb16_, hb17_, hb18_, hb19_, hb20_, hb21_, hb22_, hb23_, hb24_, hb25_, hb26_, hb27_, hb28_, if_true, Act.put, List.setIfInBounds_toArray, List.set_cons_zero, List.set_cons_succ]
         have E := Aside0.mk Q_E
         clear Q_E
         have Ea := Aside0.mk (Q_Ea hb4_)
         clear Q_Ea
         have Eb := Aside0.mk (Q_Eb hb6_)
         clear Q_Eb
         clear hall hb4_ hb6_ hb7_ hb8_ hb9_ hb10_ hb11_ hb12_ hb13_ hb14_ hb15_ hb16_ hb17_ hb18_ hb19_ hb20_ hb21_ hb22_ hb23_ hb24_ hb25_ hb26_ hb27_ hb28_
         have HB := Aside0.mk (FD.out.2.1.trans (below_lo E.out FD.out.2.1.size))
         go_wp2
         go_ret
         exact ⟨rfl, HB.out⟩
     | false =>
       cases qr with
       | true =>
         go_upto_region 14 with (fail)
         have hbj : bo = jt := by
           rw [hgl.out, ← hjt.out, HLM.out.1, HLM.out.2.1]
           simp [glue, hpr.out, hqr.out]
         subst hbj
         have FT := Aside0.mk (⟨F9.out.1, F9.out.2.1, F9.out.2.2.2.2, HJ.out.2.1⟩ : _ ∧ _ ∧ _ ∧ _)
         have HJc := Aside0.mk HJ.out.1
         replace hp0 := Aside0.mk hp0
         replace hq0 := Aside0.mk hq0
         go_upto_region 15 with (first | (go_at_call 16; refine (mark_Length.calls kL 1 (some ⟨wJ.heap.size, 0, none⟩) 1 [x] LN _ (lit_rows (heap_alloc_new wJ _) HX.out.1 (Kd.C_below FT.out.1 (below_alloc (Below.refl _ _) _))) (Nat.le_refl _) hkL.out).mono ?_; rintro e_ wL ⟨rfl, hb_⟩; have hz_ := (below_alloc (Below.refl _ _) _).trans (below_lo hb_ (by simp)); have FL := Aside0.mk (⟨Kd.C_below FT.out.1 hz_, FT.out.2.1.trans (below_lo hz_ FT.out.2.1.size), Kd.C_below FT.out.2.2.1 hz_, Kd.C_below FT.out.2.2.2 hz_⟩ : _ ∧ _ ∧ _ ∧ _); clear hb_ hz_) | (go_at_call 9; refine (hR4.out wL FL.out.1).mono ?_; rintro e_ wO ⟨Ao, co, rfl, hc_, hC_, hb_⟩; have FO := Aside0.mk (⟨Kd.C_below FL.out.1 hb_, FL.out.2.1.trans (below_lo hb_ FL.out.2.1.size), Kd.C_below FL.out.2.2.1 hb_, Kd.C_below FL.out.2.2.2 hb_, hC_⟩ : _ ∧ _ ∧ _ ∧ _ ∧ _); clear hc_ hC_ hb_))
         obtain ⟨ado, x', G1, v1, G2, v2, G3, v3, G4, v4, eA_, hx', _, ho0, ho1, ho2, ho3, ho4, gg1, _⟩ := at_Pt (Kd.C_F kP_heap FO.out.2.2.2.2) 0 (Int.le_refl _) (by simp)
         subst eA_
         obtain rfl : (⟨false, x, [], [], []⟩ : Pt) = x' := Option.some.inj hx'
         have eo0_ : ado.add ((0 : Int).toNat * 5) = ado := by simp [Addr.add]
         rw [eo0_] at ho1
         simp only at ho1 gg1
         have hgC := Aside0.mk (Kd.F_now gg1.2)
         have FD := Aside0.mk (⟨Kd.C_below FO.out.1 (below_drew1 (Below.refl wO.heap.size wO)), FO.out.2.1.trans (below_lo (below_drew1 (Below.refl wO.heap.size wO)) FO.out.2.1.size), Kd.C_below FO.out.2.2.1 (below_drew1 (Below.refl wO.heap.size wO)), Kd.C_below FO.out.2.2.2.1 (below_drew1 (Below.refl wO.heap.size wO)), Kd.C_below hgC.out (below_drew1 (Below.refl wO.heap.size wO))⟩ : _ ∧ _ ∧ _ ∧ _ ∧ _)
         have ho1d : wO.drew.cell? ⟨ado.block, ado.off + 1, none⟩ = some (.slice G1 x.length v1) := ho1
         clear ho0 ho1 ho2 ho3 ho4 gg1 hx' eo0_ hgC
         have E0 := trivial
         refine start_ (n := 29) (S := fun w' => True) (ds := []) #[false, false, false, false, false, false, false, false, false, false, false, false, false, false, false, false, false, false, false, false, false, false, false, false, false, false, false, false, false] (by kernel_rfl) rfl rfl trivial (fun hHeld => ?_)
         refine with_tabW mmov.tab15 mmov.bits15 (fun HT_ HW_ => ?_)
         have E := trivial
         generalize wO.drew = wd at FD ho1d hHeld ⊢
         refine pure_ (i := 0) (N := some 140) (v := ?_) (a' := ?_) #[true, false, false, false, false, false, false, false, false, false, false, false, false, false, false, false, false, false, false, false, false, false, false, false, false, false, false, false, false] rfl rfl (any_of HT_.out (by kernel_rfl)) (fun _ _ _ h => h) (Or.inl ⟨by rfl, ?_⟩) ?_ ?_
         rotate_left
         · intro w'
           go_simp
           with_reducible rfl
         rotate_left
         · simp only [Act.put, List.setIfInBounds_toArray, List.set_cons_zero, List.set_cons_succ, i64_w, i32_w]
           rfl
         refine pure_ (i := 1) (N := some 141) (v := ?_) (a' := ?_) #[true, true, false, false, false, false, false, false, false, false, false, false, false, false, false, false, false, false, false, false, false, false, false, false, false, false, false, false, false] rfl rfl (any_of HT_.out (by kernel_rfl)) (fun _ _ _ h => h) (Or.inl ⟨by rfl, ?_⟩) ?_ ?_
         rotate_left
         · intro w'
           go_simp
           with_reducible rfl
         rotate_left
         · simp only [Act.put, List.setIfInBounds_toArray, List.set_cons_zero, List.set_cons_succ, i64_w, i32_w]
           rfl
         refine pure_ (i := 2) (N := some 142) (v := ?_) (a' := ?_) #[true, true, true, false, false, false, false, false, false, false, false, false, false, false, false, false, false, false, false, false, false, false, false, false, false, false, false, false, false] rfl rfl (any_of HT_.out (by kernel_rfl)) (fun _ _ _ h => h) (Or.inl ⟨by rfl, ?_⟩) ?_ ?_
         rotate_left
         · intro w'
           go_simp
           with_reducible rfl
         rotate_left
         · simp only [Act.put, List.setIfInBounds_toArray, List.set_cons_zero, List.set_cons_succ, i64_w, i32_w]
           rfl
         refine pure_ (i := 3) (N := some 143) (v := ?_) (a' := ?_) #[true, true, true, true, false, false, false, false, false, false, false, false, false, false, false, false, false, false, false, false, false, false, false, false, false, false, false, false, false] rfl rfl (any_of HT_.out (by kernel_rfl)) (fun _ _ _ h => h) (Or.inl ⟨by rfl, ?_⟩) ?_ ?_
         rotate_left
         · intro w'
           go_simp
           with_reducible rfl
         rotate_left
         · simp only [Act.put, List.setIfInBounds_toArray, List.set_cons_zero, List.set_cons_succ, i64_w, i32_w]
           rfl
         refine pure_ (i := 5) (N := some 145) (v := ?_) (a' := ?_) #[true, true, true, true, false, true, false, false, false, false, false, false, false, false, false, false, false, false, false, false, false, false, false, false, false, false, false, false, false] rfl rfl (any_of HT_.out (by kernel_rfl)) (fun _ _ _ h => h) (Or.inl ⟨by rfl, ?_⟩) ?_ ?_
         rotate_left
         · intro w'
           go_simp
           with_reducible rfl
         rotate_left
         · simp only [Act.put, List.setIfInBounds_toArray, List.set_cons_zero, List.set_cons_succ, i64_w, i32_w]
           rfl
         refine inv_at [4, 6, 7, 8, 9, 10, 11, 12, 13, 14, 15, 16, 17, 18, 19, 20, 21, 22, 23, 24, 25, 26, 27, 28] (fun a0_ b a w' => ∃ (va : Value) (vb : Value), a = putSel a0_ b [(4, 144, va), (6, 146, vb), (7, 147, .bool true), (8, 148, .bool true), (9, 149, .bool true), (10, 150, .int .i64 0), (11, 151, .bool true), (12, 152, .bool true), (13, 153, .bool true), (14, 154, .slice (some ado) 1 co), (15, 155, .int .i64 1), (16, 156, .bool true), (17, 157, .bool true), (18, 158, .bool true), (19, 159, .slice (some ado) 1 co), (20, 160, .pointer (some ado)), (21, 161, .pointer (some ⟨ado.block, ado.off + 1, none⟩)), (22, 162, .slice G1 x.length v1), (23, 163, .string (strOfNums x)), (24, 164, .slice AX x.length cX), (25, 165, .string (strOfNums x)), (26, 166, .bool true), (27, 167, .bool true), (28, 6, .bool true)] ∧ (Below wd.heap.size wd w') ∧ (b 4 = true → (∃ (A : Option Addr) (c : Nat), va = .slice A bo.length c ∧ Kd.C kP w' A bo.length bo)) ∧ (b 6 = true → (∃ (A : Option Addr) (c : Nat), vb = .slice A bo.length c ∧ Kd.C kP w' A bo.length bo))) HT_.out HW_.out (by kernel_rfl) (by kernel_rfl) ?_ ?_ ?_
         · exact ⟨.bool false, .bool false, by simp only [putSel, Bool.false_eq_true, if_false], Below.refl _ _, fun h_ => absurd h_ (by decide), fun h_ => absurd h_ (by decide)⟩
         · skip
           clear E
           refine steps_cons ?_ ?_
           · rintro b a w' ⟨va, vb, ha, Q_E, Q_Ea, Q_Eb⟩ hb_ hon hoff
             refine ⟨_, rfl, fun K hK => ?_⟩
             have e143 : a.tmps[143]? = some (.slice Ab bo.length cb) := by rw [ha]; exact (putSel_off rfl).trans rfl
             have e142 : a.tmps[142]? = some (.bool true) := by rw [ha]; exact (putSel_off rfl).trans rfl
             replace ha := Aside0.mk ha
             have E := Aside0.mk Q_E
             refine goes_ Tryd.func13 (by kernel_rfl) rfl #[.slice Ab bo.length cb] (wanted_on rfl rfl rfl (e142.trans (by first | rfl | (simp [*]; done)))) rfl rfl (by first | (simp only [List.map_toArray, List.map_cons, List.map_nil, Act.eval, Array.getD_eq_getD_getElem?, Option.getD_some, e143, e142]; done) | (simp only [List.map_toArray, List.map_cons, List.map_nil, Act.eval, Array.getD_eq_getD_getElem?, Option.getD_some, e143, e142]; rfl)) ?_
             refine (as_calls Ab cb bo _ (Kd.C_below FD.out.2.2.1 E.out) F7.out.2.2.2.2.2.2.1 (by have := HL.out.2.2.2.2.2; omega)).mono ?_
             rintro e w24 ⟨A5_, c5_, rfl, hc5_, hC5_, hb⟩
             refine ⟨_, rfl, ?_⟩
             have E3_ := below_step E.out hb
             have S3_ : (∃ (A : Option Addr) (c : Nat), (Value.slice A5_ bo.length c5_) = .slice A bo.length c ∧ Kd.C kP w24 A bo.length bo) := ⟨A5_, c5_, rfl, hC5_⟩
             refine hK.out _ _ ⟨(.slice A5_ bo.length c5_), vb, (by rw [ha.out]; exact putSel_upk 0 hb_ rfl rfl rfl), E3_, fun _ => S3_, fun h0_ => absurd ((hoff 6 (by kernel_rfl)).symm.trans h0_) (by decide)⟩
           refine steps_cons ?_ ?_
           · rintro b a w' ⟨va, vb, ha, Q_E, Q_Ea, Q_Eb⟩ hb_ hon hoff
             refine ⟨_, rfl, fun K hK => ?_⟩
             have e145 : a.tmps[145]? = some (.slice AJ bo.length cJ) := by rw [ha]; exact (putSel_off rfl).trans rfl
             have e142 : a.tmps[142]? = some (.bool true) := by rw [ha]; exact (putSel_off rfl).trans rfl
             replace ha := Aside0.mk ha
             have E := Aside0.mk Q_E
             have Ea := Aside0.mk (Q_Ea (hon 4 (by kernel_rfl)))
             refine goes_ Tryd.func13 (by kernel_rfl) rfl #[.slice AJ bo.length cJ] (wanted_on rfl rfl rfl (e142.trans (by first | rfl | (simp [*]; done)))) rfl rfl (by first | (simp only [List.map_toArray, List.map_cons, List.map_nil, Act.eval, Array.getD_eq_getD_getElem?, Option.getD_some, e145, e142]; done) | (simp only [List.map_toArray, List.map_cons, List.map_nil, Act.eval, Array.getD_eq_getD_getElem?, Option.getD_some, e145, e142]; rfl)) ?_
             refine (as_calls AJ cJ bo _ (Kd.C_below FD.out.2.2.2.1 E.out) HJc.out (by have := HL.out.2.2.2.2.2; omega)).mono ?_
             rintro e w24 ⟨A5_, c5_, rfl, hc5_, hC5_, hb⟩
             refine ⟨_, rfl, ?_⟩
             have E3_ := below_step E.out hb
             have S3_ : (∃ (A : Option Addr) (c : Nat), (Value.slice A5_ bo.length c5_) = .slice A bo.length c ∧ Kd.C kP w24 A bo.length bo) := ⟨A5_, c5_, rfl, hC5_⟩
             refine hK.out _ _ ⟨va, (.slice A5_ bo.length c5_), (by rw [ha.out]; exact putSel_upk 1 hb_ rfl rfl rfl), E3_, fun _ => (let ⟨A_, c_, e_, h_⟩ := Ea.out; ⟨A_, c_, e_, Kd.C_below h_ hb⟩), fun _ => S3_⟩
           refine steps_cons ?_ ?_
           · rintro b a w' ⟨va, vb, ha, Q_E, Q_Ea, Q_Eb⟩ hb_ hon hoff
             refine ⟨_, rfl, fun K hK => ?_⟩
             have e144 : a.tmps[144]? = some (va) := by rw [ha]; exact putSel_on (e := (4, 144, va)) 0 rfl rfl (hon 4 (by kernel_rfl)) rfl
             have e146 : a.tmps[146]? = some (vb) := by rw [ha]; exact putSel_on (e := (6, 146, vb)) 1 rfl rfl (hon 6 (by kernel_rfl)) rfl
             have e142 : a.tmps[142]? = some (.bool true) := by rw [ha]; exact (putSel_off rfl).trans rfl
             replace ha := Aside0.mk ha
             have E := Aside0.mk Q_E
             have Ea := Aside0.mk (Q_Ea (hon 4 (by kernel_rfl)))
             have Eb := Aside0.mk (Q_Eb (hon 6 (by kernel_rfl)))
             obtain ⟨Aa_, ca_, ea_, hCa_⟩ := Ea.out
             obtain ⟨Ab_, cb_, eb_, hCb_⟩ := Eb.out
             rw [ea_] at e144
             rw [eb_] at e146
             refine goes_ Tryd.func12 (by kernel_rfl) rfl #[.slice Aa_ bo.length ca_, .slice Ab_ bo.length cb_] (wanted_on rfl rfl rfl (e142.trans (by first | rfl | (simp [*]; done)))) rfl rfl (by first | (simp only [List.map_toArray, List.map_cons, List.map_nil, Act.eval, Array.getD_eq_getD_getElem?, Option.getD_some, e144, e146, e142]; done) | (simp only [List.map_toArray, List.map_cons, List.map_nil, Act.eval, Array.getD_eq_getD_getElem?, Option.getD_some, e144, e146, e142]; rfl)) ?_
             refine (same_calls Aa_ Ab_ ca_ cb_ bo _ hCa_ hCb_).mono ?_
             rintro e w24 ⟨rfl, hb⟩
             refine ⟨_, rfl, ?_⟩
             have E3_ := below_step E.out hb
             have Sa_ : (∃ (A : Option Addr) (c : Nat), va = .slice A bo.length c ∧ Kd.C kP w24 A bo.length bo) := ⟨Aa_, ca_, ea_, Kd.C_below hCa_ hb⟩
             have Sb_ : (∃ (A : Option Addr) (c : Nat), vb = .slice A bo.length c ∧ Kd.C kP w24 A bo.length bo) := ⟨Ab_, cb_, eb_, Kd.C_below hCb_ hb⟩
             refine hK.out _ _ ⟨va, vb, (by rw [ha.out]; exact putSel_upk 2 hb_ rfl rfl rfl), E3_, fun _ => Sa_, fun _ => Sb_⟩
           refine steps_cons ?_ ?_
           · rintro b a w' ⟨va, vb, ha, Q_E, Q_Ea, Q_Eb⟩ hb_ hon hoff
             refine ⟨_, rfl, fun K hK => ?_⟩
             have e142 : a.tmps[142]? = some (.bool true) := by rw [ha]; exact (putSel_off rfl).trans rfl
             have e147 : a.tmps[147]? = some (.bool true) := by rw [ha]; exact putSel_on (e := (7, 147, .bool true)) 2 rfl rfl (hon 7 (by kernel_rfl)) rfl
             replace ha := Aside0.mk ha
             have E := Aside0.mk Q_E
             have Ea := Aside0.mk (Q_Ea (hon 4 (by kernel_rfl)))
             have Eb := Aside0.mk (Q_Eb (hon 6 (by kernel_rfl)))
             refine value_ (w1 := w') (v := .bool true) (by rfl) rfl ?_ ?_
             · go_simp
               (try simp only [i64_w])
               try rfl
             refine hK.out _ _ ⟨va, vb, (by rw [ha.out]; exact putSel_upk 3 hb_ rfl rfl rfl), Q_E, Q_Ea, Q_Eb⟩
           refine steps_cons ?_ ?_
           · rintro b a w' ⟨va, vb, ha, Q_E, Q_Ea, Q_Eb⟩ hb_ hon hoff
             refine ⟨_, rfl, fun K hK => ?_⟩
             have e148 : a.tmps[148]? = some (.bool true) := by rw [ha]; exact putSel_on (e := (8, 148, .bool true)) 3 rfl rfl (hon 8 (by kernel_rfl)) rfl
             replace ha := Aside0.mk ha
             have E := Aside0.mk Q_E
             have Ea := Aside0.mk (Q_Ea (hon 4 (by kernel_rfl)))
             have Eb := Aside0.mk (Q_Eb (hon 6 (by kernel_rfl)))
             refine value_ (w1 := w') (v := .bool true) (by rfl) rfl ?_ ?_
             · go_simp
               (try simp only [i64_w])
               try rfl
             refine hK.out _ _ ⟨va, vb, (by rw [ha.out]; exact putSel_upk 4 hb_ rfl rfl rfl), Q_E, Q_Ea, Q_Eb⟩
           refine steps_cons ?_ ?_
           · rintro b a w' ⟨va, vb, ha, Q_E, Q_Ea, Q_Eb⟩ hb_ hon hoff
             refine ⟨_, rfl, fun K hK => ?_⟩
             have e19 : a.tmps[19]? = some (.int .i64 0) := by rw [ha]; exact (putSel_off rfl).trans rfl
             have e149 : a.tmps[149]? = some (.bool true) := by rw [ha]; exact putSel_on (e := (9, 149, .bool true)) 4 rfl rfl (hon 9 (by kernel_rfl)) rfl
             replace ha := Aside0.mk ha
             have E := Aside0.mk Q_E
             have Ea := Aside0.mk (Q_Ea (hon 4 (by kernel_rfl)))
             have Eb := Aside0.mk (Q_Eb (hon 6 (by kernel_rfl)))
             refine value_ (w1 := w') (v := .int .i64 0) (wanted_on rfl rfl rfl (e149.trans (by first | rfl | (simp [*]; done)))) rfl ?_ ?_
             · go_simp
               (try simp only [i64_w])
               try rfl
             refine hK.out _ _ ⟨va, vb, (by rw [ha.out]; exact putSel_upk 5 hb_ rfl rfl rfl), Q_E, Q_Ea, Q_Eb⟩
           refine steps_cons ?_ ?_
           · rintro b a w' ⟨va, vb, ha, Q_E, Q_Ea, Q_Eb⟩ hb_ hon hoff
             refine ⟨_, rfl, fun K hK => ?_⟩
             have e150 : a.tmps[150]? = some (.int .i64 0) := by rw [ha]; exact putSel_on (e := (10, 150, .int .i64 0)) 5 rfl rfl (hon 10 (by kernel_rfl)) rfl
             have e149 : a.tmps[149]? = some (.bool true) := by rw [ha]; exact putSel_on (e := (9, 149, .bool true)) 4 rfl rfl (hon 9 (by kernel_rfl)) rfl
             replace ha := Aside0.mk ha
             have E := Aside0.mk Q_E
             have Ea := Aside0.mk (Q_Ea (hon 4 (by kernel_rfl)))
             have Eb := Aside0.mk (Q_Eb (hon 6 (by kernel_rfl)))
             refine value_ (w1 := w') (v := .bool true) (wanted_on rfl rfl rfl (e149.trans (by first | rfl | (simp [*]; done)))) rfl ?_ ?_
             · go_simp
               (try simp only [i64_w])
               try rfl
             refine hK.out _ _ ⟨va, vb, (by rw [ha.out]; exact putSel_upk 6 hb_ rfl rfl rfl), Q_E, Q_Ea, Q_Eb⟩
           refine steps_cons ?_ ?_
           · rintro b a w' ⟨va, vb, ha, Q_E, Q_Ea, Q_Eb⟩ hb_ hon hoff
             refine ⟨_, rfl, fun K hK => ?_⟩
             have e149 : a.tmps[149]? = some (.bool true) := by rw [ha]; exact putSel_on (e := (9, 149, .bool true)) 4 rfl rfl (hon 9 (by kernel_rfl)) rfl
             have e151 : a.tmps[151]? = some (.bool true) := by rw [ha]; exact putSel_on (e := (11, 151, .bool true)) 6 rfl rfl (hon 11 (by kernel_rfl)) rfl
             replace ha := Aside0.mk ha
             have E := Aside0.mk Q_E
             have Ea := Aside0.mk (Q_Ea (hon 4 (by kernel_rfl)))
             have Eb := Aside0.mk (Q_Eb (hon 6 (by kernel_rfl)))
             refine value_ (w1 := w') (v := .bool true) (by rfl) rfl ?_ ?_
             · go_simp
               (try simp only [i64_w])
               try rfl
             refine hK.out _ _ ⟨va, vb, (by rw [ha.out]; exact putSel_upk 7 hb_ rfl rfl rfl), Q_E, Q_Ea, Q_Eb⟩
           refine steps_cons ?_ ?_
           · rintro b a w' ⟨va, vb, ha, Q_E, Q_Ea, Q_Eb⟩ hb_ hon hoff
             refine ⟨_, rfl, fun K hK => ?_⟩
             have e152 : a.tmps[152]? = some (.bool true) := by rw [ha]; exact putSel_on (e := (12, 152, .bool true)) 7 rfl rfl (hon 12 (by kernel_rfl)) rfl
             replace ha := Aside0.mk ha
             have E := Aside0.mk Q_E
             have Ea := Aside0.mk (Q_Ea (hon 4 (by kernel_rfl)))
             have Eb := Aside0.mk (Q_Eb (hon 6 (by kernel_rfl)))
             refine value_ (w1 := w') (v := .bool true) (by rfl) rfl ?_ ?_
             · go_simp
               (try simp only [i64_w])
               try rfl
             refine hK.out _ _ ⟨va, vb, (by rw [ha.out]; exact putSel_upk 8 hb_ rfl rfl rfl), Q_E, Q_Ea, Q_Eb⟩
           refine steps_cons ?_ ?_
           · rintro b a w' ⟨va, vb, ha, Q_E, Q_Ea, Q_Eb⟩ hb_ hon hoff
             refine ⟨_, rfl, fun K hK => ?_⟩
             have e18 : a.tmps[18]? = some (.slice (some ado) 1 co) := by rw [ha]; exact (putSel_off rfl).trans rfl
             have e153 : a.tmps[153]? = some (.bool true) := by rw [ha]; exact putSel_on (e := (13, 153, .bool true)) 8 rfl rfl (hon 13 (by kernel_rfl)) rfl
             replace ha := Aside0.mk ha
             have E := Aside0.mk Q_E
             have Ea := Aside0.mk (Q_Ea (hon 4 (by kernel_rfl)))
             have Eb := Aside0.mk (Q_Eb (hon 6 (by kernel_rfl)))
             refine value_ (w1 := w') (v := .slice (some ado) 1 co) (wanted_on rfl rfl rfl (e153.trans (by first | rfl | (simp [*]; done)))) rfl ?_ ?_
             · go_simp
               (try simp only [i64_w])
               try rfl
             refine hK.out _ _ ⟨va, vb, (by rw [ha.out]; exact putSel_upk 9 hb_ rfl rfl rfl), Q_E, Q_Ea, Q_Eb⟩
           refine steps_cons ?_ ?_
           · rintro b a w' ⟨va, vb, ha, Q_E, Q_Ea, Q_Eb⟩ hb_ hon hoff
             refine ⟨_, rfl, fun K hK => ?_⟩
             have e154 : a.tmps[154]? = some (.slice (some ado) 1 co) := by rw [ha]; exact putSel_on (e := (14, 154, .slice (some ado) 1 co)) 9 rfl rfl (hon 14 (by kernel_rfl)) rfl
             have e153 : a.tmps[153]? = some (.bool true) := by rw [ha]; exact putSel_on (e := (13, 153, .bool true)) 8 rfl rfl (hon 13 (by kernel_rfl)) rfl
             replace ha := Aside0.mk ha
             have E := Aside0.mk Q_E
             have Ea := Aside0.mk (Q_Ea (hon 4 (by kernel_rfl)))
             have Eb := Aside0.mk (Q_Eb (hon 6 (by kernel_rfl)))
             refine value_ (w1 := w') (v := .int .i64 1) (wanted_on rfl rfl rfl (e153.trans (by first | rfl | (simp [*]; done)))) rfl ?_ ?_
             · go_simp
               (try simp only [i64_w])
               try rfl
             refine hK.out _ _ ⟨va, vb, (by rw [ha.out]; exact putSel_upk 10 hb_ rfl rfl rfl), Q_E, Q_Ea, Q_Eb⟩
           refine steps_cons ?_ ?_
           · rintro b a w' ⟨va, vb, ha, Q_E, Q_Ea, Q_Eb⟩ hb_ hon hoff
             refine ⟨_, rfl, fun K hK => ?_⟩
             have e155 : a.tmps[155]? = some (.int .i64 1) := by rw [ha]; exact putSel_on (e := (15, 155, .int .i64 1)) 10 rfl rfl (hon 15 (by kernel_rfl)) rfl
             have e153 : a.tmps[153]? = some (.bool true) := by rw [ha]; exact putSel_on (e := (13, 153, .bool true)) 8 rfl rfl (hon 13 (by kernel_rfl)) rfl
             replace ha := Aside0.mk ha
             have E := Aside0.mk Q_E
             have Ea := Aside0.mk (Q_Ea (hon 4 (by kernel_rfl)))
             have Eb := Aside0.mk (Q_Eb (hon 6 (by kernel_rfl)))
             refine value_ (w1 := w') (v := .bool true) (wanted_on rfl rfl rfl (e153.trans (by first | rfl | (simp [*]; done)))) rfl ?_ ?_
             · go_simp
               (try simp only [i64_w])
               try rfl
             refine hK.out _ _ ⟨va, vb, (by rw [ha.out]; exact putSel_upk 11 hb_ rfl rfl rfl), Q_E, Q_Ea, Q_Eb⟩
           refine steps_cons ?_ ?_
           · rintro b a w' ⟨va, vb, ha, Q_E, Q_Ea, Q_Eb⟩ hb_ hon hoff
             refine ⟨_, rfl, fun K hK => ?_⟩
             have e153 : a.tmps[153]? = some (.bool true) := by rw [ha]; exact putSel_on (e := (13, 153, .bool true)) 8 rfl rfl (hon 13 (by kernel_rfl)) rfl
             have e156 : a.tmps[156]? = some (.bool true) := by rw [ha]; exact putSel_on (e := (16, 156, .bool true)) 11 rfl rfl (hon 16 (by kernel_rfl)) rfl
             replace ha := Aside0.mk ha
             have E := Aside0.mk Q_E
             have Ea := Aside0.mk (Q_Ea (hon 4 (by kernel_rfl)))
             have Eb := Aside0.mk (Q_Eb (hon 6 (by kernel_rfl)))
             refine value_ (w1 := w') (v := .bool true) (by rfl) rfl ?_ ?_
             · go_simp
               (try simp only [i64_w])
               try rfl
             refine hK.out _ _ ⟨va, vb, (by rw [ha.out]; exact putSel_upk 12 hb_ rfl rfl rfl), Q_E, Q_Ea, Q_Eb⟩
           refine steps_cons ?_ ?_
           · rintro b a w' ⟨va, vb, ha, Q_E, Q_Ea, Q_Eb⟩ hb_ hon hoff
             refine ⟨_, rfl, fun K hK => ?_⟩
             have e157 : a.tmps[157]? = some (.bool true) := by rw [ha]; exact putSel_on (e := (17, 157, .bool true)) 12 rfl rfl (hon 17 (by kernel_rfl)) rfl
             replace ha := Aside0.mk ha
             have E := Aside0.mk Q_E
             have Ea := Aside0.mk (Q_Ea (hon 4 (by kernel_rfl)))
             have Eb := Aside0.mk (Q_Eb (hon 6 (by kernel_rfl)))
             refine value_ (w1 := w') (v := .bool true) (by rfl) rfl ?_ ?_
             · go_simp
               (try simp only [i64_w])
               try rfl
             refine hK.out _ _ ⟨va, vb, (by rw [ha.out]; exact putSel_upk 13 hb_ rfl rfl rfl), Q_E, Q_Ea, Q_Eb⟩
           refine steps_cons ?_ ?_
           · rintro b a w' ⟨va, vb, ha, Q_E, Q_Ea, Q_Eb⟩ hb_ hon hoff
             refine ⟨_, rfl, fun K hK => ?_⟩
             have e18 : a.tmps[18]? = some (.slice (some ado) 1 co) := by rw [ha]; exact (putSel_off rfl).trans rfl
             have e158 : a.tmps[158]? = some (.bool true) := by rw [ha]; exact putSel_on (e := (18, 158, .bool true)) 13 rfl rfl (hon 18 (by kernel_rfl)) rfl
             replace ha := Aside0.mk ha
             have E := Aside0.mk Q_E
             have Ea := Aside0.mk (Q_Ea (hon 4 (by kernel_rfl)))
             have Eb := Aside0.mk (Q_Eb (hon 6 (by kernel_rfl)))
             refine value_ (w1 := w') (v := .slice (some ado) 1 co) (wanted_on rfl rfl rfl (e158.trans (by first | rfl | (simp [*]; done)))) rfl ?_ ?_
             · go_simp
               (try simp only [i64_w])
               try rfl
             refine hK.out _ _ ⟨va, vb, (by rw [ha.out]; exact putSel_upk 14 hb_ rfl rfl rfl), Q_E, Q_Ea, Q_Eb⟩
           refine steps_cons ?_ ?_
           · rintro b a w' ⟨va, vb, ha, Q_E, Q_Ea, Q_Eb⟩ hb_ hon hoff
             refine ⟨_, rfl, fun K hK => ?_⟩
             have e159 : a.tmps[159]? = some (.slice (some ado) 1 co) := by rw [ha]; exact putSel_on (e := (19, 159, .slice (some ado) 1 co)) 14 rfl rfl (hon 19 (by kernel_rfl)) rfl
             have e158 : a.tmps[158]? = some (.bool true) := by rw [ha]; exact putSel_on (e := (18, 158, .bool true)) 13 rfl rfl (hon 18 (by kernel_rfl)) rfl
             replace ha := Aside0.mk ha
             have E := Aside0.mk Q_E
             have Ea := Aside0.mk (Q_Ea (hon 4 (by kernel_rfl)))
             have Eb := Aside0.mk (Q_Eb (hon 6 (by kernel_rfl)))
             refine value_ (w1 := w') (v := .pointer (some ado)) (wanted_on rfl rfl rfl (e158.trans (by first | rfl | (simp [*]; done)))) rfl ?_ ?_
             · go_simp
               (try simp only [i64_w])
               try rfl
             refine hK.out _ _ ⟨va, vb, (by rw [ha.out]; exact putSel_upk 15 hb_ rfl rfl rfl), Q_E, Q_Ea, Q_Eb⟩
           refine steps_cons ?_ ?_
           · rintro b a w' ⟨va, vb, ha, Q_E, Q_Ea, Q_Eb⟩ hb_ hon hoff
             refine ⟨_, rfl, fun K hK => ?_⟩
             have e160 : a.tmps[160]? = some (.pointer (some ado)) := by rw [ha]; exact putSel_on (e := (20, 160, .pointer (some ado))) 15 rfl rfl (hon 20 (by kernel_rfl)) rfl
             have e158 : a.tmps[158]? = some (.bool true) := by rw [ha]; exact putSel_on (e := (18, 158, .bool true)) 13 rfl rfl (hon 18 (by kernel_rfl)) rfl
             replace ha := Aside0.mk ha
             have E := Aside0.mk Q_E
             have Ea := Aside0.mk (Q_Ea (hon 4 (by kernel_rfl)))
             have Eb := Aside0.mk (Q_Eb (hon 6 (by kernel_rfl)))
             refine value_ (w1 := w') (v := .pointer (some ⟨ado.block, ado.off + 1, none⟩)) (wanted_on rfl rfl rfl (e158.trans (by first | rfl | (simp [*]; done)))) rfl ?_ ?_
             · go_simp
               (try simp only [i64_w])
               try rfl
             refine hK.out _ _ ⟨va, vb, (by rw [ha.out]; exact putSel_upk 16 hb_ rfl rfl rfl), Q_E, Q_Ea, Q_Eb⟩
           refine steps_cons ?_ ?_
           · rintro b a w' ⟨va, vb, ha, Q_E, Q_Ea, Q_Eb⟩ hb_ hon hoff
             refine ⟨_, rfl, fun K hK => ?_⟩
             have e161 : a.tmps[161]? = some (.pointer (some ⟨ado.block, ado.off + 1, none⟩)) := by rw [ha]; exact putSel_on (e := (21, 161, .pointer (some ⟨ado.block, ado.off + 1, none⟩))) 16 rfl rfl (hon 21 (by kernel_rfl)) rfl
             have e158 : a.tmps[158]? = some (.bool true) := by rw [ha]; exact putSel_on (e := (18, 158, .bool true)) 13 rfl rfl (hon 18 (by kernel_rfl)) rfl
             replace ha := Aside0.mk ha
             have E := Aside0.mk Q_E
             have Ea := Aside0.mk (Q_Ea (hon 4 (by kernel_rfl)))
             have Eb := Aside0.mk (Q_Eb (hon 6 (by kernel_rfl)))
             have hc_ := (E.out.cell (World.block_lt_of_cell? _ _ ho1d)).trans ho1d
             refine value_ (w1 := w') (v := .slice G1 x.length v1) (wanted_on rfl rfl rfl (e158.trans (by first | rfl | (simp [*]; done)))) rfl ?_ ?_
             · go_simp
               (try simp only [i64_w])
               try rfl
             refine hK.out _ _ ⟨va, vb, (by rw [ha.out]; exact putSel_upk 17 hb_ rfl rfl rfl), Q_E, Q_Ea, Q_Eb⟩
           refine steps_cons ?_ ?_
           · rintro b a w' ⟨va, vb, ha, Q_E, Q_Ea, Q_Eb⟩ hb_ hon hoff
             refine ⟨_, rfl, fun K hK => ?_⟩
             have e162 : a.tmps[162]? = some (.slice G1 x.length v1) := by rw [ha]; exact putSel_on (e := (22, 162, .slice G1 x.length v1)) 17 rfl rfl (hon 22 (by kernel_rfl)) rfl
             have e158 : a.tmps[158]? = some (.bool true) := by rw [ha]; exact putSel_on (e := (18, 158, .bool true)) 13 rfl rfl (hon 18 (by kernel_rfl)) rfl
             replace ha := Aside0.mk ha
             have E := Aside0.mk Q_E
             have Ea := Aside0.mk (Q_Ea (hon 4 (by kernel_rfl)))
             have Eb := Aside0.mk (Q_Eb (hon 6 (by kernel_rfl)))
             have hcv_ := Kd.C_string (P := Tryd.prog) (c := v1) Tryd.underlying22 Tryd.underlying5 Tryd.underlying9 (Kd.C_below FD.out.2.2.2.2 E.out)
             refine value_ (w1 := w') (v := .string (strOfNums x)) (wanted_on rfl rfl rfl (e158.trans (by first | rfl | (simp [*]; done)))) rfl ?_ ?_
             · go_simp
               (try simp only [i64_w])
               try rfl
             refine hK.out _ _ ⟨va, vb, (by rw [ha.out]; exact putSel_upk 18 hb_ rfl rfl rfl), Q_E, Q_Ea, Q_Eb⟩
           refine steps_cons ?_ ?_
           · rintro b a w' ⟨va, vb, ha, Q_E, Q_Ea, Q_Eb⟩ hb_ hon hoff
             refine ⟨_, rfl, fun K hK => ?_⟩
             have e7 : a.tmps[7]? = some (.slice AX x.length cX) := by rw [ha]; exact (putSel_off rfl).trans rfl
             have e158 : a.tmps[158]? = some (.bool true) := by rw [ha]; exact putSel_on (e := (18, 158, .bool true)) 13 rfl rfl (hon 18 (by kernel_rfl)) rfl
             replace ha := Aside0.mk ha
             have E := Aside0.mk Q_E
             have Ea := Aside0.mk (Q_Ea (hon 4 (by kernel_rfl)))
             have Eb := Aside0.mk (Q_Eb (hon 6 (by kernel_rfl)))
             refine value_ (w1 := w') (v := .slice AX x.length cX) (wanted_on rfl rfl rfl (e158.trans (by first | rfl | (simp [*]; done)))) rfl ?_ ?_
             · go_simp
               (try simp only [i64_w])
               try rfl
             refine hK.out _ _ ⟨va, vb, (by rw [ha.out]; exact putSel_upk 19 hb_ rfl rfl rfl), Q_E, Q_Ea, Q_Eb⟩
           refine steps_cons ?_ ?_
           · rintro b a w' ⟨va, vb, ha, Q_E, Q_Ea, Q_Eb⟩ hb_ hon hoff
             refine ⟨_, rfl, fun K hK => ?_⟩
             have e164 : a.tmps[164]? = some (.slice AX x.length cX) := by rw [ha]; exact putSel_on (e := (24, 164, .slice AX x.length cX)) 19 rfl rfl (hon 24 (by kernel_rfl)) rfl
             have e158 : a.tmps[158]? = some (.bool true) := by rw [ha]; exact putSel_on (e := (18, 158, .bool true)) 13 rfl rfl (hon 18 (by kernel_rfl)) rfl
             replace ha := Aside0.mk ha
             have E := Aside0.mk Q_E
             have Ea := Aside0.mk (Q_Ea (hon 4 (by kernel_rfl)))
             have Eb := Aside0.mk (Q_Eb (hon 6 (by kernel_rfl)))
             have hcv_ := Kd.C_string (P := Tryd.prog) (c := cX) Tryd.underlying22 Tryd.underlying5 Tryd.underlying9 (Kd.C_below FD.out.1 E.out)
             refine value_ (w1 := w') (v := .string (strOfNums x)) (wanted_on rfl rfl rfl (e158.trans (by first | rfl | (simp [*]; done)))) rfl ?_ ?_
             · go_simp
               (try simp only [i64_w])
               try rfl
             refine hK.out _ _ ⟨va, vb, (by rw [ha.out]; exact putSel_upk 20 hb_ rfl rfl rfl), Q_E, Q_Ea, Q_Eb⟩
           refine steps_cons ?_ ?_
           · rintro b a w' ⟨va, vb, ha, Q_E, Q_Ea, Q_Eb⟩ hb_ hon hoff
             refine ⟨_, rfl, fun K hK => ?_⟩
             have e163 : a.tmps[163]? = some (.string (strOfNums x)) := by rw [ha]; exact putSel_on (e := (23, 163, .string (strOfNums x))) 18 rfl rfl (hon 23 (by kernel_rfl)) rfl
             have e165 : a.tmps[165]? = some (.string (strOfNums x)) := by rw [ha]; exact putSel_on (e := (25, 165, .string (strOfNums x))) 20 rfl rfl (hon 25 (by kernel_rfl)) rfl
             have e158 : a.tmps[158]? = some (.bool true) := by rw [ha]; exact putSel_on (e := (18, 158, .bool true)) 13 rfl rfl (hon 18 (by kernel_rfl)) rfl
             replace ha := Aside0.mk ha
             have E := Aside0.mk Q_E
             have Ea := Aside0.mk (Q_Ea (hon 4 (by kernel_rfl)))
             have Eb := Aside0.mk (Q_Eb (hon 6 (by kernel_rfl)))
             refine value_ (w1 := w') (v := .bool true) (wanted_on rfl rfl rfl (e158.trans (by first | rfl | (simp [*]; done)))) rfl ?_ ?_
             · go_simp
               (try simp only [i64_w])
               try rfl
             refine hK.out _ _ ⟨va, vb, (by rw [ha.out]; exact putSel_upk 21 hb_ rfl rfl rfl), Q_E, Q_Ea, Q_Eb⟩
           refine steps_cons ?_ ?_
           · rintro b a w' ⟨va, vb, ha, Q_E, Q_Ea, Q_Eb⟩ hb_ hon hoff
             refine ⟨_, rfl, fun K hK => ?_⟩
             have e158 : a.tmps[158]? = some (.bool true) := by rw [ha]; exact putSel_on (e := (18, 158, .bool true)) 13 rfl rfl (hon 18 (by kernel_rfl)) rfl
             have e166 : a.tmps[166]? = some (.bool true) := by rw [ha]; exact putSel_on (e := (26, 166, .bool true)) 21 rfl rfl (hon 26 (by kernel_rfl)) rfl
             replace ha := Aside0.mk ha
             have E := Aside0.mk Q_E
             have Ea := Aside0.mk (Q_Ea (hon 4 (by kernel_rfl)))
             have Eb := Aside0.mk (Q_Eb (hon 6 (by kernel_rfl)))
             refine value_ (w1 := w') (v := .bool true) (by rfl) rfl ?_ ?_
             · go_simp
               (try simp only [i64_w])
               try rfl
             refine hK.out _ _ ⟨va, vb, (by rw [ha.out]; exact putSel_upk 22 hb_ rfl rfl rfl), Q_E, Q_Ea, Q_Eb⟩
           refine steps_cons ?_ ?_
           · rintro b a w' ⟨va, vb, ha, Q_E, Q_Ea, Q_Eb⟩ hb_ hon hoff
             refine ⟨_, rfl, fun K hK => ?_⟩
             have e167 : a.tmps[167]? = some (.bool true) := by rw [ha]; exact putSel_on (e := (27, 167, .bool true)) 22 rfl rfl (hon 27 (by kernel_rfl)) rfl
             replace ha := Aside0.mk ha
             have E := Aside0.mk Q_E
             have Ea := Aside0.mk (Q_Ea (hon 4 (by kernel_rfl)))
             have Eb := Aside0.mk (Q_Eb (hon 6 (by kernel_rfl)))
             refine value_ (w1 := w') (v := .bool true) (by rfl) rfl ?_ ?_
             · go_simp
               (try simp only [i64_w])
               try rfl
             refine hK.out _ _ ⟨va, vb, (by rw [ha.out]; exact putSel_upk 23 hb_ rfl rfl rfl), Q_E, Q_Ea, Q_Eb⟩
           exact steps_nil
         · rintro b a w' hall ⟨va, vb, ha, Q_E, Q_Ea, Q_Eb⟩
           clear E
           have hb4_ := hall 4 (by kernel_rfl)
           have hb6_ := hall 6 (by kernel_rfl)
           have hb7_ := hall 7 (by kernel_rfl)
           have hb8_ := hall 8 (by kernel_rfl)
           have hb9_ := hall 9 (by kernel_rfl)
           have hb10_ := hall 10 (by kernel_rfl)
           have hb11_ := hall 11 (by kernel_rfl)
           have hb12_ := hall 12 (by kernel_rfl)
           have hb13_ := hall 13 (by kernel_rfl)
           have hb14_ := hall 14 (by kernel_rfl)
           have hb15_ := hall 15 (by kernel_rfl)
           have hb16_ := hall 16 (by kernel_rfl)
           have hb17_ := hall 17 (by kernel_rfl)
           have hb18_ := hall 18 (by kernel_rfl)
           have hb19_ := hall 19 (by kernel_rfl)
           have hb20_ := hall 20 (by kernel_rfl)
           have hb21_ := hall 21 (by kernel_rfl)
           have hb22_ := hall 22 (by kernel_rfl)
           have hb23_ := hall 23 (by kernel_rfl)
           have hb24_ := hall 24 (by kernel_rfl)
           have hb25_ := hall 25 (by kernel_rfl)
           have hb26_ := hall 26 (by kernel_rfl)
           have hb27_ := hall 27 (by kernel_rfl)
           have hb28_ := hall 28 (by kernel_rfl)
           subst ha
           simp only [putSel, hb4_, hb6_, hb7_, hb8_, hb9_, hb10_, hb11_, hb12_, hb13_, hb14_, hb15_, hb16_, hb17_, hb18_, hb19_, hb20_, hb21_, hb22_, hb23_, hb24_, hb25_, hb26_, hb27_, hb28_, if_true, Act.put, List.setIfInBounds_toArray, List.set_cons_zero, List.set_cons_succ]
           have E := Aside0.mk Q_E
           clear Q_E
           have Ea := Aside0.mk (Q_Ea hb4_)
           clear Q_Ea
           have Eb := Aside0.mk (Q_Eb hb6_)
           clear Q_Eb
           clear hall hb4_ hb6_ hb7_ hb8_ hb9_ hb10_ hb11_ hb12_ hb13_ hb14_ hb15_ hb16_ hb17_ hb18_ hb19_ hb20_ hb21_ hb22_ hb23_ hb24_ hb25_ hb26_ hb27_ hb28_
           have HB := Aside0.mk (FD.out.2.1.trans (below_lo E.out FD.out.2.1.size))
           go_wp2
           go_ret
           exact ⟨rfl, HB.out⟩
       | false =>
         go_upto_region 12 with (fail)
         obtain ⟨T, hT⟩ : ∃ T, p.text ++ q.text = T := ⟨_, rfl⟩
         replace hT := Aside0.mk hT
         have hp1d : wJ.drew.cell? ⟨(adl.add ((l.length - 1) * 5)).block, (adl.add ((l.length - 1) * 5)).off + 1, none⟩ = some (.slice B1 p.text.length d1) := HPQ.out.1
         have hq1d : wJ.drew.cell? ⟨adm.block, adm.off + 1, none⟩ = some (.slice E1 q.text.length u1) := HPQ.out.2.1
         have HT1 := Aside0.mk (Kd.C_below HPQ.out.2.2.1 (below_drew1 (Below.refl wJ.heap.size wJ)))
         have HT2 := Aside0.mk (Kd.C_below HPQ.out.2.2.2 (below_drew1 (Below.refl wJ.heap.size wJ)))
         have FD := Aside0.mk (⟨Kd.C_below F9.out.1 (below_drew1 (Below.refl wJ.heap.size wJ)), F9.out.2.1.trans (below_lo (below_drew1 (Below.refl wJ.heap.size wJ)) F9.out.2.1.size), Kd.C_below F9.out.2.2.1 (below_drew1 (Below.refl wJ.heap.size wJ)), Kd.C_below F9.out.2.2.2.1 (below_drew1 (Below.refl wJ.heap.size wJ)), Kd.C_below F9.out.2.2.2.2 (below_drew1 (Below.refl wJ.heap.size wJ))⟩ : _ ∧ _ ∧ _ ∧ _ ∧ _)
         replace hp0 := Aside0.mk hp0
         replace hq0 := Aside0.mk hq0
         go_wp2
         have E0 := trivial
         refine start_ (n := 16) (S := fun w' => True) (ds := []) #[false, false, false, false, false, false, false, false, false, false, false, false, false, false, false, false] (by kernel_rfl) rfl rfl trivial (fun hHeld => ?_)
         refine with_tabW mmov.tab12 mmov.bits12 (fun HT_ HW_ => ?_)
         have E := trivial
         generalize wJ.drew = wd at hp1d hq1d HT1 HT2 FD hHeld ⊢
         refine pure_ (i := 1) (N := some 107) (v := ?_) (a' := ?_) #[false, true, false, false, false, false, false, false, false, false, false, false, false, false, false, false] rfl rfl (any_of HT_.out (by kernel_rfl)) (fun _ _ _ h => h) (Or.inl ⟨by rfl, ?_⟩) ?_ ?_
         rotate_left
         · intro w'
           go_simp
           with_reducible rfl
         rotate_left
         · simp only [Act.put, List.setIfInBounds_toArray, List.set_cons_zero, List.set_cons_succ, i64_w, i32_w]
           rfl
         refine pure_ (i := 2) (N := some 108) (v := ?_) (a' := ?_) #[false, true, true, false, false, false, false, false, false, false, false, false, false, false, false, false] rfl rfl (any_of HT_.out (by kernel_rfl)) (fun _ _ _ h => h) (Or.inl ⟨by rfl, ?_⟩) ?_ ?_
         rotate_left
         · intro w'
           go_simp
           with_reducible rfl
         rotate_left
         · simp only [Act.put, List.setIfInBounds_toArray, List.set_cons_zero, List.set_cons_succ, i64_w, i32_w]
           rfl
         refine pure_ (i := 3) (N := some 109) (v := ?_) (a' := ?_) #[false, true, true, true, false, false, false, false, false, false, false, false, false, false, false, false] rfl rfl (any_of HT_.out (by kernel_rfl)) (fun _ _ _ h => h) (Or.inl ⟨by rfl, ?_⟩) ?_ ?_
         rotate_left
         · intro w'
           go_simp
           with_reducible rfl
         rotate_left
         · simp only [Act.put, List.setIfInBounds_toArray, List.set_cons_zero, List.set_cons_succ, i64_w, i32_w]
           rfl
         refine pure_ (i := 4) (N := some 110) (v := ?_) (a' := ?_) #[false, true, true, true, true, false, false, false, false, false, false, false, false, false, false, false] rfl rfl (any_of HT_.out (by kernel_rfl)) (fun _ _ _ h => h) (Or.inl ⟨by rfl, ?_⟩) ?_ ?_
         rotate_left
         · intro w'
           go_simp
           with_reducible rfl
         rotate_left
         · simp only [Act.put, List.setIfInBounds_toArray, List.set_cons_zero, List.set_cons_succ, i64_w, i32_w]
           rfl
         refine pure_ (i := 5) (N := some 111) (v := ?_) (a' := ?_) #[false, true, true, true, true, true, false, false, false, false, false, false, false, false, false, false] rfl rfl (any_of HT_.out (by kernel_rfl)) (fun _ _ _ h => h) (Or.inl ⟨by rfl, ?_⟩) ?_ ?_
         rotate_left
         · intro w'
           go_simp
           with_reducible rfl
         rotate_left
         · simp only [Act.put, List.setIfInBounds_toArray, List.set_cons_zero, List.set_cons_succ, i64_w, i32_w]
           rfl
         refine pure_ (i := 8) (N := some 114) (v := ?_) (a' := ?_) #[false, true, true, true, true, true, false, false, true, false, false, false, false, false, false, false] rfl rfl (any_of HT_.out (by kernel_rfl)) (fun _ _ _ h => h) (Or.inl ⟨by rfl, ?_⟩) ?_ ?_
         rotate_left
         · intro w'
           go_simp
           with_reducible rfl
         rotate_left
         · simp only [Act.put, List.setIfInBounds_toArray, List.set_cons_zero, List.set_cons_succ, i64_w, i32_w]
           rfl
         refine pure_ (i := 9) (N := some 115) (v := ?_) (a' := ?_) #[false, true, true, true, true, true, false, false, true, true, false, false, false, false, false, false] rfl rfl (any_of HT_.out (by kernel_rfl)) (fun _ _ _ h => h) (Or.inl ⟨by rfl, ?_⟩) ?_ ?_
         rotate_left
         · intro w'
           go_simp
           with_reducible rfl
         rotate_left
         · simp only [Act.put, List.setIfInBounds_toArray, List.set_cons_zero, List.set_cons_succ, i64_w, i32_w]
           rfl
         refine pure_ (i := 10) (N := some 116) (v := ?_) (a' := ?_) #[false, true, true, true, true, true, false, false, true, true, true, false, false, false, false, false] rfl rfl (any_of HT_.out (by kernel_rfl)) (fun _ _ _ h => h) (Or.inl ⟨by rfl, ?_⟩) ?_ ?_
         rotate_left
         · intro w'
           go_simp
           with_reducible rfl
         rotate_left
         · simp only [Act.put, List.setIfInBounds_toArray, List.set_cons_zero, List.set_cons_succ, i64_w, i32_w]
           rfl
         refine inv_at [0, 6, 7, 11, 12, 13, 14, 15] (fun a0_ b a w' => ∃ (va : Value) (vb : Value) (vc : Value) (vp : Value) (m13_ : Value), a = putSel a0_ b [(0, 106, va), (6, 112, .slice B1 p.text.length d1), (7, 113, vb), (11, 117, .slice E1 q.text.length u1), (12, 118, vc), (13, 119, m13_), (14, 17, vp)] ∧ (Below wd.heap.size wd w' ∧ wd.heap.size ≤ w'.heap.size) ∧ (b 0 = true → b 7 = false → Rw wd.heap.size w' va []) ∧ (b 7 = true → b 12 = false → Rw wd.heap.size w' vb p.text) ∧ (b 12 = true → Rw wd.heap.size w' vc T) ∧ (b 14 = true → b 15 = false → Bx5 wd.heap.size vp #[.bool false, .slice none 0 0, .slice none 0 0, .slice none 0 0, .slice none 0 0] w') ∧ (b 15 = true → Bx5 wd.heap.size vp #[.bool false, vc, .slice none 0 0, .slice none 0 0, .slice none 0 0] w') ∧ (b 13 = true → (m13_ : Value) = .agg #[.bool false, vc, .slice none 0 0, .slice none 0 0, .slice none 0 0])) HT_.out HW_.out (by kernel_rfl) (by kernel_rfl) ?_ ?_ ?_
         · exact ⟨.bool false, .bool false, .bool false, .bool false, .bool false, by simp only [putSel, Bool.false_eq_true, if_false], ⟨Below.refl _ _, Nat.le_refl _⟩, fun h_ => absurd h_ (by decide), fun h_ => absurd h_ (by decide), fun h_ => absurd h_ (by decide), fun h_ => absurd h_ (by decide), fun h_ => absurd h_ (by decide), fun h_ => absurd h_ (by decide)⟩
         · skip
           clear E
           refine steps_cons ?_ ?_
           · rintro b a w' ⟨va, vb, vc, vp, m13_, ha, Q_E, Q_Ea, Q_Eb, Q_Ec, Q_Eg, Q_Ef, Q_X13_⟩ hb_ hon hoff
             refine ⟨_, rfl, fun K hK => ?_⟩
             replace ha := Aside0.mk ha
             have E := Aside0.mk Q_E
             refine value_ (w1 := w'.alloc (.cells #[] 5)) (v := .slice (some ⟨w'.heap.size, 0, none⟩) 0 0) (by rfl) rfl ?_ ?_
             · go_simp
               try rfl
             refine hK.out _ _ ⟨(.slice (some ⟨w'.heap.size, 0, none⟩) 0 0), vb, vc, vp, m13_, (by rw [ha.out]; exact putSel_upk 0 hb_ rfl rfl rfl), ⟨E.out.1.trans (below_lo (below_alloc (Below.refl _ _) _) E.out.2), Nat.le_trans E.out.2 (by simp)⟩, fun _ _ => Rw.new E.out.2, fun h0_ _ => absurd ((hoff 7 (by kernel_rfl)).symm.trans h0_) (by decide), fun h0_ => absurd ((hoff 12 (by kernel_rfl)).symm.trans h0_) (by decide), fun h0_ h1_ => (Q_Eg h0_ h1_).below (below_alloc (Below.refl _ _) _), fun h0_ => absurd ((hoff 15 (by kernel_rfl)).symm.trans h0_) (by decide), fun h0_ => absurd ((hoff 13 (by kernel_rfl)).symm.trans h0_) (by decide)⟩
           refine steps_cons ?_ ?_
           · rintro b a w' ⟨va, vb, vc, vp, m13_, ha, Q_E, Q_Ea, Q_Eb, Q_Ec, Q_Eg, Q_Ef, Q_X13_⟩ hb_ hon hoff
             refine ⟨_, rfl, fun K hK => ?_⟩
             have e111 : a.tmps[111]? = some (.pointer (some ⟨(adl.add ((l.length - 1) * 5)).block, (adl.add ((l.length - 1) * 5)).off + 1, none⟩)) := by rw [ha]; exact (putSel_off rfl).trans rfl
             replace ha := Aside0.mk ha
             have E := Aside0.mk Q_E
             have hc_ := (E.out.1.cell (World.block_lt_of_cell? _ _ hp1d)).trans hp1d
             refine value_ (w1 := w') (v := .slice B1 p.text.length d1) (by rfl) rfl ?_ ?_
             · go_simp
               (try simp only [i64_w])
               try rfl
             refine hK.out _ _ ⟨va, vb, vc, vp, m13_, (by rw [ha.out]; exact putSel_upk 1 hb_ rfl rfl rfl), Q_E, Q_Ea, fun h0_ _ => absurd ((hoff 7 (by kernel_rfl)).symm.trans h0_) (by decide), fun h0_ => absurd ((hoff 12 (by kernel_rfl)).symm.trans h0_) (by decide), Q_Eg, fun h0_ => absurd ((hoff 15 (by kernel_rfl)).symm.trans h0_) (by decide), fun h0_ => absurd ((hoff 13 (by kernel_rfl)).symm.trans h0_) (by decide)⟩
           refine steps_cons ?_ ?_
           · rintro b a w' ⟨va, vb, vc, vp, m13_, ha, Q_E, Q_Ea, Q_Eb, Q_Ec, Q_Eg, Q_Ef, Q_X13_⟩ hb_ hon hoff
             refine ⟨_, rfl, fun K hK => ?_⟩
             have e106 : a.tmps[106]? = some (va) := by rw [ha]; exact putSel_on (e := (0, 106, va)) 0 rfl rfl (hon 0 (by kernel_rfl)) rfl
             have e112 : a.tmps[112]? = some (.slice B1 p.text.length d1) := by rw [ha]; exact putSel_on (e := (6, 112, .slice B1 p.text.length d1)) 1 rfl rfl (hon 6 (by kernel_rfl)) rfl
             replace ha := Aside0.mk ha
             have E := Aside0.mk Q_E
             have Ea := Aside0.mk (Q_Ea (hon 0 (by kernel_rfl)) hb_)
             refine rw_app (B := wd.heap.size) (by rfl) (.tmp 106) (.tmp 112) rfl Tryd.underlying22 inf5 (eval_of e106) (eval_of e112) Ea.out (Kd.C_below HT1.out E.out.1) E.out.2 (by have := htx.out; simp; omega) ?_
             intro v1 w1 r_ g_
             rw [List.nil_append] at r_
             have b_ := g_.below wd E.out.1 E.out.2
             refine hK.out _ _ ⟨va, v1, vc, vp, m13_, (by rw [ha.out]; exact putSel_upk 2 hb_ rfl rfl rfl), b_, fun _ h1_ => absurd ((up_self b 7).symm.trans h1_) (by decide), fun _ _ => r_, fun h0_ => absurd ((hoff 12 (by kernel_rfl)).symm.trans h0_) (by decide), fun h0_ h1_ => (Q_Eg h0_ h1_).grew g_ Ea.out, fun h0_ => absurd ((hoff 15 (by kernel_rfl)).symm.trans h0_) (by decide), fun h0_ => absurd ((hoff 13 (by kernel_rfl)).symm.trans h0_) (by decide)⟩
           refine steps_cons ?_ ?_
           · rintro b a w' ⟨va, vb, vc, vp, m13_, ha, Q_E, Q_Ea, Q_Eb, Q_Ec, Q_Eg, Q_Ef, Q_X13_⟩ hb_ hon hoff
             refine ⟨_, rfl, fun K hK => ?_⟩
             have e116 : a.tmps[116]? = some (.pointer (some ⟨adm.block, adm.off + 1, none⟩)) := by rw [ha]; exact (putSel_off rfl).trans rfl
             replace ha := Aside0.mk ha
             have E := Aside0.mk Q_E
             have hc_ := (E.out.1.cell (World.block_lt_of_cell? _ _ hq1d)).trans hq1d
             refine value_ (w1 := w') (v := .slice E1 q.text.length u1) (by rfl) rfl ?_ ?_
             · go_simp
               (try simp only [i64_w])
               try rfl
             refine hK.out _ _ ⟨va, vb, vc, vp, m13_, (by rw [ha.out]; exact putSel_upk 3 hb_ rfl rfl rfl), Q_E, Q_Ea, Q_Eb, fun h0_ => absurd ((hoff 12 (by kernel_rfl)).symm.trans h0_) (by decide), Q_Eg, fun h0_ => absurd ((hoff 15 (by kernel_rfl)).symm.trans h0_) (by decide), fun h0_ => absurd ((hoff 13 (by kernel_rfl)).symm.trans h0_) (by decide)⟩
           refine steps_cons ?_ ?_
           · rintro b a w' ⟨va, vb, vc, vp, m13_, ha, Q_E, Q_Ea, Q_Eb, Q_Ec, Q_Eg, Q_Ef, Q_X13_⟩ hb_ hon hoff
             refine ⟨_, rfl, fun K hK => ?_⟩
             have e113 : a.tmps[113]? = some (vb) := by rw [ha]; exact putSel_on (e := (7, 113, vb)) 2 rfl rfl (hon 7 (by kernel_rfl)) rfl
             have e117 : a.tmps[117]? = some (.slice E1 q.text.length u1) := by rw [ha]; exact putSel_on (e := (11, 117, .slice E1 q.text.length u1)) 3 rfl rfl (hon 11 (by kernel_rfl)) rfl
             replace ha := Aside0.mk ha
             have E := Aside0.mk Q_E
             have Eb := Aside0.mk (Q_Eb (hon 7 (by kernel_rfl)) hb_)
             refine rw_app (B := wd.heap.size) (by rfl) (.tmp 113) (.tmp 117) rfl Tryd.underlying22 inf5 (eval_of e113) (eval_of e117) Eb.out (Kd.C_below HT2.out E.out.1) E.out.2 (by have := htx.out; simp; omega) ?_
             intro v1 w1 r_ g_
             rw [hT.out] at r_
             have b_ := g_.below wd E.out.1 E.out.2
             refine hK.out _ _ ⟨va, vb, v1, vp, m13_, (by rw [ha.out]; exact putSel_upk 4 hb_ rfl rfl rfl), b_, fun _ h1_ => absurd ((hon 7 (by kernel_rfl)).symm.trans h1_) (by decide), fun _ h1_ => absurd ((up_self b 12).symm.trans h1_) (by decide), fun _ => r_, fun h0_ h1_ => (Q_Eg h0_ h1_).grew g_ Eb.out, fun h0_ => absurd ((hoff 15 (by kernel_rfl)).symm.trans h0_) (by decide), fun h0_ => absurd ((hoff 13 (by kernel_rfl)).symm.trans h0_) (by decide)⟩
           refine steps_cons ?_ ?_
           · rintro b a w' ⟨va, vb, vc, vp, m13_, ha, Q_E, Q_Ea, Q_Eb, Q_Ec, Q_Eg, Q_Ef, Q_X13_⟩ hb_ hon hoff
             refine ⟨_, rfl, fun K hK => ?_⟩
             have e118 : a.tmps[118]? = some (vc) := by rw [ha]; exact putSel_on (e := (12, 118, vc)) 4 rfl rfl (hon 12 (by kernel_rfl)) rfl
             replace ha := Aside0.mk ha
             have E := Aside0.mk Q_E
             have Ec := Aside0.mk (Q_Ec (hon 12 (by kernel_rfl)))
             obtain ⟨Ac_, cc_, ec_, _⟩ := Ec.out.form
             refine value_ (w1 := w') (v := .agg #[.bool false, vc, .slice none 0 0, .slice none 0 0, .slice none 0 0]) (by rfl) rfl ?_ ?_
             · rw [ec_] at e118 ⊢
               go_simp
               try rfl
             refine hK.out _ _ ⟨va, vb, vc, vp, (.agg #[.bool false, vc, .slice none 0 0, .slice none 0 0, .slice none 0 0]), (by rw [ha.out]; exact putSel_upk 5 hb_ rfl rfl rfl), E.out, fun _ h1_ => absurd ((hon 7 (by kernel_rfl)).symm.trans h1_) (by decide), fun _ h1_ => absurd ((hon 12 (by kernel_rfl)).symm.trans h1_) (by decide), fun _ => Ec.out, fun h0_ h1_ => (Q_Eg h0_ h1_), fun h0_ => absurd ((hoff 15 (by kernel_rfl)).symm.trans h0_) (by decide), fun _ => rfl⟩
           refine steps_cons ?_ ?_
           · rintro b a w' ⟨va, vb, vc, vp, m13_, ha, Q_E, Q_Ea, Q_Eb, Q_Ec, Q_Eg, Q_Ef, Q_X13_⟩ hb_ hon hoff
             refine ⟨_, rfl, fun K hK => ?_⟩
             replace ha := Aside0.mk ha
             have E := Aside0.mk Q_E
             refine value_ (w1 := w'.alloc (.cells #[.bool false, .slice none 0 0, .slice none 0 0, .slice none 0 0, .slice none 0 0] 50)) (v := .pointer (some ⟨w'.heap.size, 0, none⟩)) (by rfl) rfl ?_ ?_
             · go_simp
               try rfl
             refine hK.out _ _ ⟨va, vb, vc, (.pointer (some ⟨w'.heap.size, 0, none⟩)), m13_, (by rw [ha.out]; exact putSel_upk 6 hb_ rfl rfl rfl), ⟨E.out.1.trans (below_lo (below_alloc (Below.refl _ _) _) E.out.2), Nat.le_trans E.out.2 (by simp)⟩, fun h0_ h1_ => (Q_Ea h0_ h1_).below (below_alloc (Below.refl _ _) _), fun h0_ h1_ => (Q_Eb h0_ h1_).below (below_alloc (Below.refl _ _) _), fun h0_ => (Q_Ec h0_).below (below_alloc (Below.refl _ _) _), fun _ _ => ⟨_, rfl, heap_alloc_new w' _, E.out.2⟩, fun h0_ => absurd ((hoff 15 (by kernel_rfl)).symm.trans h0_) (by decide), Q_X13_⟩
           refine steps_cons ?_ ?_
           · rintro b a w' ⟨va, vb, vc, vp, m13_, ha, Q_E, Q_Ea, Q_Eb, Q_Ec, Q_Eg, Q_Ef, Q_X13_⟩ hb_ hon hoff
             refine ⟨_, rfl, fun K hK => ?_⟩
             have e17 : a.tmps[17]? = some (vp) := by rw [ha]; exact putSel_on (e := (14, 17, vp)) 6 rfl rfl (hon 14 (by kernel_rfl)) rfl
             have e119 : a.tmps[119]? = some (m13_) := by rw [ha]; exact putSel_on (e := (13, 119, m13_)) 5 rfl rfl (hon 13 (by kernel_rfl)) rfl
             rw [Q_X13_ (hon 13 (by kernel_rfl))] at e119
             replace ha := Aside0.mk ha
             have E := Aside0.mk Q_E
             have Ec := Aside0.mk (Q_Ec (hon 12 (by kernel_rfl)))
             have Eg := Aside0.mk (Q_Eg (hon 14 (by kernel_rfl)) hb_)
             obtain ⟨gp_, evp_, hgp_, hBg_⟩ := Eg.out
             obtain ⟨Ac_, cc_, ec_, _⟩ := Ec.out.form
             rw [evp_] at e17
             rw [ec_] at e119
             have hk0_ := (blk_cell hgp_ 0).trans rfl
             have hk1_ := (blk_cell hgp_ 1).trans rfl
             have hk2_ := (blk_cell hgp_ 2).trans rfl
             have hk3_ := (blk_cell hgp_ 3).trans rfl
             have hk4_ := (blk_cell hgp_ 4).trans rfl
             have hf0_ := blk_frozen hgp_ 0
             have hf1_ := blk_frozen hgp_ 1
             have hf2_ := blk_frozen hgp_ 2
             have hf3_ := blk_frozen hgp_ 3
             have hf4_ := blk_frozen hgp_ 4
             have S3_ := Bx5.fill hgp_ hBg_ (.bool false) (.slice Ac_ T.length cc_) (.slice none 0 0) (.slice none 0 0) (.slice none 0 0)
             refine skip_ (w1 := ((((w'.setCell ⟨gp_, 0, none⟩ (.bool false)).setCell ⟨gp_, 1, none⟩ (.slice Ac_ T.length cc_)).setCell ⟨gp_, 2, none⟩ (.slice none 0 0)).setCell ⟨gp_, 3, none⟩ (.slice none 0 0)).setCell ⟨gp_, 4, none⟩ (.slice none 0 0)) (by rfl) rfl ?_ ?_
             · go_simp
               try rfl
             refine hK.out _ _ ⟨va, vb, vc, vp, m13_, (by rw [ha.out]; exact putSel_none (v := undef) rfl), ⟨S3_.2.2.1 _ E.out.1, by rw [S3_.2.2.2]; exact E.out.2⟩, fun _ h1_ => absurd ((hon 7 (by kernel_rfl)).symm.trans h1_) (by decide), fun _ h1_ => absurd ((hon 12 (by kernel_rfl)).symm.trans h1_) (by decide), fun _ => Ec.out.other hgp_ S3_.2.1, fun _ h1_ => absurd ((up_self b 15).symm.trans h1_) (by decide), fun _ => (by rw [evp_, ec_]; exact S3_.1), Q_X13_⟩
           exact steps_nil
         · rintro b a w' hall ⟨va, vb, vc, vp, m13_, ha, Q_E, Q_Ea, Q_Eb, Q_Ec, Q_Eg, Q_Ef, Q_X13_⟩
           clear E
           have hb0_ := hall 0 (by kernel_rfl)
           have hb6_ := hall 6 (by kernel_rfl)
           have hb7_ := hall 7 (by kernel_rfl)
           have hb11_ := hall 11 (by kernel_rfl)
           have hb12_ := hall 12 (by kernel_rfl)
           have hb13_ := hall 13 (by kernel_rfl)
           have hb14_ := hall 14 (by kernel_rfl)
           have hb15_ := hall 15 (by kernel_rfl)
           subst ha
           obtain rfl := Q_X13_ hb13_
           simp only [putSel, hb0_, hb6_, hb7_, hb11_, hb12_, hb13_, hb14_, hb15_, if_true, Act.put, List.setIfInBounds_toArray, List.set_cons_zero, List.set_cons_succ]
           have E := Aside0.mk Q_E
           clear Q_E
           clear Q_Ea
           clear Q_Eb
           have Ec := Aside0.mk (Q_Ec hb12_)
           clear Q_Ec
           clear Q_Eg
           have Ef := Aside0.mk (Q_Ef hb15_)
           clear Q_Ef
           clear hall hb0_ hb6_ hb7_ hb11_ hb12_ hb13_ hb14_ hb15_
           obtain ⟨gp, evp, hgp, hBg⟩ := Ef.out
           obtain ⟨Ac, cc, evc, hcc, hCc⟩ := Ec.out.out
           subst evp evc
           have F12 := Aside0.mk (⟨Kd.C_below FD.out.1 (E.out.1.trans (below_drew1 (Below.refl _ _))), FD.out.2.1.trans (below_lo (E.out.1.trans (below_drew1 (Below.refl _ _))) FD.out.2.1.size), Kd.C_below FD.out.2.2.1 (E.out.1.trans (below_drew1 (Below.refl _ _))), Kd.C_below FD.out.2.2.2.1 (E.out.1.trans (below_drew1 (Below.refl _ _))), Kd.C_below FD.out.2.2.2.2 (E.out.1.trans (below_drew1 (Below.refl _ _))), Kd.C_below hCc (below_drew1 (Below.refl w'.heap.size w'))⟩ : _ ∧ _ ∧ _ ∧ _ ∧ _ ∧ _)
           have hx0 : w'.drew.cell? ⟨gp, 0, none⟩ = some (.bool false) := (blk_cell hgp 0).trans rfl
           have hx1 : w'.drew.cell? ⟨gp, 1, none⟩ = some (.slice Ac T.length cc) := (blk_cell hgp 1).trans rfl
           have hx2 : w'.drew.cell? ⟨gp, 2, none⟩ = some (.slice none 0 0) := (blk_cell hgp 2).trans rfl
           have hx3 : w'.drew.cell? ⟨gp, 3, none⟩ = some (.slice none 0 0) := (blk_cell hgp 3).trans rfl
           have hx4 : w'.drew.cell? ⟨gp, 4, none⟩ = some (.slice none 0 0) := (blk_cell hgp 4).trans rfl
           have htkl := part_take HLM.out.1 (some adl) cl F7.out.2.2.1
           obtain ⟨Amr, hdrm, hFmr⟩ := part_drop HLM.out.2.1 (some adm) cm F7.out.2.2.2.2.1
           have hm1b := eq_true (show (1 : Int) ≤ (m.length : Int) by have := HLM.out.2.2.2.1; omega)
           replace hFmr := Aside0.mk hFmr
           replace hcc := Aside0.mk hcc
           clear E Ec Ef hgp hBg hCc hp1d hq1d FD HT1 HT2
           go_wp2
           have E0 := trivial
           refine start_ (n := 13) (S := fun w' => True) (ds := []) #[false, false, false, false, false, false, false, false, false, false, false, false, false] (by kernel_rfl) rfl rfl trivial (fun hHeld => ?_)
           refine with_tabW mmov.tab13 mmov.bits13 (fun HT_ HW_ => ?_)
           have E := trivial
           generalize w'.drew = we at F12 hx0 hx1 hx2 hx3 hx4 hHeld ⊢
           have hFl : Aside0 (Kd.F kP we (fun k => k < we.heap.size) (some adl) lf.length lf) := ⟨by have h_ := Kd.F_take (Kd.C_F kP_heap F12.out.2.2.1) (m := lf.length) (by rw [HLM.out.1]; simp); rw [show l.take lf.length = lf by rw [HLM.out.1]; simp] at h_; exact h_⟩
           have hFm : Aside0 (Kd.F kP we (fun k => k < we.heap.size) Amr mr.length mr) := ⟨hFmr.out _ _ (Kd.C_F kP_heap F12.out.2.2.2.1)⟩
           have hn_ : ([] : List Int).length ≤ 0 ∧ Kd.F B8 we (fun k => k < we.heap.size) none ([] : List Int).length [] := ⟨Nat.le_refl _, fun W' _ => Kd.C_nil B8 W'⟩
           have hFk : Aside0 (Kd.FK kP we (fun k => k < we.heap.size) (⟨false, T, [], [], []⟩ : Pt) [Value.bool false, .slice Ac T.length cc, .slice none 0 0, .slice none 0 0, .slice none 0 0]) := ⟨kP_mkF we _ (⟨false, T, [], [], []⟩ : Pt) ⟨hcc.out, Kd.C_F (Kd.heap_int .u8) F12.out.2.2.2.2.2⟩ hn_ hn_ hn_⟩
           have hcs : Aside0 (∀ u ∈ [Value.bool false, .slice Ac T.length cc, .slice none 0 0, .slice none 0 0, .slice none 0 0], u.oneCell' = true) := ⟨by simp [Value.oneCell']⟩
           clear hn_
           refine pure_ (i := 1) (N := some 121) (v := ?_) (a' := ?_) #[false, true, false, false, false, false, false, false, false, false, false, false, false] rfl rfl (any_of HT_.out (by kernel_rfl)) (fun _ _ _ h => h) (Or.inl ⟨by rfl, ?_⟩) ?_ ?_
           rotate_left
           · intro w'
             go_simp
             with_reducible rfl
           rotate_left
           · simp only [Act.put, List.setIfInBounds_toArray, List.set_cons_zero, List.set_cons_succ, i64_w, i32_w]
             rfl
           refine pure_ (i := 2) (N := some 122) (v := ?_) (a' := ?_) #[false, true, true, false, false, false, false, false, false, false, false, false, false] rfl rfl (any_of HT_.out (by kernel_rfl)) (fun _ _ _ h => h) (Or.inl ⟨by rfl, ?_⟩) ?_ ?_
           rotate_left
           · intro w'
             go_simp
             with_reducible rfl
           rotate_left
           · simp only [Act.put, List.setIfInBounds_toArray, List.set_cons_zero, List.set_cons_succ, i64_w, i32_w]
             rfl
           refine pure_ (i := 3) (N := some 123) (v := ?_) (a' := ?_) #[false, true, true, true, false, false, false, false, false, false, false, false, false] rfl rfl (any_of HT_.out (by kernel_rfl)) (fun _ _ _ h => h) (Or.inl ⟨by rfl, ?_⟩) ?_ ?_
           rotate_left
           · intro w'
             go_simp
             with_reducible rfl
           rotate_left
           · simp only [Act.put, List.setIfInBounds_toArray, List.set_cons_zero, List.set_cons_succ, i64_w, i32_w]
             rfl
           refine pure_ (i := 4) (N := some 124) (v := ?_) (a' := ?_) #[false, true, true, true, true, false, false, false, false, false, false, false, false] rfl rfl (any_of HT_.out (by kernel_rfl)) (fun _ _ _ h => h) (Or.inl ⟨by rfl, ?_⟩) ?_ ?_
           rotate_left
           · intro w'
             go_simp
             with_reducible rfl
           rotate_left
           · simp only [Act.put, List.setIfInBounds_toArray, List.set_cons_zero, List.set_cons_succ, i64_w, i32_w]
             rfl
           refine pure_ (i := 9) (N := some 129) (v := ?_) (a' := ?_) #[false, true, true, true, true, false, false, false, false, true, false, false, false] rfl rfl (any_of HT_.out (by kernel_rfl)) (fun _ _ _ h => h) (Or.inl ⟨by rfl, ?_⟩) ?_ ?_
           rotate_left
           · intro w'
             go_simp
             with_reducible rfl
           rotate_left
           · simp only [Act.put, List.setIfInBounds_toArray, List.set_cons_zero, List.set_cons_succ, i64_w, i32_w]
             rfl
           refine pure_ (i := 10) (N := some 130) (v := ?_) (a' := ?_) #[false, true, true, true, true, false, false, false, false, true, true, false, false] rfl rfl (any_of HT_.out (by kernel_rfl)) (fun _ _ _ h => h) (Or.inl ⟨by rfl, ?_⟩) ?_ ?_
           rotate_left
           · intro w'
             go_simp
             with_reducible rfl
           rotate_left
           · simp only [Act.put, List.setIfInBounds_toArray, List.set_cons_zero, List.set_cons_succ, i64_w, i32_w]
             rfl
           refine inv_at [0, 5, 6, 7, 8, 11, 12] (fun a0_ b a w' => ∃ (va : Value) (vb : Value) (vl : Value) (vc : Value) (vd : Value) (m12_ : Value), a = putSel a0_ b [(0, 120, va), (5, 125, vb), (6, 126, .agg #[.bool false, .slice Ac T.length cc, .slice none 0 0, .slice none 0 0, .slice none 0 0]), (7, 127, vl), (8, 128, vc), (11, 131, vd), (12, 15, m12_)] ∧ (Below we.heap.size we w' ∧ we.heap.size ≤ w'.heap.size) ∧ (b 0 = true → b 5 = false → Rp we.heap.size (fun k => k < we.heap.size) w' va []) ∧ (b 5 = true → b 8 = false → Rp we.heap.size (fun k => k < we.heap.size) w' vb lf) ∧ (b 8 = true → b 11 = false → Rp we.heap.size (fun k => k < we.heap.size) w' vc (lf ++ [(⟨false, T, [], [], []⟩ : Pt)])) ∧ (b 11 = true → Rp we.heap.size (fun k => k < we.heap.size) w' vd (lf ++ [(⟨false, T, [], [], []⟩ : Pt)] ++ mr)) ∧ (b 7 = true → b 8 = false → Lt5 vl [Value.bool false, .slice Ac T.length cc, .slice none 0 0, .slice none 0 0, .slice none 0 0] w' ∧ (b 0 = true → b 5 = false → Ap5 vl va) ∧ (b 5 = true → b 8 = false → Ap5 vl vb)) ∧ (b 12 = true → (m12_ : Value) = vd)) HT_.out HW_.out (by kernel_rfl) (by kernel_rfl) ?_ ?_ ?_
           · exact ⟨.bool false, .bool false, .bool false, .bool false, .bool false, .bool false, by simp only [putSel, Bool.false_eq_true, if_false], ⟨Below.refl _ _, Nat.le_refl _⟩, fun h_ => absurd h_ (by decide), fun h_ => absurd h_ (by decide), fun h_ => absurd h_ (by decide), fun h_ => absurd h_ (by decide), fun h_ => absurd h_ (by decide), fun h_ => absurd h_ (by decide)⟩
           · skip
             clear E
             refine steps_cons ?_ ?_
             · rintro b a w' ⟨va, vb, vl, vc, vd, m12_, ha, Q_E, Q_Ea, Q_Eb, Q_Ec, Q_Ed, Q_El, Q_X12_⟩ hb_ hon hoff
               refine ⟨_, rfl, fun K hK => ?_⟩
               replace ha := Aside0.mk ha
               have E := Aside0.mk Q_E
               refine value_ (w1 := w'.alloc (.cells #[] 50)) (v := .slice (some ⟨w'.heap.size, 0, none⟩) 0 0) (by rfl) rfl ?_ ?_
               · go_simp
                 try rfl
               refine hK.out _ _ ⟨(.slice (some ⟨w'.heap.size, 0, none⟩) 0 0), vb, vl, vc, vd, m12_, (by rw [ha.out]; exact putSel_upk 0 hb_ rfl rfl rfl), ⟨E.out.1.trans (below_lo (below_alloc (Below.refl _ _) _) E.out.2), Nat.le_trans E.out.2 (by simp)⟩, fun _ _ => Rp.new E.out.2, fun h0_ _ => absurd ((hoff 5 (by kernel_rfl)).symm.trans h0_) (by decide), fun h0_ _ => absurd ((hoff 8 (by kernel_rfl)).symm.trans h0_) (by decide), fun h0_ => absurd ((hoff 11 (by kernel_rfl)).symm.trans h0_) (by decide), fun h0_ h1_ => ⟨(Q_El h0_ h1_).1.below (below_alloc (Below.refl _ _) _), fun _ _ => Ap5.fresh (Q_El h0_ h1_).1, fun h5_ _ => absurd (up_of h5_ (by decide)) (by rw [hoff 5 (by kernel_rfl)]; decide)⟩, fun h0_ => absurd ((hoff 12 (by kernel_rfl)).symm.trans h0_) (by decide)⟩
             refine steps_cons ?_ ?_
             · rintro b a w' ⟨va, vb, vl, vc, vd, m12_, ha, Q_E, Q_Ea, Q_Eb, Q_Ec, Q_Ed, Q_El, Q_X12_⟩ hb_ hon hoff
               refine ⟨_, rfl, fun K hK => ?_⟩
               have e120 : a.tmps[120]? = some (va) := by rw [ha]; exact putSel_on (e := (0, 120, va)) 0 rfl rfl (hon 0 (by kernel_rfl)) rfl
               have e124 : a.tmps[124]? = some (.slice (some adl) lf.length cl) := by rw [ha]; exact (putSel_off rfl).trans rfl
               replace ha := Aside0.mk ha
               have E := Aside0.mk Q_E
               have Ea := Aside0.mk (Q_Ea (hon 0 (by kernel_rfl)) hb_)
               refine rp_app (B := we.heap.size) (Z := (fun k => k < we.heap.size)) (by rfl) (.tmp 120) (.tmp 124) rfl Tryd.underlying23 inf50 (fun k h => h) (eval_of e120) (eval_of e124) Ea.out (Kd.F_step hFl.out (fun k hk hl => E.out.1.block k hk)) E.out.2 (by have h_ := HL.out; have h1_ := HLM.out.1; have h2_ := HLM.out.2.1; have h3_ := h_.2.2.2.1; have h4_ := h_.2.2.2.2.1; rw [h1_] at h3_; rw [h2_] at h4_; simp at h3_ h4_ ⊢; omega) ?_
               intro v1 w1 r_ g_ at_
               rw [List.nil_append] at r_
               have b_ := g_.below we E.out.1 E.out.2
               refine hK.out _ _ ⟨va, v1, vl, vc, vd, m12_, (by rw [ha.out]; exact putSel_upk 1 hb_ rfl rfl rfl), b_, fun _ h1_ => absurd ((up_self b 5).symm.trans h1_) (by decide), fun _ _ => r_, fun h0_ _ => absurd ((hoff 8 (by kernel_rfl)).symm.trans h0_) (by decide), fun h0_ => absurd ((hoff 11 (by kernel_rfl)).symm.trans h0_) (by decide), fun h0_ h1_ => ⟨(Q_El h0_ h1_).1.grew g_ ((Q_El h0_ h1_).2.1 (hon 0 (by kernel_rfl)) hb_), fun _ h5_ => absurd ((up_self b 5).symm.trans h5_) (by decide), fun _ _ => Ap5.next ((Q_El h0_ h1_).2.1 (hon 0 (by kernel_rfl)) hb_) (Q_El h0_ h1_).1 at_⟩, fun h0_ => absurd ((hoff 12 (by kernel_rfl)).symm.trans h0_) (by decide)⟩
             refine steps_cons ?_ ?_
             · rintro b a w' ⟨va, vb, vl, vc, vd, m12_, ha, Q_E, Q_Ea, Q_Eb, Q_Ec, Q_Ed, Q_El, Q_X12_⟩ hb_ hon hoff
               refine ⟨_, rfl, fun K hK => ?_⟩
               have e17 : a.tmps[17]? = some (.pointer (some ⟨gp, 0, none⟩)) := by rw [ha]; exact (putSel_off rfl).trans rfl
               replace ha := Aside0.mk ha
               have E := Aside0.mk Q_E
               have hc0_ := (E.out.1.cell (World.block_lt_of_cell? _ _ hx0)).trans hx0
               have hc1_ := (E.out.1.cell (World.block_lt_of_cell? _ _ hx1)).trans hx1
               have hc2_ := (E.out.1.cell (World.block_lt_of_cell? _ _ hx2)).trans hx2
               have hc3_ := (E.out.1.cell (World.block_lt_of_cell? _ _ hx3)).trans hx3
               have hc4_ := (E.out.1.cell (World.block_lt_of_cell? _ _ hx4)).trans hx4
               refine value_ (w1 := w') (v := .agg #[.bool false, .slice Ac T.length cc, .slice none 0 0, .slice none 0 0, .slice none 0 0]) (by rfl) rfl ?_ ?_
               · go_simp
                 (try simp only [i64_w])
                 try rfl
               refine hK.out _ _ ⟨va, vb, vl, vc, vd, m12_, (by rw [ha.out]; exact putSel_upk 2 hb_ rfl rfl rfl), Q_E, Q_Ea, Q_Eb, fun h0_ _ => absurd ((hoff 8 (by kernel_rfl)).symm.trans h0_) (by decide), fun h0_ => absurd ((hoff 11 (by kernel_rfl)).symm.trans h0_) (by decide), fun h0_ _ => absurd ((hoff 7 (by kernel_rfl)).symm.trans h0_) (by decide), fun h0_ => absurd ((hoff 12 (by kernel_rfl)).symm.trans h0_) (by decide)⟩
             refine steps_cons ?_ ?_
             · rintro b a w' ⟨va, vb, vl, vc, vd, m12_, ha, Q_E, Q_Ea, Q_Eb, Q_Ec, Q_Ed, Q_El, Q_X12_⟩ hb_ hon hoff
               refine ⟨_, rfl, fun K hK => ?_⟩
               have e126 : a.tmps[126]? = some (.agg #[.bool false, .slice Ac T.length cc, .slice none 0 0, .slice none 0 0, .slice none 0 0]) := by rw [ha]; exact putSel_on (e := (6, 126, .agg #[.bool false, .slice Ac T.length cc, .slice none 0 0, .slice none 0 0, .slice none 0 0])) 2 rfl rfl (hon 6 (by kernel_rfl)) rfl
               replace ha := Aside0.mk ha
               have E := Aside0.mk Q_E
               refine value_ (w1 := w'.alloc (.cells #[.bool false, .slice Ac T.length cc, .slice none 0 0, .slice none 0 0, .slice none 0 0] 50)) (v := .slice (some ⟨w'.heap.size, 0, none⟩) 1 1) (by rfl) rfl ?_ ?_
               · go_simp
                 try rfl
               have sA_ : b 0 = true → b 5 = false → Ap5 (.slice (some ⟨w'.heap.size, 0, none⟩) 1 1) va := fun h0_ h5_ => Ap5.lit (Q_Ea h0_ h5_)
               have sB_ : b 5 = true → b 8 = false → Ap5 (.slice (some ⟨w'.heap.size, 0, none⟩) 1 1) vb := fun h0_ h5_ => Ap5.lit (Q_Eb h0_ h5_)
               refine hK.out _ _ ⟨va, vb, (.slice (some ⟨w'.heap.size, 0, none⟩) 1 1), vc, vd, m12_, (by rw [ha.out]; exact putSel_upk 3 hb_ rfl rfl rfl), ⟨E.out.1.trans (below_lo (below_alloc (Below.refl _ _) _) E.out.2), Nat.le_trans E.out.2 (by simp)⟩, fun h0_ h1_ => (Q_Ea h0_ h1_).below (below_alloc (Below.refl _ _) _), fun h0_ h1_ => (Q_Eb h0_ h1_).below (below_alloc (Below.refl _ _) _), fun h0_ _ => absurd ((hoff 8 (by kernel_rfl)).symm.trans h0_) (by decide), fun h0_ => absurd ((hoff 11 (by kernel_rfl)).symm.trans h0_) (by decide), fun _ _ => ⟨⟨_, rfl, heap_alloc_new w' _⟩, fun h0_ h5_ => sA_ (up_of h0_ (by decide)) (up_off h5_ (by decide)), fun h0_ h5_ => sB_ (up_of h0_ (by decide)) (up_off h5_ (by decide))⟩, fun h0_ => absurd ((hoff 12 (by kernel_rfl)).symm.trans h0_) (by decide)⟩
             refine steps_cons ?_ ?_
             · rintro b a w' ⟨va, vb, vl, vc, vd, m12_, ha, Q_E, Q_Ea, Q_Eb, Q_Ec, Q_Ed, Q_El, Q_X12_⟩ hb_ hon hoff
               refine ⟨_, rfl, fun K hK => ?_⟩
               have e125 : a.tmps[125]? = some (vb) := by rw [ha]; exact putSel_on (e := (5, 125, vb)) 1 rfl rfl (hon 5 (by kernel_rfl)) rfl
               have e127 : a.tmps[127]? = some (vl) := by rw [ha]; exact putSel_on (e := (7, 127, vl)) 3 rfl rfl (hon 7 (by kernel_rfl)) rfl
               replace ha := Aside0.mk ha
               have E := Aside0.mk Q_E
               have Eb := Aside0.mk (Q_Eb (hon 5 (by kernel_rfl)) hb_)
               have El := Aside0.mk (Q_El (hon 7 (by kernel_rfl)) hb_)
               obtain ⟨gl_, evl_, hgl_⟩ := El.out.1
               rw [evl_] at e127
               refine rp_one (B := we.heap.size) (Z := (fun k => k < we.heap.size)) (by rfl) (.tmp 125) (.tmp 127) rfl Tryd.underlying23 inf50 (fun k h => h) hgl_ (eval_of e125) (eval_of e127) Eb.out rfl (Kd.FK_step hFk.out (fun k hk hl => E.out.1.block k hk)) hcs.out E.out.2 (by have h_ := HL.out; have h1_ := HLM.out.1; have h2_ := HLM.out.2.1; have h3_ := h_.2.2.2.1; have h4_ := h_.2.2.2.2.1; rw [h1_] at h3_; rw [h2_] at h4_; simp at h3_ h4_ ⊢; omega) ?_
               intro v1 w1 r_ g_ at_
               have b_ := g_.below we E.out.1 E.out.2
               refine hK.out _ _ ⟨va, vb, vl, v1, vd, m12_, (by rw [ha.out]; exact putSel_upk 4 hb_ rfl rfl rfl), b_, fun _ h1_ => absurd ((hon 5 (by kernel_rfl)).symm.trans h1_) (by decide), fun _ h1_ => absurd ((up_self b 8).symm.trans h1_) (by decide), fun _ _ => r_, fun h0_ => absurd ((hoff 11 (by kernel_rfl)).symm.trans h0_) (by decide), fun _ h1_ => absurd ((up_self b 8).symm.trans h1_) (by decide), fun h0_ => absurd ((hoff 12 (by kernel_rfl)).symm.trans h0_) (by decide)⟩
             refine steps_cons ?_ ?_
             · rintro b a w' ⟨va, vb, vl, vc, vd, m12_, ha, Q_E, Q_Ea, Q_Eb, Q_Ec, Q_Ed, Q_El, Q_X12_⟩ hb_ hon hoff
               refine ⟨_, rfl, fun K hK => ?_⟩
               have e128 : a.tmps[128]? = some (vc) := by rw [ha]; exact putSel_on (e := (8, 128, vc)) 4 rfl rfl (hon 8 (by kernel_rfl)) rfl
               have e130 : a.tmps[130]? = some (.slice Amr mr.length (cm - 1)) := by rw [ha]; exact (putSel_off rfl).trans rfl
               replace ha := Aside0.mk ha
               have E := Aside0.mk Q_E
               have Ec := Aside0.mk (Q_Ec (hon 8 (by kernel_rfl)) hb_)
               refine rp_app (B := we.heap.size) (Z := (fun k => k < we.heap.size)) (by rfl) (.tmp 128) (.tmp 130) rfl Tryd.underlying23 inf50 (fun k h => h) (eval_of e128) (eval_of e130) Ec.out (Kd.F_step hFm.out (fun k hk hl => E.out.1.block k hk)) E.out.2 (by have h_ := HL.out; have h1_ := HLM.out.1; have h2_ := HLM.out.2.1; have h3_ := h_.2.2.2.1; have h4_ := h_.2.2.2.2.1; rw [h1_] at h3_; rw [h2_] at h4_; simp at h3_ h4_ ⊢; omega) ?_
               intro v1 w1 r_ g_ at_
               have b_ := g_.below we E.out.1 E.out.2
               refine hK.out _ _ ⟨va, vb, vl, vc, v1, m12_, (by rw [ha.out]; exact putSel_upk 5 hb_ rfl rfl rfl), b_, fun _ h1_ => absurd ((hon 5 (by kernel_rfl)).symm.trans h1_) (by decide), fun _ h1_ => absurd ((hon 8 (by kernel_rfl)).symm.trans h1_) (by decide), fun _ h1_ => absurd ((up_self b 11).symm.trans h1_) (by decide), fun _ => r_, fun _ h1_ => absurd ((hon 8 (by kernel_rfl)).symm.trans h1_) (by decide), fun h0_ => absurd ((hoff 12 (by kernel_rfl)).symm.trans h0_) (by decide)⟩
             refine steps_cons ?_ ?_
             · rintro b a w' ⟨va, vb, vl, vc, vd, m12_, ha, Q_E, Q_Ea, Q_Eb, Q_Ec, Q_Ed, Q_El, Q_X12_⟩ hb_ hon hoff
               refine ⟨_, rfl, fun K hK => ?_⟩
               have e131 : a.tmps[131]? = some (vd) := by rw [ha]; exact putSel_on (e := (11, 131, vd)) 5 rfl rfl (hon 11 (by kernel_rfl)) rfl
               replace ha := Aside0.mk ha
               have E := Aside0.mk Q_E
               have Ed := Aside0.mk (Q_Ed (hon 11 (by kernel_rfl)))
               refine value_ (w1 := w') (v := vd) (by rfl) rfl ?_ ?_
               · go_simp
                 (try simp only [i64_w])
                 try rfl
               refine hK.out _ _ ⟨va, vb, vl, vc, vd, (vd), (by rw [ha.out]; exact putSel_upk 6 hb_ rfl rfl rfl), Q_E, fun _ h1_ => absurd ((hon 5 (by kernel_rfl)).symm.trans h1_) (by decide), fun _ h1_ => absurd ((hon 8 (by kernel_rfl)).symm.trans h1_) (by decide), fun _ h1_ => absurd ((hon 11 (by kernel_rfl)).symm.trans h1_) (by decide), Q_Ed, fun _ h1_ => absurd ((hon 8 (by kernel_rfl)).symm.trans h1_) (by decide), fun _ => rfl⟩
             exact steps_nil
           · rintro b a w' hall ⟨va, vb, vl, vc, vd, m12_, ha, Q_E, Q_Ea, Q_Eb, Q_Ec, Q_Ed, Q_El, Q_X12_⟩
             clear E
             have hb0_ := hall 0 (by kernel_rfl)
             have hb5_ := hall 5 (by kernel_rfl)
             have hb6_ := hall 6 (by kernel_rfl)
             have hb7_ := hall 7 (by kernel_rfl)
             have hb8_ := hall 8 (by kernel_rfl)
             have hb11_ := hall 11 (by kernel_rfl)
             have hb12_ := hall 12 (by kernel_rfl)
             subst ha
             obtain rfl := Q_X12_ hb12_
             simp only [putSel, hb0_, hb5_, hb6_, hb7_, hb8_, hb11_, hb12_, if_true, Act.put, List.setIfInBounds_toArray, List.set_cons_zero, List.set_cons_succ]
             have E := Aside0.mk Q_E
             clear Q_E
             clear Q_Ea
             clear Q_Eb
             clear Q_Ec
             have Ed := Aside0.mk (Q_Ed hb11_)
             clear Q_Ed
             clear Q_El
             clear hall hb0_ hb5_ hb6_ hb7_ hb8_ hb11_ hb12_
             have hjt2 : lf ++ [⟨false, T, [], [], []⟩] ++ mr = bo := by
               rw [hgl.out, glue_both HLM.out.1 HLM.out.2.1 hpr.out hqr.out hok.out, hT.out]
             rw [hjt2] at Ed
             obtain ⟨AK, cK, evd, hcK, hCK⟩ := Ed.out.out
             subst evd
             obtain ⟨wK, rfl⟩ : ∃ q, q = w' := ⟨_, rfl⟩
             have FT := Aside0.mk (⟨Kd.C_below F12.out.1 E.out.1, F12.out.2.1.trans (below_lo E.out.1 F12.out.2.1.size), Kd.C_below F12.out.2.2.2.2.1 E.out.1, hCK⟩ : _ ∧ _ ∧ _ ∧ _)
             have HJc := Aside0.mk hcK
             clear E Ed hcK hCK hx0 hx1 hx2 hx3 hx4 htkl hdrm hm1b hjt2
             go_upto_region 14 with (fail)
             go_upto_region 15 with (first | (go_at_call 16; refine (mark_Length.calls kL 1 (some ⟨wK.heap.size, 0, none⟩) 1 [x] LN _ (lit_rows (heap_alloc_new wK _) HX.out.1 (Kd.C_below FT.out.1 (below_alloc (Below.refl _ _) _))) (Nat.le_refl _) hkL.out).mono ?_; rintro e_ wL ⟨rfl, hb_⟩; have hz_ := (below_alloc (Below.refl _ _) _).trans (below_lo hb_ (by simp)); have FL := Aside0.mk (⟨Kd.C_below FT.out.1 hz_, FT.out.2.1.trans (below_lo hz_ FT.out.2.1.size), Kd.C_below FT.out.2.2.1 hz_, Kd.C_below FT.out.2.2.2 hz_⟩ : _ ∧ _ ∧ _ ∧ _); clear hb_ hz_) | (go_at_call 9; refine (hR4.out wL FL.out.1).mono ?_; rintro e_ wO ⟨Ao, co, rfl, hc_, hC_, hb_⟩; have FO := Aside0.mk (⟨Kd.C_below FL.out.1 hb_, FL.out.2.1.trans (below_lo hb_ FL.out.2.1.size), Kd.C_below FL.out.2.2.1 hb_, Kd.C_below FL.out.2.2.2 hb_, hC_⟩ : _ ∧ _ ∧ _ ∧ _ ∧ _); clear hc_ hC_ hb_))
             obtain ⟨ado, x', G1, v1, G2, v2, G3, v3, G4, v4, eA_, hx', _, ho0, ho1, ho2, ho3, ho4, gg1, _⟩ := at_Pt (Kd.C_F kP_heap FO.out.2.2.2.2) 0 (Int.le_refl _) (by simp)
             subst eA_
             obtain rfl : (⟨false, x, [], [], []⟩ : Pt) = x' := Option.some.inj hx'
             have eo0_ : ado.add ((0 : Int).toNat * 5) = ado := by simp [Addr.add]
             rw [eo0_] at ho1
             simp only at ho1 gg1
             have hgC := Aside0.mk (Kd.F_now gg1.2)
             have FD := Aside0.mk (⟨Kd.C_below FO.out.1 (below_drew1 (Below.refl wO.heap.size wO)), FO.out.2.1.trans (below_lo (below_drew1 (Below.refl wO.heap.size wO)) FO.out.2.1.size), Kd.C_below FO.out.2.2.1 (below_drew1 (Below.refl wO.heap.size wO)), Kd.C_below FO.out.2.2.2.1 (below_drew1 (Below.refl wO.heap.size wO)), Kd.C_below hgC.out (below_drew1 (Below.refl wO.heap.size wO))⟩ : _ ∧ _ ∧ _ ∧ _ ∧ _)
             have ho1d : wO.drew.cell? ⟨ado.block, ado.off + 1, none⟩ = some (.slice G1 x.length v1) := ho1
             clear ho0 ho1 ho2 ho3 ho4 gg1 hx' eo0_ hgC
             have E0 := trivial
             refine start_ (n := 29) (S := fun w' => True) (ds := []) #[false, false, false, false, false, false, false, false, false, false, false, false, false, false, false, false, false, false, false, false, false, false, false, false, false, false, false, false, false] (by kernel_rfl) rfl rfl trivial (fun hHeld => ?_)
             refine with_tabW mmov.tab15 mmov.bits15 (fun HT_ HW_ => ?_)
             have E := trivial
             generalize wO.drew = wd at FD ho1d hHeld ⊢
             refine pure_ (i := 0) (N := some 140) (v := ?_) (a' := ?_) #[true, false, false, false, false, false, false, false, false, false, false, false, false, false, false, false, false, false, false, false, false, false, false, false, false, false, false, false, false] rfl rfl (any_of HT_.out (by kernel_rfl)) (fun _ _ _ h => h) (Or.inl ⟨by rfl, ?_⟩) ?_ ?_
             rotate_left
             · intro w'
               go_simp
               with_reducible rfl
             rotate_left
             · simp only [Act.put, List.setIfInBounds_toArray, List.set_cons_zero, List.set_cons_succ, i64_w, i32_w]
               rfl
             refine pure_ (i := 1) (N := some 141) (v := ?_) (a' := ?_) #[true, true, false, false, false, false, false, false, false, false, false, false, false, false, false, false, false, false, false, false, false, false, false, false, false, false, false, false, false] rfl rfl (any_of HT_.out (by kernel_rfl)) (fun _ _ _ h => h) (Or.inl ⟨by rfl, ?_⟩) ?_ ?_
             rotate_left
             · intro w'
               go_simp
               with_reducible rfl
             rotate_left
             · simp only [Act.put, List.setIfInBounds_toArray, List.set_cons_zero, List.set_cons_succ, i64_w, i32_w]
               rfl
             refine pure_ (i := 2) (N := some 142) (v := ?_) (a' := ?_) #[true, true, true, false, false, false, false, false, false, false, false, false, false, false, false, false, false, false, false, false, false, false, false, false, false, false, false, false, false] rfl rfl (any_of HT_.out (by kernel_rfl)) (fun _ _ _ h => h) (Or.inl ⟨by rfl, ?_⟩) ?_ ?_
             rotate_left
             · intro w'
               go_simp
               with_reducible rfl
             rotate_left
             · simp only [Act.put, List.setIfInBounds_toArray, List.set_cons_zero, List.set_cons_succ, i64_w, i32_w]
               rfl
             refine pure_ (i := 3) (N := some 143) (v := ?_) (a' := ?_) #[true, true, true, true, false, false, false, false, false, false, false, false, false, false, false, false, false, false, false, false, false, false, false, false, false, false, false, false, false] rfl rfl (any_of HT_.out (by kernel_rfl)) (fun _ _ _ h => h) (Or.inl ⟨by rfl, ?_⟩) ?_ ?_
             rotate_left
             · intro w'
               go_simp
               with_reducible rfl
             rotate_left
             · simp only [Act.put, List.setIfInBounds_toArray, List.set_cons_zero, List.set_cons_succ, i64_w, i32_w]
               rfl
             refine pure_ (i := 5) (N := some 145) (v := ?_) (a' := ?_) #[true, true, true, true, false, true, false, false, false, false, false, false, false, false, false, false, false, false, false, false, false, false, false, false, false, false, false, false, false] rfl rfl (any_of HT_.out (by kernel_rfl)) (fun _ _ _ h => h) (Or.inl ⟨by rfl, ?_⟩) ?_ ?_
             rotate_left
             · intro w'
               go_simp
               with_reducible rfl
             rotate_left
             · simp only [Act.put, List.setIfInBounds_toArray, List.set_cons_zero, List.set_cons_succ, i64_w, i32_w]
               rfl
             refine inv_at [4, 6, 7, 8, 9, 10, 11, 12, 13, 14, 15, 16, 17, 18, 19, 20, 21, 22, 23, 24, 25, 26, 27, 28] (fun a0_ b a w' => ∃ (va : Value) (vb : Value), a = putSel a0_ b [(4, 144, va), (6, 146, vb), (7, 147, .bool true), (8, 148, .bool true), (9, 149, .bool true), (10, 150, .int .i64 0), (11, 151, .bool true), (12, 152, .bool true), (13, 153, .bool true), (14, 154, .slice (some ado) 1 co), (15, 155, .int .i64 1), (16, 156, .bool true), (17, 157, .bool true), (18, 158, .bool true), (19, 159, .slice (some ado) 1 co), (20, 160, .pointer (some ado)), (21, 161, .pointer (some ⟨ado.block, ado.off + 1, none⟩)), (22, 162, .slice G1 x.length v1), (23, 163, .string (strOfNums x)), (24, 164, .slice AX x.length cX), (25, 165, .string (strOfNums x)), (26, 166, .bool true), (27, 167, .bool true), (28, 6, .bool true)] ∧ (Below wd.heap.size wd w') ∧ (b 4 = true → (∃ (A : Option Addr) (c : Nat), va = .slice A bo.length c ∧ Kd.C kP w' A bo.length bo)) ∧ (b 6 = true → (∃ (A : Option Addr) (c : Nat), vb = .slice A bo.length c ∧ Kd.C kP w' A bo.length bo))) HT_.out HW_.out (by kernel_rfl) (by kernel_rfl) ?_ ?_ ?_
             · exact ⟨.bool false, .bool false, by simp only [putSel, Bool.false_eq_true, if_false], Below.refl _ _, fun h_ => absurd h_ (by decide), fun h_ => absurd h_ (by decide)⟩
             · skip
               clear E
               refine steps_cons ?_ ?_
               · rintro b a w' ⟨va, vb, ha, Q_E, Q_Ea, Q_Eb⟩ hb_ hon hoff
                 refine ⟨_, rfl, fun K hK => ?_⟩
                 have e143 : a.tmps[143]? = some (.slice Ab bo.length cb) := by rw [ha]; exact (putSel_off rfl).trans rfl
                 have e142 : a.tmps[142]? = some (.bool true) := by rw [ha]; exact (putSel_off rfl).trans rfl
                 replace ha := Aside0.mk ha
                 have E := Aside0.mk Q_E
                 refine goes_ Tryd.func13 (by kernel_rfl) rfl #[.slice Ab bo.length cb] (wanted_on rfl rfl rfl (e142.trans (by first | rfl | (simp [*]; done)))) rfl rfl (by first | (simp only [List.map_toArray, List.map_cons, List.map_nil, Act.eval, Array.getD_eq_getD_getElem?, Option.getD_some, e143, e142]; done) | (simp only [List.map_toArray, List.map_cons, List.map_nil, Act.eval, Array.getD_eq_getD_getElem?, Option.getD_some, e143, e142]; rfl)) ?_
                 refine (as_calls Ab cb bo _ (Kd.C_below FD.out.2.2.1 E.out) F7.out.2.2.2.2.2.2.1 (by have := HL.out.2.2.2.2.2; omega)).mono ?_
                 rintro e w24 ⟨A5_, c5_, rfl, hc5_, hC5_, hb⟩
                 refine ⟨_, rfl, ?_⟩
                 have E3_ := below_step E.out hb
                 have S3_ : (∃ (A : Option Addr) (c : Nat), (Value.slice A5_ bo.length c5_) = .slice A bo.length c ∧ Kd.C kP w24 A bo.length bo) := ⟨A5_, c5_, rfl, hC5_⟩
                 refine hK.out _ _ ⟨(.slice A5_ bo.length c5_), vb, (by rw [ha.out]; exact putSel_upk 0 hb_ rfl rfl rfl), E3_, fun _ => S3_, fun h0_ => absurd ((hoff 6 (by kernel_rfl)).symm.trans h0_) (by decide)⟩
               refine steps_cons ?_ ?_
               · rintro b a w' ⟨va, vb, ha, Q_E, Q_Ea, Q_Eb⟩ hb_ hon hoff
                 refine ⟨_, rfl, fun K hK => ?_⟩
                 have e145 : a.tmps[145]? = some (.slice AK bo.length cK) := by rw [ha]; exact (putSel_off rfl).trans rfl
                 have e142 : a.tmps[142]? = some (.bool true) := by rw [ha]; exact (putSel_off rfl).trans rfl
                 replace ha := Aside0.mk ha
                 have E := Aside0.mk Q_E
                 have Ea := Aside0.mk (Q_Ea (hon 4 (by kernel_rfl)))
                 refine goes_ Tryd.func13 (by kernel_rfl) rfl #[.slice AK bo.length cK] (wanted_on rfl rfl rfl (e142.trans (by first | rfl | (simp [*]; done)))) rfl rfl (by first | (simp only [List.map_toArray, List.map_cons, List.map_nil, Act.eval, Array.getD_eq_getD_getElem?, Option.getD_some, e145, e142]; done) | (simp only [List.map_toArray, List.map_cons, List.map_nil, Act.eval, Array.getD_eq_getD_getElem?, Option.getD_some, e145, e142]; rfl)) ?_
                 refine (as_calls AK cK bo _ (Kd.C_below FD.out.2.2.2.1 E.out) HJc.out (by have := HL.out.2.2.2.2.2; omega)).mono ?_
                 rintro e w24 ⟨A5_, c5_, rfl, hc5_, hC5_, hb⟩
                 refine ⟨_, rfl, ?_⟩
                 have E3_ := below_step E.out hb
                 have S3_ : (∃ (A : Option Addr) (c : Nat), (Value.slice A5_ bo.length c5_) = .slice A bo.length c ∧ Kd.C kP w24 A bo.length bo) := ⟨A5_, c5_, rfl, hC5_⟩
                 refine hK.out _ _ ⟨va, (.slice A5_ bo.length c5_), (by rw [ha.out]; exact putSel_upk 1 hb_ rfl rfl rfl), E3_, fun _ => (let ⟨A_, c_, e_, h_⟩ := Ea.out; ⟨A_, c_, e_, Kd.C_below h_ hb⟩), fun _ => S3_⟩
               refine steps_cons ?_ ?_
               · rintro b a w' ⟨va, vb, ha, Q_E, Q_Ea, Q_Eb⟩ hb_ hon hoff
                 refine ⟨_, rfl, fun K hK => ?_⟩
                 have e144 : a.tmps[144]? = some (va) := by rw [ha]; exact putSel_on (e := (4, 144, va)) 0 rfl rfl (hon 4 (by kernel_rfl)) rfl
                 have e146 : a.tmps[146]? = some (vb) := by rw [ha]; exact putSel_on (e := (6, 146, vb)) 1 rfl rfl (hon 6 (by kernel_rfl)) rfl
                 have e142 : a.tmps[142]? = some (.bool true) := by rw [ha]; exact (putSel_off rfl).trans rfl
                 replace ha := Aside0.mk ha
                 have E := Aside0.mk Q_E
                 have Ea := Aside0.mk (Q_Ea (hon 4 (by kernel_rfl)))
                 have Eb := Aside0.mk (Q_Eb (hon 6 (by kernel_rfl)))
                 obtain ⟨Aa_, ca_, ea_, hCa_⟩ := Ea.out
                 obtain ⟨Ab_, cb_, eb_, hCb_⟩ := Eb.out
                 rw [ea_] at e144
                 rw [eb_] at e146
                 refine goes_ Tryd.func12 (by kernel_rfl) rfl #[.slice Aa_ bo.length ca_, .slice Ab_ bo.length cb_] (wanted_on rfl rfl rfl (e142.trans (by first | rfl | (simp [*]; done)))) rfl rfl (by first | (simp only [List.map_toArray, List.map_cons, List.map_nil, Act.eval, Array.getD_eq_getD_getElem?, Option.getD_some, e144, e146, e142]; done) | (simp only [List.map_toArray, List.map_cons, List.map_nil, Act.eval, Array.getD_eq_getD_getElem?, Option.getD_some, e144, e146, e142]; rfl)) ?_
                 refine (same_calls Aa_ Ab_ ca_ cb_ bo _ hCa_ hCb_).mono ?_
                 rintro e w24 ⟨rfl, hb⟩
                 refine ⟨_, rfl, ?_⟩
                 have E3_ := below_step E.out hb
                 have Sa_ : (∃ (A : Option Addr) (c : Nat), va = .slice A bo.length c ∧ Kd.C kP w24 A bo.length bo) := ⟨Aa_, ca_, ea_, Kd.C_below hCa_ hb⟩
                 have Sb_ : (∃ (A : Option Addr) (c : Nat), vb = .slice A bo.length c ∧ Kd.C kP w24 A bo.length bo) := ⟨Ab_, cb_, eb_, Kd.C_below hCb_ hb⟩
                 refine hK.out _ _ ⟨va, vb, (by rw [ha.out]; exact putSel_upk 2 hb_ rfl rfl rfl), E3_, fun _ => Sa_, fun _ => Sb_⟩
               refine steps_cons ?_ ?_
               · rintro b a w' ⟨va, vb, ha, Q_E, Q_Ea, Q_Eb⟩ hb_ hon hoff
                 refine ⟨_, rfl, fun K hK => ?_⟩
                 have e142 : a.tmps[142]? = some (.bool true) := by rw [ha]; exact (putSel_off rfl).trans rfl
                 have e147 : a.tmps[147]? = some (.bool true) := by rw [ha]; exact putSel_on (e := (7, 147, .bool true)) 2 rfl rfl (hon 7 (by kernel_rfl)) rfl
                 replace ha := Aside0.mk ha
                 have E := Aside0.mk Q_E
                 have Ea := Aside0.mk (Q_Ea (hon 4 (by kernel_rfl)))
                 have Eb := Aside0.mk (Q_Eb (hon 6 (by kernel_rfl)))
                 refine value_ (w1 := w') (v := .bool true) (by rfl) rfl ?_ ?_
                 · go_simp
                   (try simp only [i64_w])
                   try rfl
                 refine hK.out _ _ ⟨va, vb, (by rw [ha.out]; exact putSel_upk 3 hb_ rfl rfl rfl), Q_E, Q_Ea, Q_Eb⟩
               refine steps_cons ?_ ?_
               · rintro b a w' ⟨va, vb, ha, Q_E, Q_Ea, Q_Eb⟩ hb_ hon hoff
                 refine ⟨_, rfl, fun K hK => ?_⟩
                 have e148 : a.tmps[148]? = some (.bool true) := by rw [ha]; exact putSel_on (e := (8, 148, .bool true)) 3 rfl rfl (hon 8 (by kernel_rfl)) rfl
                 replace ha := Aside0.mk ha
                 have E := Aside0.mk Q_E
                 have Ea := Aside0.mk (Q_Ea (hon 4 (by kernel_rfl)))
                 have Eb := Aside0.mk (Q_Eb (hon 6 (by kernel_rfl)))
                 refine value_ (w1 := w') (v := .bool true) (by rfl) rfl ?_ ?_
                 · go_simp
                   (try simp only [i64_w])
                   try rfl
                 refine hK.out _ _ ⟨va, vb, (by rw [ha.out]; exact putSel_upk 4 hb_ rfl rfl rfl), Q_E, Q_Ea, Q_Eb⟩
               refine steps_cons ?_ ?_
               · rintro b a w' ⟨va, vb, ha, Q_E, Q_Ea, Q_Eb⟩ hb_ hon hoff
                 refine ⟨_, rfl, fun K hK => ?_⟩
                 have e19 : a.tmps[19]? = some (.int .i64 0) := by rw [ha]; exact (putSel_off rfl).trans rfl
                 have e149 : a.tmps[149]? = some (.bool true) := by rw [ha]; exact putSel_on (e := (9, 149, .bool true)) 4 rfl rfl (hon 9 (by kernel_rfl)) rfl
                 replace ha := Aside0.mk ha
                 have E := Aside0.mk Q_E
                 have Ea := Aside0.mk (Q_Ea (hon 4 (by kernel_rfl)))
                 have Eb := Aside0.mk (Q_Eb (hon 6 (by kernel_rfl)))
                 refine value_ (w1 := w') (v := .int .i64 0) (wanted_on rfl rfl rfl (e149.trans (by first | rfl | (simp [*]; done)))) rfl ?_ ?_
                 · go_simp
                   (try simp only [i64_w])
                   try rfl
                 refine hK.out _ _ ⟨va, vb, (by rw [ha.out]; exact putSel_upk 5 hb_ rfl rfl rfl), Q_E, Q_Ea, Q_Eb⟩
               refine steps_cons ?_ ?_
               · rintro b a w' ⟨va, vb, ha, Q_E, Q_Ea, Q_Eb⟩ hb_ hon hoff
                 refine ⟨_, rfl, fun K hK => ?_⟩
                 have e150 : a.tmps[150]? = some (.int .i64 0) := by rw [ha]; exact putSel_on (e := (10, 150, .int .i64 0)) 5 rfl rfl (hon 10 (by kernel_rfl)) rfl
                 have e149 : a.tmps[149]? = some (.bool true) := by rw [ha]; exact putSel_on (e := (9, 149, .bool true)) 4 rfl rfl (hon 9 (by kernel_rfl)) rfl
                 replace ha := Aside0.mk ha
                 have E := Aside0.mk Q_E
                 have Ea := Aside0.mk (Q_Ea (hon 4 (by kernel_rfl)))
                 have Eb := Aside0.mk (Q_Eb (hon 6 (by kernel_rfl)))
                 refine value_ (w1 := w') (v := .bool true) (wanted_on rfl rfl rfl (e149.trans (by first | rfl | (simp [*]; done)))) rfl ?_ ?_
                 · go_simp
                   (try simp only [i64_w])
                   try rfl
                 refine hK.out _ _ ⟨va, vb, (by rw [ha.out]; exact putSel_upk 6 hb_ rfl rfl rfl), Q_E, Q_Ea, Q_Eb⟩
               refine steps_cons ?_ ?_
               · rintro b a w' ⟨va, vb, ha, Q_E, Q_Ea, Q_Eb⟩ hb_ hon hoff
                 refine ⟨_, rfl, fun K hK => ?_⟩
                 have e149 : a.tmps[149]? = some (.bool true) := by rw [ha]; exact putSel_on (e := (9, 149, .bool true)) 4 rfl rfl (hon 9 (by kernel_rfl)) rfl
                 have e151 : a.tmps[151]? = some (.bool true) := by rw [ha]; exact putSel_on (e := (11, 151, .bool true)) 6 rfl rfl (hon 11 (by kernel_rfl)) rfl
                 replace ha := Aside0.mk ha
                 have E := Aside0.mk Q_E
                 have Ea := Aside0.mk (Q_Ea (hon 4 (by kernel_rfl)))
                 have Eb := Aside0.mk (Q_Eb (hon 6 (by kernel_rfl)))
                 refine value_ (w1 := w') (v := .bool true) (by rfl) rfl ?_ ?_
                 · go_simp
                   (try simp only [i64_w])
                   try rfl
                 refine hK.out _ _ ⟨va, vb, (by rw [ha.out]; exact putSel_upk 7 hb_ rfl rfl rfl), Q_E, Q_Ea, Q_Eb⟩
               refine steps_cons ?_ ?_
               · rintro b a w' ⟨va, vb, ha, Q_E, Q_Ea, Q_Eb⟩ hb_ hon hoff
                 refine ⟨_, rfl, fun K hK => ?_⟩
                 have e152 : a.tmps[152]? = some (.bool true) := by rw [ha]; exact putSel_on (e := (12, 152, .bool true)) 7 rfl rfl (hon 12 (by kernel_rfl)) rfl
                 replace ha := Aside0.mk ha
                 have E := Aside0.mk Q_E
                 have Ea := Aside0.mk (Q_Ea (hon 4 (by kernel_rfl)))
                 have Eb := Aside0.mk (Q_Eb (hon 6 (by kernel_rfl)))
                 refine value_ (w1 := w') (v := .bool true) (by rfl) rfl ?_ ?_
                 · go_simp
                   (try simp only [i64_w])
                   try rfl
                 refine hK.out _ _ ⟨va, vb, (by rw [ha.out]; exact putSel_upk 8 hb_ rfl rfl rfl), Q_E, Q_Ea, Q_Eb⟩
               refine steps_cons ?_ ?_
               · rintro b a w' ⟨va, vb, ha, Q_E, Q_Ea, Q_Eb⟩ hb_ hon hoff
                 refine ⟨_, rfl, fun K hK => ?_⟩
                 have e18 : a.tmps[18]? = some (.slice (some ado) 1 co) := by rw [ha]; exact (putSel_off rfl).trans rfl
                 have e153 : a.tmps[153]? = some (.bool true) := by rw [ha]; exact putSel_on (e := (13, 153, .bool true)) 8 rfl rfl (hon 13 (by kernel_rfl)) rfl
                 replace ha := Aside0.mk ha
                 have E := Aside0.mk Q_E
                 have Ea := Aside0.mk (Q_Ea (hon 4 (by kernel_rfl)))
                 have Eb := Aside0.mk (Q_Eb (hon 6 (by kernel_rfl)))
                 refine value_ (w1 := w') (v := .slice (some ado) 1 co) (wanted_on rfl rfl rfl (e153.trans (by first | rfl | (simp [*]; done)))) rfl ?_ ?_
                 · go_simp
                   (try simp only [i64_w])
                   try rfl
                 refine hK.out _ _ ⟨va, vb, (by rw [ha.out]; exact putSel_upk 9 hb_ rfl rfl rfl), Q_E, Q_Ea, Q_Eb⟩
               refine steps_cons ?_ ?_
               · rintro b a w' ⟨va, vb, ha, Q_E, Q_Ea, Q_Eb⟩ hb_ hon hoff
                 refine ⟨_, rfl, fun K hK => ?_⟩
                 have e154 : a.tmps[154]? = some (.slice (some ado) 1 co) := by rw [ha]; exact putSel_on (e := (14, 154, .slice (some ado) 1 co)) 9 rfl rfl (hon 14 (by kernel_rfl)) rfl
                 have e153 : a.tmps[153]? = some (.bool true) := by rw [ha]; exact putSel_on (e := (13, 153, .bool true)) 8 rfl rfl (hon 13 (by kernel_rfl)) rfl
                 replace ha := Aside0.mk ha
                 have E := Aside0.mk Q_E
                 have Ea := Aside0.mk (Q_Ea (hon 4 (by kernel_rfl)))
                 have Eb := Aside0.mk (Q_Eb (hon 6 (by kernel_rfl)))
                 refine value_ (w1 := w') (v := .int .i64 1) (wanted_on rfl rfl rfl (e153.trans (by first | rfl | (simp [*]; done)))) rfl ?_ ?_
                 · go_simp
                   (try simp only [i64_w])
                   try rfl
                 refine hK.out _ _ ⟨va, vb, (by rw [ha.out]; exact putSel_upk 10 hb_ rfl rfl rfl), Q_E, Q_Ea, Q_Eb⟩
               refine steps_cons ?_ ?_
               · rintro b a w' ⟨va, vb, ha, Q_E, Q_Ea, Q_Eb⟩ hb_ hon hoff
                 refine ⟨_, rfl, fun K hK => ?_⟩
                 have e155 : a.tmps[155]? = some (.int .i64 1) := by rw [ha]; exact putSel_on (e := (15, 155, .int .i64 1)) 10 rfl rfl (hon 15 (by kernel_rfl)) rfl
                 have e153 : a.tmps[153]? = some (.bool true) := by rw [ha]; exact putSel_on (e := (13, 153, .bool true)) 8 rfl rfl (hon 13 (by kernel_rfl)) rfl
                 replace ha := Aside0.mk ha
                 have E := Aside0.mk Q_E
                 have Ea := Aside0.mk (Q_Ea (hon 4 (by kernel_rfl)))
                 have Eb := Aside0.mk (Q_Eb (hon 6 (by kernel_rfl)))
                 refine value_ (w1 := w') (v := .bool true) (wanted_on rfl rfl rfl (e153.trans (by first | rfl | (simp [*]; done)))) rfl ?_ ?_
                 · go_simp
                   (try simp only [i64_w])
                   try rfl
                 refine hK.out _ _ ⟨va, vb, (by rw [ha.out]; exact putSel_upk 11 hb_ rfl rfl rfl), Q_E, Q_Ea, Q_Eb⟩
               refine steps_cons ?_ ?_
               · rintro b a w' ⟨va, vb, ha, Q_E, Q_Ea, Q_Eb⟩ hb_ hon hoff
                 refine ⟨_, rfl, fun K hK => ?_⟩
                 have e153 : a.tmps[153]? = some (.bool true) := by rw [ha]; exact putSel_on (e := (13, 153, .bool true)) 8 rfl rfl (hon 13 (by kernel_rfl)) rfl
                 have e156 : a.tmps[156]? = some (.bool true) := by rw [ha]; exact putSel_on (e := (16, 156, .bool true)) 11 rfl rfl (hon 16 (by kernel_rfl)) rfl
                 replace ha := Aside0.mk ha
                 have E := Aside0.mk Q_E
                 have Ea := Aside0.mk (Q_Ea (hon 4 (by kernel_rfl)))
                 have Eb := Aside0.mk (Q_Eb (hon 6 (by kernel_rfl)))
                 refine value_ (w1 := w') (v := .bool true) (by rfl) rfl ?_ ?_
                 · go_simp
                   (try simp only [i64_w])
                   try rfl
                 refine hK.out _ _ ⟨va, vb, (by rw [ha.out]; exact putSel_upk 12 hb_ rfl rfl rfl), Q_E, Q_Ea, Q_Eb⟩
               refine steps_cons ?_ ?_
               · rintro b a w' ⟨va, vb, ha, Q_E, Q_Ea, Q_Eb⟩ hb_ hon hoff
                 refine ⟨_, rfl, fun K hK => ?_⟩
                 have e157 : a.tmps[157]? = some (.bool true) := by rw [ha]; exact putSel_on (e := (17, 157, .bool true)) 12 rfl rfl (hon 17 (by kernel_rfl)) rfl
                 replace ha := Aside0.mk ha
                 have E := Aside0.mk Q_E
                 have Ea := Aside0.mk (Q_Ea (hon 4 (by kernel_rfl)))
                 have Eb := Aside0.mk (Q_Eb (hon 6 (by kernel_rfl)))
                 refine value_ (w1 := w') (v := .bool true) (by rfl) rfl ?_ ?_
                 · go_simp
                   (try simp only [i64_w])
                   try rfl
                 refine hK.out _ _ ⟨va, vb, (by rw [ha.out]; exact putSel_upk 13 hb_ rfl rfl rfl), Q_E, Q_Ea, Q_Eb⟩
               refine steps_cons ?_ ?_
               · rintro b a w' ⟨va, vb, ha, Q_E, Q_Ea, Q_Eb⟩ hb_ hon hoff
                 refine ⟨_, rfl, fun K hK => ?_⟩
                 have e18 : a.tmps[18]? = some (.slice (some ado) 1 co) := by rw [ha]; exact (putSel_off rfl).trans rfl
                 have e158 : a.tmps[158]? = some (.bool true) := by rw [ha]; exact putSel_on (e := (18, 158, .bool true)) 13 rfl rfl (hon 18 (by kernel_rfl)) rfl
                 replace ha := Aside0.mk ha
                 have E := Aside0.mk Q_E
                 have Ea := Aside0.mk (Q_Ea (hon 4 (by kernel_rfl)))
                 have Eb := Aside0.mk (Q_Eb (hon 6 (by kernel_rfl)))
                 refine value_ (w1 := w') (v := .slice (some ado) 1 co) (wanted_on rfl rfl rfl (e158.trans (by first | rfl | (simp [*]; done)))) rfl ?_ ?_
                 · go_simp
                   (try simp only [i64_w])
                   try rfl
                 refine hK.out _ _ ⟨va, vb, (by rw [ha.out]; exact putSel_upk 14 hb_ rfl rfl rfl), Q_E, Q_Ea, Q_Eb⟩
               refine steps_cons ?_ ?_
               · rintro b a w' ⟨va, vb, ha, Q_E, Q_Ea, Q_Eb⟩ hb_ hon hoff
                 refine ⟨_, rfl, fun K hK => ?_⟩
                 have e159 : a.tmps[159]? = some (.slice (some ado) 1 co) := by rw [ha]; exact putSel_on (e := (19, 159, .slice (some ado) 1 co)) 14 rfl rfl (hon 19 (by kernel_rfl)) rfl
                 have e158 : a.tmps[158]? = some (.bool true) := by rw [ha]; exact putSel_on (e := (18, 158, .bool true)) 13 rfl rfl (hon 18 (by kernel_rfl)) rfl
                 replace ha := Aside0.mk ha
                 have E := Aside0.mk Q_E
                 have Ea := Aside0.mk (Q_Ea (hon 4 (by kernel_rfl)))
                 have Eb := Aside0.mk (Q_Eb (hon 6 (by kernel_rfl)))
                 refine value_ (w1 := w') (v := .pointer (some ado)) (wanted_on rfl rfl rfl (e158.trans (by first | rfl | (simp [*]; done)))) rfl ?_ ?_
                 · go_simp
                   (try simp only [i64_w])
                   try rfl
                 refine hK.out _ _ ⟨va, vb, (by rw [ha.out]; exact putSel_upk 15 hb_ rfl rfl rfl), Q_E, Q_Ea, Q_Eb⟩
               refine steps_cons ?_ ?_
               · rintro b a w' ⟨va, vb, ha, Q_E, Q_Ea, Q_Eb⟩ hb_ hon hoff
                 refine ⟨_, rfl, fun K hK => ?_⟩
                 have e160 : a.tmps[160]? = some (.pointer (some ado)) := by rw [ha]; exact putSel_on (e := (20, 160, .pointer (some ado))) 15 rfl rfl (hon 20 (by kernel_rfl)) rfl
                 have e158 : a.tmps[158]? = some (.bool true) := by rw [ha]; exact putSel_on (e := (18, 158, .bool true)) 13 rfl rfl (hon 18 (by kernel_rfl)) rfl
                 replace ha := Aside0.mk ha
                 have E := Aside0.mk Q_E
                 have Ea := Aside0.mk (Q_Ea (hon 4 (by kernel_rfl)))
                 have Eb := Aside0.mk (Q_Eb (hon 6 (by kernel_rfl)))
                 refine value_ (w1 := w') (v := .pointer (some ⟨ado.block, ado.off + 1, none⟩)) (wanted_on rfl rfl rfl (e158.trans (by first | rfl | (simp [*]; done)))) rfl ?_ ?_
                 · go_simp
                   (try simp only [i64_w])
                   try rfl
                 refine hK.out _ _ ⟨va, vb, (by rw [ha.out]; exact putSel_upk 16 hb_ rfl rfl rfl), Q_E, Q_Ea, Q_Eb⟩
               refine steps_cons ?_ ?_
               · rintro b a w' ⟨va, vb, ha, Q_E, Q_Ea, Q_Eb⟩ hb_ hon hoff
                 refine ⟨_, rfl, fun K hK => ?_⟩
                 have e161 : a.tmps[161]? = some (.pointer (some ⟨ado.block, ado.off + 1, none⟩)) := by rw [ha]; exact putSel_on (e := (21, 161, .pointer (some ⟨ado.block, ado.off + 1, none⟩))) 16 rfl rfl (hon 21 (by kernel_rfl)) rfl
                 have e158 : a.tmps[158]? = some (.bool true) := by rw [ha]; exact putSel_on (e := (18, 158, .bool true)) 13 rfl rfl (hon 18 (by kernel_rfl)) rfl
                 replace ha := Aside0.mk ha
                 have E := Aside0.mk Q_E
                 have Ea := Aside0.mk (Q_Ea (hon 4 (by kernel_rfl)))
                 have Eb := Aside0.mk (Q_Eb (hon 6 (by kernel_rfl)))
                 have hc_ := (E.out.cell (World.block_lt_of_cell? _ _ ho1d)).trans ho1d
                 refine value_ (w1 := w') (v := .slice G1 x.length v1) (wanted_on rfl rfl rfl (e158.trans (by first | rfl | (simp [*]; done)))) rfl ?_ ?_
                 · go_simp
                   (try simp only [i64_w])
                   try rfl
                 refine hK.out _ _ ⟨va, vb, (by rw [ha.out]; exact putSel_upk 17 hb_ rfl rfl rfl), Q_E, Q_Ea, Q_Eb⟩
               refine steps_cons ?_ ?_
               · rintro b a w' ⟨va, vb, ha, Q_E, Q_Ea, Q_Eb⟩ hb_ hon hoff
                 refine ⟨_, rfl, fun K hK => ?_⟩
                 have e162 : a.tmps[162]? = some (.slice G1 x.length v1) := by rw [ha]; exact putSel_on (e := (22, 162, .slice G1 x.length v1)) 17 rfl rfl (hon 22 (by kernel_rfl)) rfl
                 have e158 : a.tmps[158]? = some (.bool true) := by rw [ha]; exact putSel_on (e := (18, 158, .bool true)) 13 rfl rfl (hon 18 (by kernel_rfl)) rfl
                 replace ha := Aside0.mk ha
                 have E := Aside0.mk Q_E
                 have Ea := Aside0.mk (Q_Ea (hon 4 (by kernel_rfl)))
                 have Eb := Aside0.mk (Q_Eb (hon 6 (by kernel_rfl)))
                 have hcv_ := Kd.C_string (P := Tryd.prog) (c := v1) Tryd.underlying22 Tryd.underlying5 Tryd.underlying9 (Kd.C_below FD.out.2.2.2.2 E.out)
                 refine value_ (w1 := w') (v := .string (strOfNums x)) (wanted_on rfl rfl rfl (e158.trans (by first | rfl | (simp [*]; done)))) rfl ?_ ?_
                 · go_simp
                   (try simp only [i64_w])
                   try rfl
                 refine hK.out _ _ ⟨va, vb, (by rw [ha.out]; exact putSel_upk 18 hb_ rfl rfl rfl), Q_E, Q_Ea, Q_Eb⟩
               refine steps_cons ?_ ?_
               · rintro b a w' ⟨va, vb, ha, Q_E, Q_Ea, Q_Eb⟩ hb_ hon hoff
                 refine ⟨_, rfl, fun K hK => ?_⟩
                 have e7 : a.tmps[7]? = some (.slice AX x.length cX) := by rw [ha]; exact (putSel_off rfl).trans rfl
                 have e158 : a.tmps[158]? = some (.bool true) := by rw [ha]; exact putSel_on (e := (18, 158, .bool true)) 13 rfl rfl (hon 18 (by kernel_rfl)) rfl
                 replace ha := Aside0.mk ha
                 have E := Aside0.mk Q_E
                 have Ea := Aside0.mk (Q_Ea (hon 4 (by kernel_rfl)))
                 have Eb := Aside0.mk (Q_Eb (hon 6 (by kernel_rfl)))
                 refine value_ (w1 := w') (v := .slice AX x.length cX) (wanted_on rfl rfl rfl (e158.trans (by first | rfl | (simp [*]; done)))) rfl ?_ ?_
                 · go_simp
                   (try simp only [i64_w])
                   try rfl
                 refine hK.out _ _ ⟨va, vb, (by rw [ha.out]; exact putSel_upk 19 hb_ rfl rfl rfl), Q_E, Q_Ea, Q_Eb⟩
               refine steps_cons ?_ ?_
               · rintro b a w' ⟨va, vb, ha, Q_E, Q_Ea, Q_Eb⟩ hb_ hon hoff
                 refine ⟨_, rfl, fun K hK => ?_⟩
                 have e164 : a.tmps[164]? = some (.slice AX x.length cX) := by rw [ha]; exact putSel_on (e := (24, 164, .slice AX x.length cX)) 19 rfl rfl (hon 24 (by kernel_rfl)) rfl
                 have e158 : a.tmps[158]? = some (.bool true) := by rw [ha]; exact putSel_on (e := (18, 158, .bool true)) 13 rfl rfl (hon 18 (by kernel_rfl)) rfl
                 replace ha := Aside0.mk ha
                 have E := Aside0.mk Q_E
                 have Ea := Aside0.mk (Q_Ea (hon 4 (by kernel_rfl)))
                 have Eb := Aside0.mk (Q_Eb (hon 6 (by kernel_rfl)))
                 have hcv_ := Kd.C_string (P := Tryd.prog) (c := cX) Tryd.underlying22 Tryd.underlying5 Tryd.underlying9 (Kd.C_below FD.out.1 E.out)
                 refine value_ (w1 := w') (v := .string (strOfNums x)) (wanted_on rfl rfl rfl (e158.trans (by first | rfl | (simp [*]; done)))) rfl ?_ ?_
                 · go_simp
                   (try simp only [i64_w])
                   try rfl
                 refine hK.out _ _ ⟨va, vb, (by rw [ha.out]; exact putSel_upk 20 hb_ rfl rfl rfl), Q_E, Q_Ea, Q_Eb⟩
               refine steps_cons ?_ ?_
               · rintro b a w' ⟨va, vb, ha, Q_E, Q_Ea, Q_Eb⟩ hb_ hon hoff
                 refine ⟨_, rfl, fun K hK => ?_⟩
                 have e163 : a.tmps[163]? = some (.string (strOfNums x)) := by rw [ha]; exact putSel_on (e := (23, 163, .string (strOfNums x))) 18 rfl rfl (hon 23 (by kernel_rfl)) rfl
                 have e165 : a.tmps[165]? = some (.string (strOfNums x)) := by rw [ha]; exact putSel_on (e := (25, 165, .string (strOfNums x))) 20 rfl rfl (hon 25 (by kernel_rfl)) rfl
                 have e158 : a.tmps[158]? = some (.bool true) := by rw [ha]; exact putSel_on (e := (18, 158, .bool true)) 13 rfl rfl (hon 18 (by kernel_rfl)) rfl
                 replace ha := Aside0.mk ha
                 have E := Aside0.mk Q_E
                 have Ea := Aside0.mk (Q_Ea (hon 4 (by kernel_rfl)))
                 have Eb := Aside0.mk (Q_Eb (hon 6 (by kernel_rfl)))
                 refine value_ (w1 := w') (v := .bool true) (wanted_on rfl rfl rfl (e158.trans (by first | rfl | (simp [*]; done)))) rfl ?_ ?_
                 · go_simp
                   (try simp only [i64_w])
                   try rfl
                 refine hK.out _ _ ⟨va, vb, (by rw [ha.out]; exact putSel_upk 21 hb_ rfl rfl rfl), Q_E, Q_Ea, Q_Eb⟩
               refine steps_cons ?_ ?_
               · rintro b a w' ⟨va, vb, ha, Q_E, Q_Ea, Q_Eb⟩ hb_ hon hoff
                 refine ⟨_, rfl, fun K hK => ?_⟩
                 have e158 : a.tmps[158]? = some (.bool true) := by rw [ha]; exact putSel_on (e := (18, 158, .bool true)) 13 rfl rfl (hon 18 (by kernel_rfl)) rfl
                 have e166 : a.tmps[166]? = some (.bool true) := by rw [ha]; exact putSel_on (e := (26, 166, .bool true)) 21 rfl rfl (hon 26 (by kernel_rfl)) rfl
                 replace ha := Aside0.mk ha
                 have E := Aside0.mk Q_E
                 have Ea := Aside0.mk (Q_Ea (hon 4 (by kernel_rfl)))
                 have Eb := Aside0.mk (Q_Eb (hon 6 (by kernel_rfl)))
                 refine value_ (w1 := w') (v := .bool true) (by rfl) rfl ?_ ?_
                 · go_simp
                   (try simp only [i64_w])
                   try rfl
                 refine hK.out _ _ ⟨va, vb, (by rw [ha.out]; exact putSel_upk 22 hb_ rfl rfl rfl), Q_E, Q_Ea, Q_Eb⟩
               refine steps_cons ?_ ?_
               · rintro b a w' ⟨va, vb, ha, Q_E, Q_Ea, Q_Eb⟩ hb_ hon hoff
                 refine ⟨_, rfl, fun K hK => ?_⟩
                 have e167 : a.tmps[167]? = some (.bool true) := by rw [ha]; exact putSel_on (e := (27, 167, .bool true)) 22 rfl rfl (hon 27 (by kernel_rfl)) rfl
                 replace ha := Aside0.mk ha
                 have E := Aside0.mk Q_E
                 have Ea := Aside0.mk (Q_Ea (hon 4 (by kernel_rfl)))
                 have Eb := Aside0.mk (Q_Eb (hon 6 (by kernel_rfl)))
                 refine value_ (w1 := w') (v := .bool true) (by rfl) rfl ?_ ?_
                 · go_simp
                   (try simp only [i64_w])
                   try rfl
                 refine hK.out _ _ ⟨va, vb, (by rw [ha.out]; exact putSel_upk 23 hb_ rfl rfl rfl), Q_E, Q_Ea, Q_Eb⟩
               exact steps_nil
             · rintro b a w' hall ⟨va, vb, ha, Q_E, Q_Ea, Q_Eb⟩
               clear E
               have hb4_ := hall 4 (by kernel_rfl)
               have hb6_ := hall 6 (by kernel_rfl)
               have hb7_ := hall 7 (by kernel_rfl)
               have hb8_ := hall 8 (by kernel_rfl)
               have hb9_ := hall 9 (by kernel_rfl)
               have hb10_ := hall 10 (by kernel_rfl)
               have hb11_ := hall 11 (by kernel_rfl)
               have hb12_ := hall 12 (by kernel_rfl)
               have hb13_ := hall 13 (by kernel_rfl)
               have hb14_ := hall 14 (by kernel_rfl)
               have hb15_ := hall 15 (by kernel_rfl)
               have hb16_ := hall 16 (by kernel_rfl)
               have hb17_ := hall 17 (by kernel_rfl)
               have hb18_ := hall 18 (by kernel_rfl)
               have hb19_ := hall 19 (by kernel_rfl)
               have hb20_ := hall 20 (by kernel_rfl)
               have hb21_ := hall 21 (by kernel_rfl)
               have hb22_ := hall 22 (by kernel_rfl)
               have hb23_ := hall 23 (by kernel_rfl)
               have hb24_ := hall 24 (by kernel_rfl)
               have hb25_ := hall 25 (by kernel_rfl)
               have hb26_ := hall 26 (by kernel_rfl)
               have hb27_ := hall 27 (by kernel_rfl)
               have hb28_ := hall 28 (by kernel_rfl)
               subst ha
               simp only [putSel, hb4_, hb6_, hb7_, hb8_, hb9_, hb10_, hb11_, hb12_, hb13_, hb14_, hb15_, hb16_, hb17_, hb18_, hb19_, hb20_, hb21_, hb22_, hb23_, hb24_, hb25_, hb26_, hb27_, hb28_, if_true, Act.put, List.setIfInBounds_toArray, List.set_cons_zero, List.set_cons_succ]
               have E := Aside0.mk Q_E
               clear Q_E
               have Ea := Aside0.mk (Q_Ea hb4_)
               clear Q_Ea
               have Eb := Aside0.mk (Q_Eb hb6_)
               clear Q_Eb
               clear hall hb4_ hb6_ hb7_ hb8_ hb9_ hb10_ hb11_ hb12_ hb13_ hb14_ hb15_ hb16_ hb17_ hb18_ hb19_ hb20_ hb21_ hb22_ hb23_ hb24_ hb25_ hb26_ hb27_ hb28_
               have HB := Aside0.mk (FD.out.2.1.trans (below_lo E.out FD.out.2.1.size))
               go_wp2
               go_ret
               exact ⟨rfl, HB.out⟩
   · have hfb := eq_false hf
     have hfb2 : (f == 0) = false := by rw [beq_eq_false_iff_ne]; exact hf
     have Bw := Aside0.mk F7.out.2.1
     go_wp2_with (go_at_call 11; refine (known_walk _).mono ?_; rintro e_ wk ⟨rfl, hb_⟩; replace Bw := Aside0.mk (Bw.out.trans (below_lo hb_ Bw.out.size)); clear hb_)
     go_ret
     exact ⟨rfl, Bw.out⟩
 · have hfb := eq_false he
   have hfb2 : (e == 0) = false := by rw [beq_eq_false_iff_ne]; exact he
   have Bw := Aside0.mk F7.out.2.1
   go_wp2_with (go_at_call 11; refine (known_walk _).mono ?_; rintro e_ wk ⟨rfl, hb_⟩; replace Bw := Aside0.mk (Bw.out.trans (below_lo hb_ Bw.out.size)); clear hb_)
   go_ret
   exact ⟨rfl, Bw.out⟩
 end Go.Proofs.YtnnnbeimehfiiaaDoor.Q
