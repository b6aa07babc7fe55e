/- The texts of this claim that lie below its row, in their order: KFw KBkM KPi. -/
import Derived.Test.YtnnnbeimehfiiaaDoorZP3
-- Written by a program of this session (wip/gen_few.py) for this claim; Lean checks it.
/-! few: parts of the document's, cut; walked. -/
set_option linter.unusedVariables false
set_option linter.unusedSimpArgs false
namespace Go.Proofs.YtnnnbeimehfiiaaDoor.Q
open Go Go.RowKit Go.Proofs.YtnnnbeimehfiiaaDoorW.PrintWords Go.Proofs.YtnnnbeimehfiiaaDoorW.PrintLast Go.Proofs.YtnnnbeimehfiiaaDoorW.PrintMore Go.Proofs.YtnnnbeimehfiiaaDoorW.SL
attribute [local go_sem] max2_int min2_int max_two min_two max_three min_three max_four min_four
def mfew.T7 : Bool × List (List Nat × List Nat) := (true, [([], []), ([], []), ([0, 1], [0, 1]), ([2], [2]), ([3], [3]), ([], []), ([], []), ([], []), ([6, 7], [6, 7]), ([8], [8]), ([9], [9]), ([5, 10], [5, 10]), ([], []), ([], []), ([], []), ([13, 14], [13, 14]), ([15], [15]), ([16], [16]), ([17], [17]), ([12, 18, 11], [12, 18]), ([], []), ([], []), ([], []), ([21, 22], [21, 22]), ([23], [23]), ([24], [24]), ([25], [25]), ([20, 26, 19], [20, 26]), ([], []), ([], []), ([], []), ([29, 30], [29, 30]), ([31], [31]), ([32], [32]), ([33], [33]), ([28, 34, 27], [28, 34]), ([19, 27, 35], [19, 27, 35]), ([4, 11, 36], [4, 11, 36]), ([], []), ([38, 37, 35, 0, 1, 2, 3, 4, 5, 6, 7, 8, 9, 10, 11, 12, 13, 14, 15, 16, 17, 18, 19, 20, 21, 22, 23, 24, 25, 26, 27, 28, 29, 30, 31, 32, 33, 34, 35, 36, 37, 38], [37, 38])])
def mfew.B7 : List Nat := [0, 0, 3, 7, 15, 0, 0, 0, 192, 448, 960, 2016, 0, 0, 0, 24576, 57344, 122880, 253952, 524256, 0, 0, 0, 6291456, 14680064, 31457280, 65011712, 134217696, 0, 0, 0, 1610612736, 3758096384, 8053063680, 16642998272, 34359738336, 68719476704, 137438953471, 0, 549755813887]
theorem mfew.tab7 : rtab .any (opsOf Tryd.f18 7) = mfew.T7 := by kernel_rfl
theorem mfew.bits7 : waitsOk mfew.T7.2 mfew.B7 = true := by kernel_rfl
def cutPt (p : Pt) : Pt := ⟨p.region, p.text.take 500, p.s0.take 500, p.s1.take 500, p.s2.take 500⟩
def fewOf (l : List Pt) : List Pt := (l.take 20).map cutPt
theorem fewOf_len (l : List Pt) : (fewOf l).length = min 20 l.length := by simp [fewOf]
theorem fewOf_small (l : List Pt) : ∀ p ∈ fewOf l, p.text.length ≤ 500 ∧ p.s0.length ≤ 500 ∧ p.s1.length ≤ 500 ∧ p.s2.length ≤ 500 := by
  intro p hp
  obtain ⟨q, _, rfl⟩ := List.mem_map.1 hp
  simp only [cutPt, List.length_take]; omega
theorem few_take {l : List Pt} {i : Nat} {x : Pt} (h : l[i]? = some x) (hi : i < 20) : (fewOf l).take (i + 1) = (fewOf l).take i ++ [cutPt x] := by
  rw [List.take_add_one]
  simp [fewOf, hi, h]
theorem F_cut {w : World} {ok : Nat → Prop} {A : Option Addr} {c : Nat} {x : List Int} (h : x.length ≤ c ∧ Kd.F B8 w ok A x.length x) : (x.take 500).length ≤ c ∧ Kd.F B8 w ok A (x.take 500).length (x.take 500) := by
  by_cases h5 : 500 ≤ x.length
  · have := Kd.F_take h.2 (m := 500) h5
    have e : (x.take 500).length = 500 := by simp [h5]
    rw [e] at this ⊢; exact ⟨by omega, this⟩
  · rw [List.take_of_length_le (by omega)]; exact h
theorem goesT_ {P : Program} {ops : Array Oper} {Q : Exit → Act → World → Prop} {oi : Oper} {N : Option Tmp} {a : Act} {w : World} {K : Act → World → Prop} {f : FuncId} {fn : Func} {op : Operand} {xs : Array Operand} {ts : Array TypeId} (hf : P.funcs[f]? = some fn) (hname : (fn.name == "runtime.NumGoroutine") = false) (hb : fn.body.isSome = true) (args : Array Value)
    (hw : Region.wanted oi (yielded ops a.tmps) = true) (hN : oi.dst = N) (hop : oi.op = .call { callee := .value op, args := xs, argTypes := ts }) (hv : a.eval op = .func (.func f) #[] #[]) (hargs : xs.map a.eval = args)
    (h : Calls P f args w fun e w' => ∃ v, e = .returned v ∧ K (a.put N v) w') : if Region.wanted oi (yielded ops a.tmps) = true then Oper.wp P oi a w K Q else K (a.put N undef) w := by
  refine call_ f args hw hN ?_ h
  have he := enters_ hf hname hb args w
  unfold execOp
  simp [hop, resolve, Deferred.ofValue, invoke, hv, hargs, he]
set_option maxHeartbeats 16000000 in
set_option maxRecDepth 100000 in
theorem cut_calls (A : Option Addr) (c : Nat) (l : List Int) (w : World) (hc : l.length ≤ c) :
    Calls Tryd.prog 33 #[.slice A l.length c] w fun e w' => e = .returned (.slice A (l.take 500).length c) ∧ w = w' := by
  have hmn : (if (500 : Int) < (l.length : Int) then 500 else (l.length : Int)) = ((l.take 500).length : Int) := by rw [List.length_take]; split <;> omega
  have hl : (l.take 500).length ≤ l.length := by rw [List.length_take]; omega
  have htk := take_at A c l ((l.take 500).length : Int) (by omega) (by omega) hc
  rw [Int.toNat_natCast] at htk
  have hz := eq_true (show (0 : Int) ≤ ((l.take 500).length : Int) by omega)
  have hy := eq_true (show ((l.take 500).length : Int) ≤ (l.length : Int) by omega)
  generalize (l.take 500).length = m at *
  go_enter Tryd.func33, Tryd.ntmps33
  go_wp2
  go_ret
  exact ⟨rfl, rfl⟩
/-- A box of cells, from B on. -/
def BxT (t B : Nat) (vp : Value) (cs : Array Value) (W : World) : Prop := ∃ gp, vp = .pointer (some ⟨gp, 0, none⟩) ∧ W.heap[gp]? = some (.cells cs t (0, 0)) ∧ B ≤ gp
theorem BxT.fill {t B : Nat} {gp : Nat} {c0 c1 c2 c3 c4 : Value} {W : World} (h : W.heap[gp]? = some (.cells #[c0, c1, c2, c3, c4] t (0, 0))) (hB : B ≤ gp) (u0 u1 u2 u3 u4 : Value) :
    BxT t B (.pointer (some ⟨gp, 0, none⟩)) #[u0, u1, u2, u3, u4] (((((W.setCell ⟨gp, 0, none⟩ u0).setCell ⟨gp, 1, none⟩ u1).setCell ⟨gp, 2, none⟩ u2).setCell ⟨gp, 3, none⟩ u3).setCell ⟨gp, 4, none⟩ u4) ∧
      (∀ w0, Below B w0 W → Below B w0 (((((W.setCell ⟨gp, 0, none⟩ u0).setCell ⟨gp, 1, none⟩ u1).setCell ⟨gp, 2, none⟩ u2).setCell ⟨gp, 3, none⟩ u3).setCell ⟨gp, 4, none⟩ u4)) ∧
      (((((W.setCell ⟨gp, 0, none⟩ u0).setCell ⟨gp, 1, none⟩ u1).setCell ⟨gp, 2, none⟩ u2).setCell ⟨gp, 3, none⟩ u3).setCell ⟨gp, 4, none⟩ u4).heap.size = W.heap.size := by
  have h1 := blk_set h 0 u0
  have h2 := blk_set h1 1 u1
  have h3 := blk_set h2 2 u2
  have h4 := blk_set h3 3 u3
  have h5 := blk_set h4 4 u4
  exact ⟨⟨gp, rfl, h5, hB⟩, fun w0 hb => ((((hb.setCell (p := ⟨gp, 0, none⟩) hB _).setCell (p := ⟨gp, 1, none⟩) hB _).setCell (p := ⟨gp, 2, none⟩) hB _).setCell (p := ⟨gp, 3, none⟩) hB _).setCell (p := ⟨gp, 4, none⟩) hB _, by simp [World.setCell]⟩
set_option maxHeartbeats 16000000 in
set_option maxRecDepth 100000 in
theorem few_calls (A : Option Addr) (c : Nat) (ps : List Pt) (w : World) (hr : Kd.C kP w A ps.length ps) (hc : ps.length ≤ c) :
    Calls Tryd.prog 18 #[.slice A ps.length c] w fun e w' => ∃ (A1 : Option Addr) (c1 : Nat) (A2 : Option Addr) (c2 : Nat), e = .returned (.tuple #[.slice A1 (fewOf ps).length c1, .slice A2 (fewOf ps).length c2]) ∧ (fewOf ps).length ≤ c1 ∧ Kd.C kP w' A1 (fewOf ps).length (fewOf ps) ∧ (fewOf ps).length ≤ c2 ∧ Kd.C kP w' A2 (fewOf ps).length (fewOf ps) ∧ Below w.heap.size w w' := by
  have hF0 : ∀ a ∈ [rdV kP A c ps], a.P w (fun k => k < w.heap.size) := by
    intro a ha; rw [List.mem_singleton] at ha; subst ha
    exact ⟨hc, Kd.C_F kP_heap hr⟩
  have HS : Aside0 (∃ cells, Stt w (fun k => k < w.heap.size) [rwP (.slice none 0 0) 44 0 cells, rwP (.slice none 0 0) 50 0 cells] [kpF ((fewOf ps).take 0) cells, rdV kP A c ps] w) := ⟨[], ((Stt.start w hF0).with ((Stt.start w hF0).st.row_nil 50 5)).with (((Stt.start w hF0).with ((Stt.start w hF0).st.row_nil 50 5)).st.row_nil 44 5) |>.add ⟨rfl, fun j p h => by simp at h⟩⟩
  clear hF0 hr hc
  obtain ⟨qs, hqs⟩ : ∃ qs, fewOf ps = qs := ⟨_, rfl⟩
  have hql := fewOf_len ps
  rw [hqs] at HS ⊢ hql
  replace hqs := Aside0.mk hqs
  replace hql := Aside0.mk hql
  go_enter Tryd.func18, Tryd.ntmps18
  go_wp2
  go_loopg [4, 5, 7] 20 (fun kq v4 v5 v7 W => ∃ (ii : Int) (i : Nat), v7 = .int .i64 ii ∧ Aside0 (ii = (i : Int)) ∧ i ≤ qs.length ∧ kq = 20 - i ∧ Aside0 (∃ cells, Stt w (fun k => k < w.heap.size) [rwP v5 44 i cells, rwP v4 50 i cells] [kpF (qs.take i) cells, rdV kP A c ps] W))
  case atStart => exact ⟨0, 0, rfl, ⟨rfl⟩, Nat.zero_le _, rfl, HS⟩
  case round =>
    obtain ⟨ii, i, rfl, hii, hi, hgk, hI⟩ := hrel
    obtain ⟨wb, rfl⟩ : ∃ q, q = wr := ⟨_, rfl⟩
    by_cases hin : ii < (ps.length : Int)
    · by_cases hin2 : ii < 20
      · have p0 : 0 ≤ ii := by have := hii.out; omega
        have e0 : ii.toNat = i := by have := hii.out; omega
        have hi20 : i < 20 := by have := hii.out; omega
        have hw1 : wrap64 (ii + 1) = ii + 1 := by have := hii.out; unfold wrap64; omega
        obtain ⟨cells, Sb⟩ := hI.out
        have S := Sb.keep (below_drew1 (Below.refl wb.heap.size wb))
        obtain ⟨ad, x, A1, c1, A2, c2, A3, c3, A4, c4, rfl, hxi, hok, hx0, hx1, hx2, hx3, hx4, g1, g2, g3, g4⟩ := at_Pt (S.rd 1 rfl).2 ii p0 hin
        rw [e0] at hxi
        have htk := few_take hxi hi20
        rw [hqs.out] at htk
        have hk := S.fr _ (List.mem_cons_self)
        have hk2 := kpF_snoc hk (cs := [.bool x.region, .slice A1 (x.text.take 500).length c1, .slice A2 (x.s0.take 500).length c2, .slice A3 (x.s1.take 500).length c3, .slice A4 (x.s2.take 500).length c4]) rfl (kP_mkF wb.drew _ (cutPt x) (F_cut g1) (F_cut g2) (F_cut g3) (F_cut g4))
        rw [← htk] at hk2
        have HF := Aside0.mk (S.add hk2)
        have hc0 := (⟨g1.1, g2.1, g3.1, g4.1⟩ : _ ∧ _ ∧ _ ∧ _)
        obtain ⟨rg, T, S0, S1, S2⟩ := x
        simp only at hx0 hx1 hx2 hx3 hx4 HF
        have HC : Aside0 (T.length ≤ c1 ∧ S0.length ≤ c2 ∧ S1.length ≤ c3 ∧ S2.length ≤ c4) := ⟨hc0⟩
        obtain ⟨T', hT'⟩ : ∃ m, (T.take 500).length = m := ⟨_, rfl⟩
        obtain ⟨S0', hS0'⟩ : ∃ m, (S0.take 500).length = m := ⟨_, rfl⟩
        obtain ⟨S1', hS1'⟩ : ∃ m, (S1.take 500).length = m := ⟨_, rfl⟩
        obtain ⟨S2', hS2'⟩ : ∃ m, (S2.take 500).length = m := ⟨_, rfl⟩
        have hcT := fun w => cut_calls A1 c1 T w HC.out.1
        have hcS0 := fun w => cut_calls A2 c2 S0 w HC.out.2.1
        have hcS1 := fun w => cut_calls A3 c3 S1 w HC.out.2.2.1
        have hcS2 := fun w => cut_calls A4 c4 S2 w HC.out.2.2.2
        rw [hT', hS0', hS1', hS2'] at HF
        simp only [hT'] at hcT
        simp only [hS0'] at hcS0
        simp only [hS1'] at hcS1
        simp only [hS2'] at hcS2
        have HCC := Aside0.mk (⟨hcT, hcS0, hcS1, hcS2⟩ : _ ∧ _ ∧ _ ∧ _)
        have HI := Aside0.mk (⟨hi, hgk, hi20⟩ : _ ∧ _ ∧ _)
        have hinb := eq_true hin
        have hinb2 := eq_true hin2
        have p0b := eq_true p0
        replace e0 := Aside0.mk e0
        clear hk hk2 htk hxi hok g1 g2 g3 g4 S Sb hI hc0 hT' hS0' hS1' hS2' hcT hcS0 hcS1 hcS2 hi hgk hi20
        go_wp2
        have E := trivial
        refine start_ (n := 40) (S := fun w' => True) (ds := []) #[false, false, false, false, false, false, false, false, false, false, false, false, false, false, false, false, false, false, false, false, false, false, false, false, false, false, false, false, false, false, false, false, false, false, false, false, false, false, false, false] (by kernel_rfl) rfl rfl trivial (fun hHeld => ?_)
        refine with_tabW mfew.tab7 mfew.bits7 (fun HT_ HW_ => ?_)
        have E := trivial
        generalize wb.drew = wd at hx0 hx1 hx2 hx3 hx4 HF hHeld ⊢
        refine pure_ (i := 0) (N := some 19) (v := ?_) (a' := ?_) #[true, false, false, false, false, false, false, false, false, false, false, false, false, false, false, false, false, false, false, false, false, false, false, false, false, false, false, false, false, false, false, false, false, false, false, false, false, false, false, false] rfl rfl (any_of HT_.out (by kernel_rfl)) (fun _ _ _ h => h) (Or.inl ⟨by rfl, ?_⟩) ?_ ?_
        rotate_left
        · intro w'
          go_simp
          with_reducible rfl
        rotate_left
        · simp only [Act.put, List.setIfInBounds_toArray, List.set_cons_zero, List.set_cons_succ, i64_w, i32_w]
          rfl
        refine pure_ (i := 1) (N := some 20) (v := ?_) (a' := ?_) #[true, true, false, false, false, false, false, false, false, false, false, false, false, false, false, false, false, false, false, false, false, false, false, false, false, false, false, false, false, false, false, false, false, false, false, false, false, false, false, false] rfl rfl (any_of HT_.out (by kernel_rfl)) (fun _ _ _ h => h) (Or.inl ⟨by rfl, ?_⟩) ?_ ?_
        rotate_left
        · intro w'
          go_simp
          with_reducible rfl
        rotate_left
        · simp only [Act.put, List.setIfInBounds_toArray, List.set_cons_zero, List.set_cons_succ, i64_w, i32_w]
          rfl
        refine pure_ (i := 2) (N := some 21) (v := ?_) (a' := ?_) #[true, true, true, false, false, false, false, false, false, false, false, false, false, false, false, false, false, false, false, false, false, false, false, false, false, false, false, false, false, false, false, false, false, false, false, false, false, false, false, false] rfl rfl (any_of HT_.out (by kernel_rfl)) (fun _ _ _ h => h) (Or.inl ⟨by rfl, ?_⟩) ?_ ?_
        rotate_left
        · intro w'
          go_simp
          with_reducible rfl
        rotate_left
        · simp only [Act.put, List.setIfInBounds_toArray, List.set_cons_zero, List.set_cons_succ, i64_w, i32_w]
          rfl
        refine pure_ (i := 3) (N := some 22) (v := ?_) (a' := ?_) #[true, true, true, true, false, false, false, false, false, false, false, false, false, false, false, false, false, false, false, false, false, false, false, false, false, false, false, false, false, false, false, false, false, false, false, false, false, false, false, false] rfl rfl (any_of HT_.out (by kernel_rfl)) (fun _ _ _ h => h) (Or.inl ⟨by rfl, ?_⟩) ?_ ?_
        rotate_left
        · intro w'
          go_simp
          with_reducible rfl
        rotate_left
        · simp only [Act.put, List.setIfInBounds_toArray, List.set_cons_zero, List.set_cons_succ, i64_w, i32_w]
          rfl
        refine pure_ (i := 5) (N := some 24) (v := ?_) (a' := ?_) #[true, true, true, true, false, true, false, false, false, false, false, false, false, false, false, false, false, false, false, false, false, false, false, false, false, false, false, false, false, false, false, false, false, false, false, false, false, false, false, false] rfl rfl (any_of HT_.out (by kernel_rfl)) (fun _ _ _ h => h) (Or.inl ⟨by rfl, ?_⟩) ?_ ?_
        rotate_left
        · intro w'
          go_simp
          with_reducible rfl
        rotate_left
        · simp only [Act.put, List.setIfInBounds_toArray, List.set_cons_zero, List.set_cons_succ, i64_w, i32_w]
          rfl
        refine pure_ (i := 6) (N := some 25) (v := ?_) (a' := ?_) #[true, true, true, true, false, true, true, false, false, false, false, false, false, false, false, false, false, false, false, false, false, false, false, false, false, false, false, false, false, false, false, false, false, false, false, false, false, false, false, false] rfl rfl (any_of HT_.out (by kernel_rfl)) (fun _ _ _ h => h) (Or.inl ⟨by rfl, ?_⟩) ?_ ?_
        rotate_left
        · intro w'
          go_simp
          with_reducible rfl
        rotate_left
        · simp only [Act.put, List.setIfInBounds_toArray, List.set_cons_zero, List.set_cons_succ, i64_w, i32_w]
          rfl
        refine pure_ (i := 7) (N := some 26) (v := ?_) (a' := ?_) #[true, true, true, true, false, true, true, true, false, false, false, false, false, false, false, false, false, false, false, false, false, false, false, false, false, false, false, false, false, false, false, false, false, false, false, false, false, false, false, false] rfl rfl (any_of HT_.out (by kernel_rfl)) (fun _ _ _ h => h) (Or.inl ⟨by rfl, ?_⟩) ?_ ?_
        rotate_left
        · intro w'
          go_simp
          with_reducible rfl
        rotate_left
        · simp only [Act.put, List.setIfInBounds_toArray, List.set_cons_zero, List.set_cons_succ, i64_w, i32_w]
          rfl
        refine pure_ (i := 8) (N := some 27) (v := ?_) (a' := ?_) #[true, true, true, true, false, true, true, true, true, false, false, false, false, false, false, false, false, false, false, false, false, false, false, false, false, false, false, false, false, false, false, false, false, false, false, false, false, false, false, false] rfl rfl (any_of HT_.out (by kernel_rfl)) (fun _ _ _ h => h) (Or.inl ⟨by rfl, ?_⟩) ?_ ?_
        rotate_left
        · intro w'
          go_simp
          with_reducible rfl
        rotate_left
        · simp only [Act.put, List.setIfInBounds_toArray, List.set_cons_zero, List.set_cons_succ, i64_w, i32_w]
          rfl
        refine pure_ (i := 9) (N := some 28) (v := ?_) (a' := ?_) #[true, true, true, true, false, true, true, true, true, true, false, false, false, false, false, false, false, false, false, false, false, false, false, false, false, false, false, false, false, false, false, false, false, false, false, false, false, false, false, false] rfl rfl (any_of HT_.out (by kernel_rfl)) (fun _ _ _ h => h) (Or.inl ⟨by rfl, ?_⟩) ?_ ?_
        rotate_left
        · intro w'
          go_simp
          with_reducible rfl
        rotate_left
        · simp only [Act.put, List.setIfInBounds_toArray, List.set_cons_zero, List.set_cons_succ, i64_w, i32_w]
          rfl
        refine pure_ (i := 12) (N := some 31) (v := ?_) (a' := ?_) #[true, true, true, true, false, true, true, true, true, true, false, false, true, false, false, false, false, false, false, false, false, false, false, false, false, false, false, false, false, false, false, false, false, false, false, false, false, false, false, false] rfl rfl (any_of HT_.out (by kernel_rfl)) (fun _ _ _ h => h) (Or.inl ⟨by rfl, ?_⟩) ?_ ?_
        rotate_left
        · intro w'
          go_simp
          with_reducible rfl
        rotate_left
        · simp only [Act.put, List.setIfInBounds_toArray, List.set_cons_zero, List.set_cons_succ, i64_w, i32_w]
          rfl
        refine pure_ (i := 13) (N := some 32) (v := ?_) (a' := ?_) #[true, true, true, true, false, true, true, true, true, true, false, false, true, true, false, false, false, false, false, false, false, false, false, false, false, false, false, false, false, false, false, false, false, false, false, false, false, false, false, false] rfl rfl (any_of HT_.out (by kernel_rfl)) (fun _ _ _ h => h) (Or.inl ⟨by rfl, ?_⟩) ?_ ?_
        rotate_left
        · intro w'
          go_simp
          with_reducible rfl
        rotate_left
        · simp only [Act.put, List.setIfInBounds_toArray, List.set_cons_zero, List.set_cons_succ, i64_w, i32_w]
          rfl
        refine pure_ (i := 14) (N := some 33) (v := ?_) (a' := ?_) #[true, true, true, true, false, true, true, true, true, true, false, false, true, true, true, false, false, false, false, false, false, false, false, false, false, false, false, false, false, false, false, false, false, false, false, false, false, false, false, false] rfl rfl (any_of HT_.out (by kernel_rfl)) (fun _ _ _ h => h) (Or.inl ⟨by rfl, ?_⟩) ?_ ?_
        rotate_left
        · intro w'
          go_simp
          with_reducible rfl
        rotate_left
        · simp only [Act.put, List.setIfInBounds_toArray, List.set_cons_zero, List.set_cons_succ, i64_w, i32_w]
          rfl
        refine pure_ (i := 15) (N := some 34) (v := ?_) (a' := ?_) #[true, true, true, true, false, true, true, true, true, true, false, false, true, true, true, true, false, false, false, false, false, false, false, false, false, false, false, false, false, false, false, false, false, false, false, false, false, false, false, false] rfl rfl (any_of HT_.out (by kernel_rfl)) (fun _ _ _ h => h) (Or.inl ⟨by rfl, ?_⟩) ?_ ?_
        rotate_left
        · intro w'
          go_simp
          with_reducible rfl
        rotate_left
        · simp only [Act.put, List.setIfInBounds_toArray, List.set_cons_zero, List.set_cons_succ, i64_w, i32_w]
          rfl
        refine pure_ (i := 16) (N := some 35) (v := ?_) (a' := ?_) #[true, true, true, true, false, true, true, true, true, true, false, false, true, true, true, true, true, false, false, false, false, false, false, false, false, false, false, false, false, false, false, false, false, false, false, false, false, false, false, false] rfl rfl (any_of HT_.out (by kernel_rfl)) (fun _ _ _ h => h) (Or.inl ⟨by rfl, ?_⟩) ?_ ?_
        rotate_left
        · intro w'
          go_simp
          with_reducible rfl
        rotate_left
        · simp only [Act.put, List.setIfInBounds_toArray, List.set_cons_zero, List.set_cons_succ, i64_w, i32_w]
          rfl
        refine pure_ (i := 17) (N := some 36) (v := ?_) (a' := ?_) #[true, true, true, true, false, true, true, true, true, true, false, false, true, true, true, true, true, true, false, false, false, false, false, false, false, false, false, false, false, false, false, false, false, false, false, false, false, false, false, false] rfl rfl (any_of HT_.out (by kernel_rfl)) (fun _ _ _ h => h) (Or.inl ⟨by rfl, ?_⟩) ?_ ?_
        rotate_left
        · intro w'
          go_simp
          with_reducible rfl
        rotate_left
        · simp only [Act.put, List.setIfInBounds_toArray, List.set_cons_zero, List.set_cons_succ, i64_w, i32_w]
          rfl
        refine pure_ (i := 20) (N := some 39) (v := ?_) (a' := ?_) #[true, true, true, true, false, true, true, true, true, true, false, false, true, true, true, true, true, true, false, false, true, false, false, false, false, false, false, false, false, false, false, false, false, false, false, false, false, false, false, false] rfl rfl (any_of HT_.out (by kernel_rfl)) (fun _ _ _ h => h) (Or.inl ⟨by rfl, ?_⟩) ?_ ?_
        rotate_left
        · intro w'
          go_simp
          with_reducible rfl
        rotate_left
        · simp only [Act.put, List.setIfInBounds_toArray, List.set_cons_zero, List.set_cons_succ, i64_w, i32_w]
          rfl
        refine pure_ (i := 21) (N := some 40) (v := ?_) (a' := ?_) #[true, true, true, true, false, true, true, true, true, true, false, false, true, true, true, true, true, true, false, false, true, true, false, false, false, false, false, false, false, false, false, false, false, false, false, false, false, false, false, false] rfl rfl (any_of HT_.out (by kernel_rfl)) (fun _ _ _ h => h) (Or.inl ⟨by rfl, ?_⟩) ?_ ?_
        rotate_left
        · intro w'
          go_simp
          with_reducible rfl
        rotate_left
        · simp only [Act.put, List.setIfInBounds_toArray, List.set_cons_zero, List.set_cons_succ, i64_w, i32_w]
          rfl
        refine pure_ (i := 22) (N := some 41) (v := ?_) (a' := ?_) #[true, true, true, true, false, true, true, true, true, true, false, false, true, true, true, true, true, true, false, false, true, true, true, false, false, false, false, false, false, false, false, false, false, false, false, false, false, false, false, false] rfl rfl (any_of HT_.out (by kernel_rfl)) (fun _ _ _ h => h) (Or.inl ⟨by rfl, ?_⟩) ?_ ?_
        rotate_left
        · intro w'
          go_simp
          with_reducible rfl
        rotate_left
        · simp only [Act.put, List.setIfInBounds_toArray, List.set_cons_zero, List.set_cons_succ, i64_w, i32_w]
          rfl
        refine pure_ (i := 23) (N := some 42) (v := ?_) (a' := ?_) #[true, true, true, true, false, true, true, true, true, true, false, false, true, true, true, true, true, true, false, false, true, true, true, true, false, false, false, false, false, false, false, false, false, false, false, false, false, false, false, false] rfl rfl (any_of HT_.out (by kernel_rfl)) (fun _ _ _ h => h) (Or.inl ⟨by rfl, ?_⟩) ?_ ?_
        rotate_left
        · intro w'
          go_simp
          with_reducible rfl
        rotate_left
        · simp only [Act.put, List.setIfInBounds_toArray, List.set_cons_zero, List.set_cons_succ, i64_w, i32_w]
          rfl
        refine pure_ (i := 24) (N := some 43) (v := ?_) (a' := ?_) #[true, true, true, true, false, true, true, true, true, true, false, false, true, true, true, true, true, true, false, false, true, true, true, true, true, false, false, false, false, false, false, false, false, false, false, false, false, false, false, false] rfl rfl (any_of HT_.out (by kernel_rfl)) (fun _ _ _ h => h) (Or.inl ⟨by rfl, ?_⟩) ?_ ?_
        rotate_left
        · intro w'
          go_simp
          with_reducible rfl
        rotate_left
        · simp only [Act.put, List.setIfInBounds_toArray, List.set_cons_zero, List.set_cons_succ, i64_w, i32_w]
          rfl
        refine pure_ (i := 25) (N := some 44) (v := ?_) (a' := ?_) #[true, true, true, true, false, true, true, true, true, true, false, false, true, true, true, true, true, true, false, false, true, true, true, true, true, true, false, false, false, false, false, false, false, false, false, false, false, false, false, false] rfl rfl (any_of HT_.out (by kernel_rfl)) (fun _ _ _ h => h) (Or.inl ⟨by rfl, ?_⟩) ?_ ?_
        rotate_left
        · intro w'
          go_simp
          with_reducible rfl
        rotate_left
        · simp only [Act.put, List.setIfInBounds_toArray, List.set_cons_zero, List.set_cons_succ, i64_w, i32_w]
          rfl
        refine pure_ (i := 28) (N := some 47) (v := ?_) (a' := ?_) #[true, true, true, true, false, true, true, true, true, true, false, false, true, true, true, true, true, true, false, false, true, true, true, true, true, true, false, false, true, false, false, false, false, false, false, false, false, false, false, false] rfl rfl (any_of HT_.out (by kernel_rfl)) (fun _ _ _ h => h) (Or.inl ⟨by rfl, ?_⟩) ?_ ?_
        rotate_left
        · intro w'
          go_simp
          with_reducible rfl
        rotate_left
        · simp only [Act.put, List.setIfInBounds_toArray, List.set_cons_zero, List.set_cons_succ, i64_w, i32_w]
          rfl
        refine pure_ (i := 29) (N := some 48) (v := ?_) (a' := ?_) #[true, true, true, true, false, true, true, true, true, true, false, false, true, true, true, true, true, true, false, false, true, true, true, true, true, true, false, false, true, true, false, false, false, false, false, false, false, false, false, false] rfl rfl (any_of HT_.out (by kernel_rfl)) (fun _ _ _ h => h) (Or.inl ⟨by rfl, ?_⟩) ?_ ?_
        rotate_left
        · intro w'
          go_simp
          with_reducible rfl
        rotate_left
        · simp only [Act.put, List.setIfInBounds_toArray, List.set_cons_zero, List.set_cons_succ, i64_w, i32_w]
          rfl
        refine pure_ (i := 30) (N := some 49) (v := ?_) (a' := ?_) #[true, true, true, true, false, true, true, true, true, true, false, false, true, true, true, true, true, true, false, false, true, true, true, true, true, true, false, false, true, true, true, false, false, false, false, false, false, false, false, false] rfl rfl (any_of HT_.out (by kernel_rfl)) (fun _ _ _ h => h) (Or.inl ⟨by rfl, ?_⟩) ?_ ?_
        rotate_left
        · intro w'
          go_simp
          with_reducible rfl
        rotate_left
        · simp only [Act.put, List.setIfInBounds_toArray, List.set_cons_zero, List.set_cons_succ, i64_w, i32_w]
          rfl
        refine pure_ (i := 31) (N := some 50) (v := ?_) (a' := ?_) #[true, true, true, true, false, true, true, true, true, true, false, false, true, true, true, true, true, true, false, false, true, true, true, true, true, true, false, false, true, true, true, true, false, false, false, false, false, false, false, false] rfl rfl (any_of HT_.out (by kernel_rfl)) (fun _ _ _ h => h) (Or.inl ⟨by rfl, ?_⟩) ?_ ?_
        rotate_left
        · intro w'
          go_simp
          with_reducible rfl
        rotate_left
        · simp only [Act.put, List.setIfInBounds_toArray, List.set_cons_zero, List.set_cons_succ, i64_w, i32_w]
          rfl
        refine pure_ (i := 32) (N := some 51) (v := ?_) (a' := ?_) #[true, true, true, true, false, true, true, true, true, true, false, false, true, true, true, true, true, true, false, false, true, true, true, true, true, true, false, false, true, true, true, true, true, false, false, false, false, false, false, false] rfl rfl (any_of HT_.out (by kernel_rfl)) (fun _ _ _ h => h) (Or.inl ⟨by rfl, ?_⟩) ?_ ?_
        rotate_left
        · intro w'
          go_simp
          with_reducible rfl
        rotate_left
        · simp only [Act.put, List.setIfInBounds_toArray, List.set_cons_zero, List.set_cons_succ, i64_w, i32_w]
          rfl
        refine pure_ (i := 33) (N := some 52) (v := ?_) (a' := ?_) #[true, true, true, true, false, true, true, true, true, true, false, false, true, true, true, true, true, true, false, false, true, true, true, true, true, true, false, false, true, true, true, true, true, true, false, false, false, false, false, false] rfl rfl (any_of HT_.out (by kernel_rfl)) (fun _ _ _ h => h) (Or.inl ⟨by rfl, ?_⟩) ?_ ?_
        rotate_left
        · intro w'
          go_simp
          with_reducible rfl
        rotate_left
        · simp only [Act.put, List.setIfInBounds_toArray, List.set_cons_zero, List.set_cons_succ, i64_w, i32_w]
          rfl
        refine inv_at [4, 10, 11, 18, 19, 26, 27, 34, 35, 36, 37, 38, 39] (fun a0_ b a w' => ∃ (vp : Value), a = putSel a0_ b [(4, 23, .bool rg), (10, 29, .slice A1 T.length c1), (11, 30, .slice A1 T' c1), (18, 37, .slice A2 S0.length c2), (19, 38, .slice A2 S0' c2), (26, 45, .slice A3 S1.length c3), (27, 46, .slice A3 S1' c3), (34, 53, .slice A4 S2.length c4), (35, 54, .slice A4 S2' c4), (36, 55, .agg #[.slice A2 S0' c2, .slice A3 S1' c3, .slice A4 S2' c4]), (37, 56, .agg #[.bool rg, .slice A1 T' c1, .slice A2 S0' c2, .slice A3 S1' c3, .slice A4 S2' c4]), (38, 8, vp)] ∧ (Below wd.heap.size wd w' ∧ wd.heap.size ≤ w'.heap.size) ∧ (b 38 = true → b 39 = false → BxT 44 wd.heap.size vp #[.bool false, .slice none 0 0, .slice none 0 0, .slice none 0 0, .slice none 0 0] w') ∧ (b 39 = true → BxT 44 wd.heap.size vp #[.bool rg, .slice A1 T' c1, .slice A2 S0' c2, .slice A3 S1' c3, .slice A4 S2' c4] w')) HT_.out HW_.out (by kernel_rfl) (by kernel_rfl) ?_ ?_ ?_
        · exact ⟨.bool false, by simp only [putSel, Bool.false_eq_true, if_false], ⟨Below.refl _ _, Nat.le_refl _⟩, fun h_ => absurd h_ (by decide), fun h_ => absurd h_ (by decide)⟩
        · skip
          clear E
          refine steps_cons ?_ ?_
          · rintro b a w' ⟨vp, ha, Q_E, Q_Eg, Q_Ef⟩ hb_ hon hoff
            refine ⟨_, rfl, fun K hK => ?_⟩
            have e22 : a.tmps[22]? = some (.pointer (some (ad.add (ii.toNat * 5)))) := by rw [ha]; exact (putSel_off rfl).trans rfl
            replace ha := Aside0.mk ha
            have E := Aside0.mk Q_E
            have hc_ := (E.out.1.cell (World.block_lt_of_cell? _ _ hx0)).trans hx0
            refine value_ (w1 := w') (v := .bool rg) (by rfl) rfl ?_ ?_
            · go_simp
              (try simp only [i64_w])
              try rfl
            refine hK.out _ _ ⟨vp, (by rw [ha.out]; exact putSel_upk 0 hb_ rfl rfl rfl), Q_E, Q_Eg, fun h0_ => absurd ((hoff 39 (by kernel_rfl)).symm.trans h0_) (by decide)⟩
          refine steps_cons ?_ ?_
          · rintro b a w' ⟨vp, ha, Q_E, Q_Eg, Q_Ef⟩ hb_ hon hoff
            refine ⟨_, rfl, fun K hK => ?_⟩
            have e28 : a.tmps[28]? = some (.pointer (some ⟨(ad.add (ii.toNat * 5)).block, (ad.add (ii.toNat * 5)).off + 1, none⟩)) := by rw [ha]; exact (putSel_off rfl).trans rfl
            replace ha := Aside0.mk ha
            have E := Aside0.mk Q_E
            have hc_ := (E.out.1.cell (World.block_lt_of_cell? _ _ hx1)).trans hx1
            refine value_ (w1 := w') (v := .slice A1 T.length c1) (by rfl) rfl ?_ ?_
            · go_simp
              (try simp only [i64_w])
              try rfl
            refine hK.out _ _ ⟨vp, (by rw [ha.out]; exact putSel_upk 1 hb_ rfl rfl rfl), Q_E, Q_Eg, fun h0_ => absurd ((hoff 39 (by kernel_rfl)).symm.trans h0_) (by decide)⟩
          refine steps_cons ?_ ?_
          · rintro b a w' ⟨vp, ha, Q_E, Q_Eg, Q_Ef⟩ hb_ hon hoff
            refine ⟨_, rfl, fun K hK => ?_⟩
            have e24 : a.tmps[24]? = some (.func (.func 33) #[] #[]) := by rw [ha]; exact (putSel_off rfl).trans rfl
            have e29 : a.tmps[29]? = some (.slice A1 T.length c1) := by rw [ha]; exact putSel_on (e := (10, 29, .slice A1 T.length c1)) 1 rfl rfl (hon 10 (by kernel_rfl)) rfl
            replace ha := Aside0.mk ha
            have E := Aside0.mk Q_E
            refine goesT_ Tryd.func33 (by kernel_rfl) rfl #[.slice A1 T.length c1] (by rfl) rfl rfl (eval_of e24) (by first | (simp only [List.map_toArray, List.map_cons, List.map_nil, Act.eval, Array.getD_eq_getD_getElem?, Option.getD_some, e24, e29]; done) | (simp only [List.map_toArray, List.map_cons, List.map_nil, Act.eval, Array.getD_eq_getD_getElem?, Option.getD_some, e24, e29]; rfl)) ?_
            refine (HCC.out.1 _).mono ?_
            rintro e w20 ⟨rfl, hw_⟩
            subst hw_
            refine ⟨_, rfl, ?_⟩
            refine hK.out _ _ ⟨vp, (by rw [ha.out]; exact putSel_upk 2 hb_ rfl rfl rfl), E.out, fun h0_ h1_ => (Q_Eg h0_ h1_), fun h0_ => absurd ((hoff 39 (by kernel_rfl)).symm.trans h0_) (by decide)⟩
          refine steps_cons ?_ ?_
          · rintro b a w' ⟨vp, ha, Q_E, Q_Eg, Q_Ef⟩ hb_ hon hoff
            refine ⟨_, rfl, fun K hK => ?_⟩
            have e36 : a.tmps[36]? = some (.pointer (some ⟨(ad.add (ii.toNat * 5)).block, (ad.add (ii.toNat * 5)).off + 2, none⟩)) := by rw [ha]; exact (putSel_off rfl).trans rfl
            replace ha := Aside0.mk ha
            have E := Aside0.mk Q_E
            have hc_ := (E.out.1.cell (World.block_lt_of_cell? _ _ hx2)).trans hx2
            refine value_ (w1 := w') (v := .slice A2 S0.length c2) (by rfl) rfl ?_ ?_
            · go_simp
              (try simp only [i64_w])
              try rfl
            refine hK.out _ _ ⟨vp, (by rw [ha.out]; exact putSel_upk 3 hb_ rfl rfl rfl), Q_E, Q_Eg, fun h0_ => absurd ((hoff 39 (by kernel_rfl)).symm.trans h0_) (by decide)⟩
          refine steps_cons ?_ ?_
          · rintro b a w' ⟨vp, ha, Q_E, Q_Eg, Q_Ef⟩ hb_ hon hoff
            refine ⟨_, rfl, fun K hK => ?_⟩
            have e31 : a.tmps[31]? = some (.func (.func 33) #[] #[]) := by rw [ha]; exact (putSel_off rfl).trans rfl
            have e37 : a.tmps[37]? = some (.slice A2 S0.length c2) := by rw [ha]; exact putSel_on (e := (18, 37, .slice A2 S0.length c2)) 3 rfl rfl (hon 18 (by kernel_rfl)) rfl
            replace ha := Aside0.mk ha
            have E := Aside0.mk Q_E
            refine goesT_ Tryd.func33 (by kernel_rfl) rfl #[.slice A2 S0.length c2] (by rfl) rfl rfl (eval_of e31) (by first | (simp only [List.map_toArray, List.map_cons, List.map_nil, Act.eval, Array.getD_eq_getD_getElem?, Option.getD_some, e31, e37]; done) | (simp only [List.map_toArray, List.map_cons, List.map_nil, Act.eval, Array.getD_eq_getD_getElem?, Option.getD_some, e31, e37]; rfl)) ?_
            refine (HCC.out.2.1 _).mono ?_
            rintro e w20 ⟨rfl, hw_⟩
            subst hw_
            refine ⟨_, rfl, ?_⟩
            refine hK.out _ _ ⟨vp, (by rw [ha.out]; exact putSel_upk 4 hb_ rfl rfl rfl), E.out, fun h0_ h1_ => (Q_Eg h0_ h1_), fun h0_ => absurd ((hoff 39 (by kernel_rfl)).symm.trans h0_) (by decide)⟩
          refine steps_cons ?_ ?_
          · rintro b a w' ⟨vp, ha, Q_E, Q_Eg, Q_Ef⟩ hb_ hon hoff
            refine ⟨_, rfl, fun K hK => ?_⟩
            have e44 : a.tmps[44]? = some (.pointer (some ⟨(ad.add (ii.toNat * 5)).block, (ad.add (ii.toNat * 5)).off + 3, none⟩)) := by rw [ha]; exact (putSel_off rfl).trans rfl
            replace ha := Aside0.mk ha
            have E := Aside0.mk Q_E
            have hc_ := (E.out.1.cell (World.block_lt_of_cell? _ _ hx3)).trans hx3
            refine value_ (w1 := w') (v := .slice A3 S1.length c3) (by rfl) rfl ?_ ?_
            · go_simp
              (try simp only [i64_w])
              try rfl
            refine hK.out _ _ ⟨vp, (by rw [ha.out]; exact putSel_upk 5 hb_ rfl rfl rfl), Q_E, Q_Eg, fun h0_ => absurd ((hoff 39 (by kernel_rfl)).symm.trans h0_) (by decide)⟩
          refine steps_cons ?_ ?_
          · rintro b a w' ⟨vp, ha, Q_E, Q_Eg, Q_Ef⟩ hb_ hon hoff
            refine ⟨_, rfl, fun K hK => ?_⟩
            have e39 : a.tmps[39]? = some (.func (.func 33) #[] #[]) := by rw [ha]; exact (putSel_off rfl).trans rfl
            have e45 : a.tmps[45]? = some (.slice A3 S1.length c3) := by rw [ha]; exact putSel_on (e := (26, 45, .slice A3 S1.length c3)) 5 rfl rfl (hon 26 (by kernel_rfl)) rfl
            replace ha := Aside0.mk ha
            have E := Aside0.mk Q_E
            refine goesT_ Tryd.func33 (by kernel_rfl) rfl #[.slice A3 S1.length c3] (by rfl) rfl rfl (eval_of e39) (by first | (simp only [List.map_toArray, List.map_cons, List.map_nil, Act.eval, Array.getD_eq_getD_getElem?, Option.getD_some, e39, e45]; done) | (simp only [List.map_toArray, List.map_cons, List.map_nil, Act.eval, Array.getD_eq_getD_getElem?, Option.getD_some, e39, e45]; rfl)) ?_
            refine (HCC.out.2.2.1 _).mono ?_
            rintro e w20 ⟨rfl, hw_⟩
            subst hw_
            refine ⟨_, rfl, ?_⟩
            refine hK.out _ _ ⟨vp, (by rw [ha.out]; exact putSel_upk 6 hb_ rfl rfl rfl), E.out, fun h0_ h1_ => (Q_Eg h0_ h1_), fun h0_ => absurd ((hoff 39 (by kernel_rfl)).symm.trans h0_) (by decide)⟩
          refine steps_cons ?_ ?_
          · rintro b a w' ⟨vp, ha, Q_E, Q_Eg, Q_Ef⟩ hb_ hon hoff
            refine ⟨_, rfl, fun K hK => ?_⟩
            have e52 : a.tmps[52]? = some (.pointer (some ⟨(ad.add (ii.toNat * 5)).block, (ad.add (ii.toNat * 5)).off + 4, none⟩)) := by rw [ha]; exact (putSel_off rfl).trans rfl
            replace ha := Aside0.mk ha
            have E := Aside0.mk Q_E
            have hc_ := (E.out.1.cell (World.block_lt_of_cell? _ _ hx4)).trans hx4
            refine value_ (w1 := w') (v := .slice A4 S2.length c4) (by rfl) rfl ?_ ?_
            · go_simp
              (try simp only [i64_w])
              try rfl
            refine hK.out _ _ ⟨vp, (by rw [ha.out]; exact putSel_upk 7 hb_ rfl rfl rfl), Q_E, Q_Eg, fun h0_ => absurd ((hoff 39 (by kernel_rfl)).symm.trans h0_) (by decide)⟩
          refine steps_cons ?_ ?_
          · rintro b a w' ⟨vp, ha, Q_E, Q_Eg, Q_Ef⟩ hb_ hon hoff
            refine ⟨_, rfl, fun K hK => ?_⟩
            have e47 : a.tmps[47]? = some (.func (.func 33) #[] #[]) := by rw [ha]; exact (putSel_off rfl).trans rfl
            have e53 : a.tmps[53]? = some (.slice A4 S2.length c4) := by rw [ha]; exact putSel_on (e := (34, 53, .slice A4 S2.length c4)) 7 rfl rfl (hon 34 (by kernel_rfl)) rfl
            replace ha := Aside0.mk ha
            have E := Aside0.mk Q_E
            refine goesT_ Tryd.func33 (by kernel_rfl) rfl #[.slice A4 S2.length c4] (by rfl) rfl rfl (eval_of e47) (by first | (simp only [List.map_toArray, List.map_cons, List.map_nil, Act.eval, Array.getD_eq_getD_getElem?, Option.getD_some, e47, e53]; done) | (simp only [List.map_toArray, List.map_cons, List.map_nil, Act.eval, Array.getD_eq_getD_getElem?, Option.getD_some, e47, e53]; rfl)) ?_
            refine (HCC.out.2.2.2 _).mono ?_
            rintro e w20 ⟨rfl, hw_⟩
            subst hw_
            refine ⟨_, rfl, ?_⟩
            refine hK.out _ _ ⟨vp, (by rw [ha.out]; exact putSel_upk 8 hb_ rfl rfl rfl), E.out, fun h0_ h1_ => (Q_Eg h0_ h1_), fun h0_ => absurd ((hoff 39 (by kernel_rfl)).symm.trans h0_) (by decide)⟩
          refine steps_cons ?_ ?_
          · rintro b a w' ⟨vp, ha, Q_E, Q_Eg, Q_Ef⟩ hb_ hon hoff
            refine ⟨_, rfl, fun K hK => ?_⟩
            have e38 : a.tmps[38]? = some (.slice A2 S0' c2) := by rw [ha]; exact putSel_on (e := (19, 38, .slice A2 S0' c2)) 4 rfl rfl (hon 19 (by kernel_rfl)) rfl
            have e46 : a.tmps[46]? = some (.slice A3 S1' c3) := by rw [ha]; exact putSel_on (e := (27, 46, .slice A3 S1' c3)) 6 rfl rfl (hon 27 (by kernel_rfl)) rfl
            have e54 : a.tmps[54]? = some (.slice A4 S2' c4) := by rw [ha]; exact putSel_on (e := (35, 54, .slice A4 S2' c4)) 8 rfl rfl (hon 35 (by kernel_rfl)) rfl
            replace ha := Aside0.mk ha
            have E := Aside0.mk Q_E
            refine value_ (w1 := w') (v := .agg #[.slice A2 S0' c2, .slice A3 S1' c3, .slice A4 S2' c4]) (by rfl) rfl ?_ ?_
            · go_simp
              (try simp only [i64_w])
              try rfl
            refine hK.out _ _ ⟨vp, (by rw [ha.out]; exact putSel_upk 9 hb_ rfl rfl rfl), Q_E, Q_Eg, fun h0_ => absurd ((hoff 39 (by kernel_rfl)).symm.trans h0_) (by decide)⟩
          refine steps_cons ?_ ?_
          · rintro b a w' ⟨vp, ha, Q_E, Q_Eg, Q_Ef⟩ hb_ hon hoff
            refine ⟨_, rfl, fun K hK => ?_⟩
            have e23 : a.tmps[23]? = some (.bool rg) := by rw [ha]; exact putSel_on (e := (4, 23, .bool rg)) 0 rfl rfl (hon 4 (by kernel_rfl)) rfl
            have e30 : a.tmps[30]? = some (.slice A1 T' c1) := by rw [ha]; exact putSel_on (e := (11, 30, .slice A1 T' c1)) 2 rfl rfl (hon 11 (by kernel_rfl)) rfl
            have e55 : a.tmps[55]? = some (.agg #[.slice A2 S0' c2, .slice A3 S1' c3, .slice A4 S2' c4]) := by rw [ha]; exact putSel_on (e := (36, 55, .agg #[.slice A2 S0' c2, .slice A3 S1' c3, .slice A4 S2' c4])) 9 rfl rfl (hon 36 (by kernel_rfl)) rfl
            replace ha := Aside0.mk ha
            have E := Aside0.mk Q_E
            refine value_ (w1 := w') (v := .agg #[.bool rg, .slice A1 T' c1, .slice A2 S0' c2, .slice A3 S1' c3, .slice A4 S2' c4]) (by rfl) rfl ?_ ?_
            · go_simp
              (try simp only [i64_w])
              try rfl
            refine hK.out _ _ ⟨vp, (by rw [ha.out]; exact putSel_upk 10 hb_ rfl rfl rfl), Q_E, Q_Eg, fun h0_ => absurd ((hoff 39 (by kernel_rfl)).symm.trans h0_) (by decide)⟩
          refine steps_cons ?_ ?_
          · rintro b a w' ⟨vp, ha, Q_E, Q_Eg, Q_Ef⟩ hb_ hon hoff
            refine ⟨_, rfl, fun K hK => ?_⟩
            replace ha := Aside0.mk ha
            have E := Aside0.mk Q_E
            refine value_ (w1 := w'.alloc (.cells #[.bool false, .slice none 0 0, .slice none 0 0, .slice none 0 0, .slice none 0 0] 44)) (v := .pointer (some ⟨w'.heap.size, 0, none⟩)) (by rfl) rfl ?_ ?_
            · go_simp
              try rfl
            refine hK.out _ _ ⟨(.pointer (some ⟨w'.heap.size, 0, none⟩)), (by rw [ha.out]; exact putSel_upk 11 hb_ rfl rfl rfl), ⟨E.out.1.trans (below_lo (below_alloc (Below.refl w'.heap.size w') _) E.out.2), Nat.le_trans E.out.2 (by simp)⟩, fun _ _ => ⟨_, rfl, heap_alloc_new w' _, E.out.2⟩, fun h0_ => absurd ((hoff 39 (by kernel_rfl)).symm.trans h0_) (by decide)⟩
          refine steps_cons ?_ ?_
          · rintro b a w' ⟨vp, ha, Q_E, Q_Eg, Q_Ef⟩ hb_ hon hoff
            refine ⟨_, rfl, fun K hK => ?_⟩
            have e8 : a.tmps[8]? = some (vp) := by rw [ha]; exact putSel_on (e := (38, 8, vp)) 11 rfl rfl (hon 38 (by kernel_rfl)) rfl
            have e56 : a.tmps[56]? = some (.agg #[.bool rg, .slice A1 T' c1, .slice A2 S0' c2, .slice A3 S1' c3, .slice A4 S2' c4]) := by rw [ha]; exact putSel_on (e := (37, 56, .agg #[.bool rg, .slice A1 T' c1, .slice A2 S0' c2, .slice A3 S1' c3, .slice A4 S2' c4])) 10 rfl rfl (hon 37 (by kernel_rfl)) rfl
            replace ha := Aside0.mk ha
            have E := Aside0.mk Q_E
            have Eg := Aside0.mk (Q_Eg (hon 38 (by kernel_rfl)) hb_)
            obtain ⟨gp_, evp_, hgp_, hBg_⟩ := Eg.out
            rw [evp_] at e8
            have hk0_ := (blk_cell hgp_ 0).trans rfl
            have hk1_ := (blk_cell hgp_ 1).trans rfl
            have hk2_ := (blk_cell hgp_ 2).trans rfl
            have hk3_ := (blk_cell hgp_ 3).trans rfl
            have hk4_ := (blk_cell hgp_ 4).trans rfl
            have hf0_ := blk_frozen hgp_ 0
            have hf1_ := blk_frozen hgp_ 1
            have hf2_ := blk_frozen hgp_ 2
            have hf3_ := blk_frozen hgp_ 3
            have hf4_ := blk_frozen hgp_ 4
            have S3_ := BxT.fill hgp_ hBg_ (.bool rg) (.slice A1 T' c1) (.slice A2 S0' c2) (.slice A3 S1' c3) (.slice A4 S2' c4)
            refine skip_ (w1 := ((((w'.setCell ⟨gp_, 0, none⟩ (.bool rg)).setCell ⟨gp_, 1, none⟩ (.slice A1 T' c1)).setCell ⟨gp_, 2, none⟩ (.slice A2 S0' c2)).setCell ⟨gp_, 3, none⟩ (.slice A3 S1' c3)).setCell ⟨gp_, 4, none⟩ (.slice A4 S2' c4)) (by rfl) rfl ?_ ?_
            · go_simp
              try rfl
            refine hK.out _ _ ⟨vp, (by rw [ha.out]; exact putSel_none (v := undef) rfl), ⟨S3_.2.1 _ E.out.1, by rw [S3_.2.2]; exact E.out.2⟩, fun _ h1_ => absurd ((up_self b 39).symm.trans h1_) (by decide), fun _ => (by rw [evp_]; exact S3_.1)⟩
          exact steps_nil
        · rintro b a w' hall ⟨vp, ha, Q_E, Q_Eg, Q_Ef⟩
          clear E
          have hb4_ := hall 4 (by kernel_rfl)
          have hb10_ := hall 10 (by kernel_rfl)
          have hb11_ := hall 11 (by kernel_rfl)
          have hb18_ := hall 18 (by kernel_rfl)
          have hb19_ := hall 19 (by kernel_rfl)
          have hb26_ := hall 26 (by kernel_rfl)
          have hb27_ := hall 27 (by kernel_rfl)
          have hb34_ := hall 34 (by kernel_rfl)
          have hb35_ := hall 35 (by kernel_rfl)
          have hb36_ := hall 36 (by kernel_rfl)
          have hb37_ := hall 37 (by kernel_rfl)
          have hb38_ := hall 38 (by kernel_rfl)
          have hb39_ := hall 39 (by kernel_rfl)
          subst ha
          simp only [putSel, hb4_, hb10_, hb11_, hb18_, hb19_, hb26_, hb27_, hb34_, hb35_, hb36_, hb37_, hb38_, hb39_, if_true, Act.put, List.setIfInBounds_toArray, List.set_cons_zero, List.set_cons_succ]
          have E := Aside0.mk Q_E
          clear Q_E
          clear Q_Eg
          have Ef := Aside0.mk (Q_Ef hb39_)
          clear Q_Ef
          clear hall hb4_ hb10_ hb11_ hb18_ hb19_ hb26_ hb27_ hb34_ hb35_ hb36_ hb37_ hb38_ hb39_
          obtain ⟨gp, evp, hgp, hBg⟩ := Ef.out
          subst evp
          have S := Aside0.mk (HF.out.more E.out.1 (a := blk gp 44 #[.bool rg, .slice A1 T' c1, .slice A2 S0' c2, .slice A3 S1' c3, .slice A4 S2' c4]) (f := fun k => k = gp) ⟨fun k => Iff.rfl, hgp⟩ (fun k hk => hk ▸ hBg))
          clear HF E Ef hgp hBg hx0 hx1 hx2 hx3 hx4 HCC
          obtain ⟨fb0, fb1, fb2, fb3, fb4⟩ := box5 (S.out.at_blk 0 rfl)
          go_wp2_with (first | ((with_reducible refine gate_builtin (b := .append) (xs := #[.tmp 57, .tmp 59]) rfl ?_); at_builtin; refine wpl rfl (fun K hK => st_push (by rfl) (.tmp 57) (.tmp 59) 27 44 (.agg #[.bool false, .slice none 0 0, .slice none 0 0, .slice none 0 0, .slice none 0 0]) rfl Tryd.underlying27 inf44 rfl 1 rfl rfl (S.out.lit0 44 5 [Value.bool rg, Value.slice A1 T' c1, Value.slice A2 S0' c2, Value.slice A3 S1' c3, Value.slice A4 S2' c4] rfl) rfl (by simp [Value.oneCell']) (by have := HI.out.2.2; omega) ?_); intro v_ w_ S_; refine hK _ _ ?_; simp only [List.set_cons_succ, List.set_cons_zero] at S_; replace S := Aside0.mk S_; clear S_; clear fb0 fb1 fb2 fb3 fb4; obtain ⟨fb0, fb1, fb2, fb3, fb4⟩ := box5 (S.out.at_blk 0 rfl)) | ((with_reducible refine gate_builtin (b := .append) (xs := #[.tmp 61, .tmp 69]) rfl ?_); at_builtin; refine wpl rfl (fun K hK => st_push (by rfl) (.tmp 61) (.tmp 69) 23 50 (.agg #[.bool false, .slice none 0 0, .slice none 0 0, .slice none 0 0, .slice none 0 0]) rfl Tryd.underlying23 inf50 rfl 2 rfl rfl (S.out.lit0 50 5 [Value.bool rg, Value.slice A1 T' c1, Value.slice A2 S0' c2, Value.slice A3 S1' c3, Value.slice A4 S2' c4] rfl) rfl (by simp [Value.oneCell']) (by have := HI.out.2.2; omega) ?_); intro v_ w_ S_; refine hK _ _ ?_; simp only [List.set_cons_succ, List.set_cons_zero] at S_; replace S := Aside0.mk S_; clear S_; clear fb0 fb1 fb2 fb3 fb4; obtain ⟨fb0, fb1, fb2, fb3, fb4⟩ := box5 (S.out.at_blk 0 rfl)))
          have hiq : i < qs.length := by have := hql.out; have := hii.out; have := HI.out.2.2; omega
          go_roundg (20 - (i + 1))
          case rel => exact ⟨wrap64 (ii + 1), i + 1, by first | rfl | (simp; done) | (simp [hw1]; done), ⟨by rw [hw1]; have := hii.out; omega⟩, hiq, rfl, ⟨_, ⟨S.out.drop.st, fun a ha => S.out.fr a (by simp only [List.mem_cons, List.not_mem_nil, or_false] at ha ⊢; rcases ha with h | h <;> simp [h]), S.out.old⟩⟩⟩
          case measure => have := HI.out.2.2; have := HI.out.2.1; omega
      · have hi' : i = qs.length := by have := hii.out; have := hql.out; omega
        have h1b := eq_true hin
        have h2b := eq_false hin2
        subst hi'
        obtain ⟨cells, S⟩ := hI.out
        have hk := S.fr _ (List.mem_cons_self)
        rw [List.take_of_length_le (Nat.le_refl _)] at hk
        obtain ⟨A5, c5, e5, hc5, hC5⟩ := rowP_C (S.rowAt 0 rfl) hk
        obtain ⟨A4, c4, e4, hc4, hC4⟩ := rowP_C (S.rowAt 1 rfl) hk
        have HH := Aside0.mk (⟨hc4, hC4, hc5, hC5, S.below⟩ : _ ∧ _ ∧ _ ∧ _ ∧ _)
        subst e4 e5
        clear hI S hk hc4 hC4 hc5 hC5
        go_wp2
        refine bodyPost_ret (results_tmp2 rfl _ _ _) rfl ?_
        exact ⟨A4, c4, A5, c5, rfl, HH.out⟩
    · have hi' : i = qs.length := by have := hii.out; have := hql.out; omega
      have h1b := eq_false hin
      subst hi'
      obtain ⟨cells, S⟩ := hI.out
      have hk := S.fr _ (List.mem_cons_self)
      rw [List.take_of_length_le (Nat.le_refl _)] at hk
      obtain ⟨A5, c5, e5, hc5, hC5⟩ := rowP_C (S.rowAt 0 rfl) hk
      obtain ⟨A4, c4, e4, hc4, hC4⟩ := rowP_C (S.rowAt 1 rfl) hk
      have HH := Aside0.mk (⟨hc4, hC4, hc5, hC5, S.below⟩ : _ ∧ _ ∧ _ ∧ _ ∧ _)
      subst e4 e5
      clear hI S hk hc4 hC4 hc5 hC5
      go_wp2
      refine bodyPost_ret (results_tmp2 rfl _ _ _) rfl ?_
      exact ⟨A4, c4, A5, c5, rfl, HH.out⟩
end Go.Proofs.YtnnnbeimehfiiaaDoor.Q
/-! MarkBack and MarkPicks in plain Lean, second part: how long markers are, how long the text is, its bytes. -/
set_option linter.unusedVariables false
set_option linter.unusedSimpArgs false
namespace Go.Proofs.YtnnnbeimehfiiaaDoor.Q
open Go Go.RowKit Go.Proofs.YtnnnbeimehfiiaaDoorW.PrintWords Go.Proofs.YtnnnbeimehfiiaaDoorW.SL
def rowsP (p : Pt) : List (List Int) := [p.text, p.s0, p.s1, p.s2]
def allP (qs : List Pt) : List (List Int) := qs.flatMap rowsP
theorem allP_take {qs : List Pt} {i : Nat} {x : Pt} (h : qs[i]? = some x) : allP (qs.take (i + 1)) = allP (qs.take i) ++ rowsP x := by
  rw [List.take_add_one, h]; simp [allP]
theorem allP_len : ∀ qs : List Pt, (allP qs).length ≤ qs.length * 4
  | [] => Nat.le_refl _
  | p :: r => by
    have h2 := allP_len r
    simp only [allP, rowsP, List.flatMap_cons, List.length_append, List.length_cons, List.length_nil] at h2 ⊢
    omega
theorem lenAll_ge : ∀ (m : List (List Int)) (n : Int), n ≤ lenAll n m ∧ ∀ l ∈ m, ∀ x ∈ linesOf l, 0 < (sgn x).1 → (((sgn x).1 : Nat) : Int) < lenAll n m
  | [], n => ⟨Int.le_refl _, by simp⟩
  | l :: m, n => by
    have h1 := fold_ge (linesOf l) n
    have h2 := lenAll_ge m (lenRow n l)
    refine ⟨Int.le_trans h1.1 h2.1, fun y hy x hx h0 => ?_⟩
    rcases List.mem_cons.1 hy with rfl | hy
    · exact Int.lt_of_lt_of_le (h1.2 x hx h0) h2.1
    · exact h2.2 y hy x hx h0
theorem lenAll_le (B : Int) : ∀ (m : List (List Int)) (n : Int), n ≤ B + 1 → (∀ l ∈ m, (l.length : Int) ≤ B) → lenAll n m ≤ B + 1
  | [], n, h, _ => h
  | l :: m, n, h, hm => by
    have h1 : lenRow n l ≤ B + 1 := fold_le B (linesOf l) n h (fun x hx => Int.le_trans (by have := linesOf_mem l x hx; omega) (hm l List.mem_cons_self))
    exact lenAll_le B m _ h1 (fun x hx => hm x (List.mem_cons_of_mem _ hx))
theorem good_of {n : Int} (h1 : 1 ≤ n) {m : List (List Int)} {l : List Int} (hl : l ∈ m) : Good (lenAll n m).toNat l := by
  intro x hx
  have h2 := lenAll_ge m n
  by_cases h0 : 0 < (sgn x).1
  · have := h2.2 l hl x hx h0; omega
  · have := h2.1; omega
theorem goodPs {n : Int} (h1 : 1 ≤ n) (qs : List Pt) : ∀ p ∈ qs, GoodP (lenAll n (allP qs)).toNat p := fun p hp => by
  have hm : ∀ l ∈ rowsP p, l ∈ allP qs := fun l hl => List.mem_flatMap.2 ⟨p, hp, hl⟩
  constructor
  · intro hr; exact good_of h1 (hm _ (by simp [rowsP]))
  · intro hr; exact ⟨good_of h1 (hm _ (by simp [rowsP])), good_of h1 (hm _ (by simp [rowsP])), good_of h1 (hm _ (by simp [rowsP]))⟩
/-- Parts with short texts, of bytes. -/
def Sm (qs : List Pt) : Prop := qs.length ≤ 20 ∧ ∀ p ∈ qs, (p.text.length ≤ 500 ∧ p.s0.length ≤ 500 ∧ p.s1.length ≤ 500 ∧ p.s2.length ≤ 500) ∧ ptOk p
theorem few_Sm {ps : List Pt} (h : ∀ p ∈ ps, ptOk p) : Sm (fewOf ps) := by
  refine ⟨by rw [fewOf_len]; omega, fun p hp => ⟨fewOf_small ps p hp, ?_⟩⟩
  obtain ⟨q, hq, rfl⟩ := List.mem_map.1 hp
  obtain ⟨h1, h2, h3, h4⟩ := h q (List.mem_of_mem_take hq)
  exact ⟨fun x hx => h1 x (List.mem_of_mem_take hx), fun x hx => h2 x (List.mem_of_mem_take hx), fun x hx => h3 x (List.mem_of_mem_take hx), fun x hx => h4 x (List.mem_of_mem_take hx)⟩
theorem allP_ok {qs : List Pt} (h : Sm qs) : ∀ l ∈ allP qs, l.length ≤ 500 ∧ ∀ x ∈ l, byte x := by
  intro l hl
  obtain ⟨p, hp, hl⟩ := List.mem_flatMap.1 hl
  obtain ⟨⟨a, b, c, d⟩, e, f, g, i⟩ := h.2 p hp
  simp only [rowsP, List.mem_cons, List.not_mem_nil, or_false] at hl
  rcases hl with rfl | rfl | rfl | rfl
  · exact ⟨a, e⟩
  · exact ⟨b, f⟩
  · exact ⟨c, g⟩
  · exact ⟨d, i⟩
theorem lenAll_in {n : Int} (h1 : 1 ≤ n) (h2 : n ≤ 1000) {m : List (List Int)} (hm : ∀ l ∈ m, l.length ≤ 500 ∧ ∀ x ∈ l, byte x) : 1 ≤ lenAll n m ∧ lenAll n m ≤ 1000 :=
  ⟨Int.le_trans h1 (lenAll_ge m n).1, by
    have := lenAll_le 999 m n (by omega) (fun l hl => by have := (hm l hl).1; omega)
    omega⟩
/-- The text that is written: short, of bytes. -/
def TextOk (b : Nat) (l : List Int) : Prop := l.length ≤ b ∧ ∀ x ∈ l, byte x
theorem TextOk.app {b c : Nat} {l m : List Int} (h : TextOk b l) (k : TextOk c m) : TextOk (b + c) (l ++ m) :=
  ⟨by rw [List.length_append]; have := h.1; have := k.1; omega, fun x hx => (List.mem_append.1 hx).elim (h.2 x) (k.2 x)⟩
theorem TextOk.ended {b : Nat} {l : List Int} (h : TextOk b l) : TextOk (b + 1) (endNl l) := by
  refine ⟨Nat.le_trans (endNl_le l) (by have := h.1; omega), ?_⟩
  rcases List.eq_nil_or_concat l with rfl | ⟨r, x, hs⟩
  · exact h.2
  · have h2 : l = r ++ [x] := by simpa using hs
    subst h2
    rw [endNl_snoc]
    split
    · exact h.2
    · intro y hy
      rcases List.mem_append.1 hy with hy | hy
      · exact h.2 y hy
      · rw [List.mem_singleton] at hy; subst hy; unfold byte; omega
theorem bnum_b (x : UInt8) : byte (bnum x) := by
  have := x.toNat_lt
  unfold byte bnum; omega
theorem TextOk.line (x : UInt8) {n : Nat} (hn : n ≤ 1000) (s : ByteArray) : TextOk 1202 (mkLine x n s) := by
  refine ⟨Nat.le_trans (mkLine_le x n s) (by omega), ?_⟩
  intro y hy
  unfold mkLine at hy
  rcases List.mem_append.1 hy with hy | hy
  · rcases List.mem_append.1 hy with hy | hy
    · rw [(List.mem_replicate.1 hy).2]; exact bnum_b x
    · split at hy
      · simp at hy
      · rcases List.mem_cons.1 hy with rfl | hy
        · unfold byte; omega
        · obtain ⟨c, _, rfl⟩ := List.mem_map.1 hy; exact bnum_b c
  · rw [List.mem_singleton] at hy; subst hy; unfold byte; omega
theorem TextOk.mono {b c : Nat} {l : List Int} (h : TextOk b l) (hb : b ≤ c) : TextOk c l := ⟨Nat.le_trans h.1 hb, h.2⟩
theorem wrPart_ok {b n : Nat} (hn : n ≤ 1000) (s0 s1 s2 : ByteArray) (last : Bool) {acc : List Int} (h : TextOk b acc) {p : Pt} (hp : (p.text.length ≤ 500 ∧ p.s0.length ≤ 500 ∧ p.s1.length ≤ 500 ∧ p.s2.length ≤ 500) ∧ ptOk p) : TextOk (b + 10000) (wrPart n s0 s1 s2 last acc p) := by
  obtain ⟨⟨l0, l1, l2, l3⟩, k0, k1, k2, k3⟩ := hp
  have o0 : TextOk 500 p.text := ⟨l0, k0⟩
  have o1 : TextOk 500 p.s0 := ⟨l1, k1⟩
  have o2 : TextOk 500 p.s1 := ⟨l2, k2⟩
  have o3 : TextOk 500 p.s2 := ⟨l3, k3⟩
  unfold wrPart
  split
  · exact ((((((((h.app (TextOk.line 60 hn s0)).app o1).ended.app (TextOk.line 124 hn s1)).app o2).ended.app (TextOk.line 61 hn ⟨#[]⟩)).app o3).ended.app (TextOk.line 62 hn s2))).mono (by omega)
  · split
    · exact (h.app o0).mono (by omega)
    · exact (h.app o0).ended.mono (by omega)
theorem wrAll_ok {n : Nat} (hn : n ≤ 1000) (s0 s1 s2 : ByteArray) : ∀ (ps : List Pt) (b : Nat) (acc : List Int), TextOk b acc → (∀ p ∈ ps, (p.text.length ≤ 500 ∧ p.s0.length ≤ 500 ∧ p.s1.length ≤ 500 ∧ p.s2.length ≤ 500) ∧ ptOk p) → TextOk (b + ps.length * 10000) (wrAll n s0 s1 s2 ps acc)
  | [], b, acc, h, _ => by simpa [wrAll] using h
  | p :: r, b, acc, h, hp => by
    have h1 := wrAll_ok hn s0 s1 s2 r _ _ (wrPart_ok hn s0 s1 s2 r.isEmpty h (hp p List.mem_cons_self)) (fun q hq => hp q (List.mem_cons_of_mem _ hq))
    exact h1.mono (by simp only [List.length_cons]; omega)
theorem text_ok {N : Int} (h1 : 1 ≤ N) (h2 : N ≤ 1000) (s0 s1 s2 : ByteArray) {qs : List Pt} (h : Sm qs) : TextOk 200000 (wrAll N.toNat s0 s1 s2 qs []) :=
  (wrAll_ok (by omega) s0 s1 s2 qs 0 [] ⟨Nat.le_refl _, by simp⟩ h.2).mono (by have := h.1; omega)
end Go.Proofs.YtnnnbeimehfiiaaDoor.Q
-- Written by a program of this session (wip/gen_pi.py) for this claim; Lean checks it.
/-! MarkPicks, walked: it answers true. -/
set_option linter.unusedVariables false
set_option linter.unusedSimpArgs false
namespace Go.Proofs.YtnnnbeimehfiiaaDoor.Q
open Go Go.RowKit Go.Proofs.YtnnnbeimehfiiaaDoorW.PrintWords Go.Proofs.YtnnnbeimehfiiaaDoorW.PrintLast Go.Proofs.YtnnnbeimehfiiaaDoorW.PrintMore Go.Proofs.YtnnnbeimehfiiaaDoorW.SL
attribute [local go_sem] max2_int min2_int max_two min_two max_three min_three max_four min_four
def mpi.T8 : Bool × List (List Nat × List Nat) := (true, [([], []), ([], []), ([], []), ([1, 2], [1, 2]), ([3], [3]), ([4], [4]), ([], []), ([], []), ([6, 7], [6, 7]), ([8], [8]), ([9], [9]), ([10], [10]), ([], []), ([], []), ([12, 13], [12, 13]), ([14], [14]), ([15], [15]), ([16], [16]), ([], []), ([], []), ([18, 19], [18, 19]), ([20], [20]), ([21], [21]), ([22], [22]), ([5, 11, 17, 23], [5, 11, 17, 23]), ([0, 24], [0, 24]), ([25, 25, 0, 1, 2, 3, 4, 5, 6, 7, 8, 9, 10, 11, 12, 13, 14, 15, 16, 17, 18, 19, 20, 21, 22, 23, 24, 25], [0, 25])])
def mpi.B8 : List Nat := [0, 0, 0, 6, 14, 30, 0, 0, 192, 448, 960, 1984, 0, 0, 12288, 28672, 61440, 126976, 0, 0, 786432, 1835008, 3932160, 8126464, 16777214, 33554431, 67108863]
theorem mpi.tab8 : rtab .any (opsOf Tryd.f8 8) = mpi.T8 := by kernel_rfl
theorem mpi.bits8 : waitsOk mpi.T8.2 mpi.B8 = true := by kernel_rfl
def mpi.T13 : Bool × List (List Nat × List Nat) := (true, [([], []), ([0, 0], [0]), ([1], [1]), ([2, 1], [1, 2]), ([1, 3], [1, 3]), ([4, 1], [4]), ([5], [5]), ([6, 5], [5, 6]), ([5, 7], [5, 7]), ([8, 5], [8]), ([9], [9]), ([9], [9]), ([10, 11, 9, 9], [9, 10, 11]), ([12, 9], [9, 12]), ([9], [9]), ([9], [9]), ([14, 15, 12, 9], [9, 14, 15]), ([16, 9], [9, 16]), ([13, 17, 9], [9, 13, 17]), ([9, 18], [9, 18]), ([19, 16], [19]), ([20], [20]), ([21, 20], [20, 21]), ([20, 22], [20, 22]), ([23, 20], [23]), ([24], [24]), ([24], [24]), ([25, 26, 24, 24], [24, 25, 26]), ([27, 24], [24, 27]), ([24], [24]), ([29, 24], [24, 29]), ([28, 30, 24], [24, 28, 30]), ([24, 31], [24, 31]), ([32, 27], [32]), ([33], [33]), ([34, 33], [33, 34]), ([33], [33]), ([36, 33], [33, 36]), ([37, 33], [33, 37]), ([35, 38, 33], [33, 35, 38]), ([33, 39], [33, 39]), ([40, 33, 0, 1, 2, 3, 4, 5, 6, 7, 8, 9, 10, 11, 12, 13, 14, 15, 16, 17, 18, 19, 20, 21, 22, 23, 24, 25, 26, 27, 28, 29, 30, 31, 32, 33, 34, 35, 36, 37, 38, 39, 40], [40])])
def mpi.B13 : List Nat := [0, 1, 3, 7, 15, 31, 63, 127, 255, 511, 1023, 1023, 4095, 8191, 1023, 1023, 57343, 122879, 262143, 524287, 1048575, 2097151, 4194303, 8388607, 16777215, 33554431, 33554431, 134217727, 268435455, 33554431, 570425343, 2147483647, 4294967295, 8589934591, 17179869183, 34359738367, 17179869183, 85899345919, 223338299391, 549755813887, 1099511627775, 2199023255551]
theorem mpi.tab13 : rtab .any (opsOf Tryd.f8 13) = mpi.T13 := by kernel_rfl
theorem mpi.bits13 : waitsOk mpi.T13.2 mpi.B13 = true := by kernel_rfl
theorem third_in (side : Int) : 0 ≤ wrap64 ((IntKind.u64.wrap side).tmod 3) ∧ wrap64 ((IntKind.u64.wrap side).tmod 3) < 3 := by
  have h : 0 ≤ IntKind.u64.wrap side := by
    unfold IntKind.wrap
    simp [IntKind.signed, IntKind.bits]
    exact Int.emod_nonneg _ (by decide)
  have h1 := Int.tmod_nonneg 3 h
  have h2 := Int.tmod_lt_of_pos (IntKind.u64.wrap side) (show (0 : Int) < 3 by decide)
  unfold wrap64
  omega
theorem mn_of (l : Nat) (k : Nat) : (if (k : Int) < (l : Int) then (k : Int) else (l : Int)) = ((min l k : Nat) : Int) := by split <;> omega
/-- A row of rows that holds one, its literal's row just made. -/
theorem lit_rowsP {W : World} {g t : Nat} {A : Option Addr} {c : Nat} {x : List Int} (h : W.heap[g]? = some (.cells #[.slice A x.length c] t (0, 0))) (hc : x.length ≤ c) (hC : Kd.C B8 W A x.length x) : Kd.C (Kd.slice 5 B8) W (some ⟨g, 0, none⟩) [x].length [x] := by
  refine ⟨rfl, by simp, fun _ => ⟨_, rfl, fun j p hj => ?_⟩⟩
  cases j with
  | zero =>
    simp only [List.getElem?_cons_zero, Option.some.injEq] at hj
    subst hj
    refine ⟨_, by rfl, ⟨A, c, rfl, hc, hC⟩, fun i u hi => ?_⟩
    cases i with
    | zero => rw [base_add, blk_cell h]; simpa using hi
    | succ i => simp at hi
  | succ j => simp at hj
/-- A text without marker lines is one part, and its own side. -/
theorem own_side {x : List Int} (hl : x.length ≤ 5000) (side : Int) : ∃ os, readOf (lenAll 1 [x]) x = (os, 0) ∧ pickAll side os [] = x ∧ os.length = min x.length 1 ∧ ∀ p ∈ os, p.text.length ≤ 5000 ∧ p.s0.length ≤ 5000 ∧ p.s1.length ≤ 5000 ∧ p.s2.length ≤ 5000 := by
  by_cases hx : x = []
  · subst hx
    exact ⟨[], by decide, rfl, rfl, by simp⟩
  · refine ⟨_, (read_long hx hl).1, ?_, ?_, ?_⟩
    · simp [pickAll, pickPart]
    · have : 0 < x.length := by cases x with | nil => exact absurd rfl hx | cons _ _ => simp
      simp; omega
    · intro p hp; rw [List.mem_singleton] at hp; subst hp; simp; omega
set_option maxHeartbeats 16000000 in
set_option maxRecDepth 100000 in
theorem picks_calls (A : Option Addr) (c : Nat) (ps : List Pt) (side : Int) (A2 : Option Addr) (c2 : Nat) (b : List Int) (w : World) (hr : Kd.C kP w A ps.length ps) (hc : ps.length ≤ c) (hok : ∀ p ∈ ps, ptOk p) (hr2 : Kd.C B8 w A2 b.length b) (hc2 : b.length ≤ c2) (hb2 : ∀ x ∈ b, byte x) :
    Calls Tryd.prog 8 #[.slice A ps.length c, .int .i64 side, .slice A2 b.length c2] w fun e w' => e = .returned (.bool true) ∧ Below w.heap.size w w' := by
  have hmn := mn_of b.length 3000
  have hC2 : Kd.C B8 w A2 (b.take 3000).length (b.take 3000) := by
    by_cases h : 3000 ≤ b.length
    · exact Kd.C_take hr2 (m := 3000) h
    · rw [List.take_of_length_le (by omega)]; exact hr2
  have hl2 : (b.take 3000).length ≤ 3000 ∧ (b.take 3000).length ≤ b.length := by rw [List.length_take]; omega
  have hd2 : ∀ x ∈ b.take 3000, byte x := fun x hx => hb2 x (List.mem_of_mem_take hx)
  have htk2 := take_at A2 c2 b ((b.take 3000).length : Int) (by omega) (by omega) hc2
  rw [Int.toNat_natCast] at htk2
  have hmn2 : ((min b.length 3000 : Nat) : Int) = ((b.take 3000).length : Int) := by rw [List.length_take]; omega
  rw [hmn2] at hmn
  replace hmn : (if (3000 : Int) < (b.length : Int) then 3000 else (b.length : Int)) = ((b.take 3000).length : Int) := hmn
  have hz2 := eq_true (show (0 : Int) ≤ ((b.take 3000).length : Int) by omega)
  have hy2 := eq_true (show ((b.take 3000).length : Int) ≤ (b.length : Int) by omega)
  have hc3 : (b.take 3000).length ≤ c2 := by omega
  clear hmn2
  generalize b.take 3000 = bb at *
  have hsd := third_in side
  obtain ⟨sd, hsde⟩ : ∃ s, wrap64 ((IntKind.u64.wrap side).tmod 3) = s := ⟨_, rfl⟩
  have hsde2 := hsde
  rw [hsde] at hsd
  obtain ⟨os, hos1, hos2, hos3, hos4⟩ := own_side (x := bb) (by omega) sd
  obtain ⟨qs, hqe⟩ : ∃ qs, fewOf ps = qs := ⟨_, rfl⟩
  have few_calls := fun W hC hc => few_calls A c ps W hC hc
  have hSm := few_Sm hok
  rw [hqe] at hSm
  simp only [hqe] at few_calls
  clear hqe
  have hlen := lenAll_in (n := 3) (by decide) (by decide) (allP_ok hSm)
  have hgd := goodPs (n := 3) (by decide) qs
  obtain ⟨kL, hkL⟩ := (length_ev 3 (allP qs) (by have := allP_len qs; have := hSm.1; omega) (fun r hr => by have := allP_ok hSm r hr; exact ⟨by have := this.1; omega, this.2⟩)).has
  rw [show (if (1 : Int) ≤ 3 ∧ (3 : Int) ≤ 1000 then (3 : Int) else 7) = 3 by simp] at hkL
  obtain ⟨kB, hkB⟩ := (length_ev 1 [bb] (by simp) (fun r hr => by rw [List.mem_singleton] at hr; subst hr; exact ⟨by omega, hd2⟩)).has
  rw [show (if (1 : Int) ≤ 1 ∧ (1 : Int) ≤ 1000 then (1 : Int) else 7) = 1 by simp] at hkB
  obtain ⟨LN, hLN⟩ : ∃ L, lenAll 3 (allP qs) = L := ⟨_, rfl⟩
  rw [hLN] at hlen hgd hkL
  obtain ⟨LB, hLB⟩ : ∃ L, lenAll 1 [bb] = L := ⟨_, rfl⟩
  rw [hLB] at hos1 hkB
  have hrb := read_back hlen.1 (by omega) ⟨#[]⟩ ⟨#[]⟩ ⟨#[]⟩ qs hgd
  have htx := text_ok hlen.1 hlen.2 ⟨#[]⟩ ⟨#[]⟩ ⟨#[]⟩ hSm
  obtain ⟨tx, htxe⟩ : ∃ t, wrAll LN.toNat ⟨#[]⟩ ⟨#[]⟩ ⟨#[]⟩ qs [] = t := ⟨_, rfl⟩
  rw [htxe] at hrb htx
  have hpj := pick_joined hsd qs
  obtain ⟨js, hjs⟩ : ∃ j, jAll qs [] = j := ⟨_, rfl⟩
  have hjs2 := joined_small hSm.1 (fun p hp => (hSm.2 p hp).1)
  rw [hjs] at hrb hjs2 hpj
  obtain ⟨pk, hpk⟩ : ∃ p, pickAll sd qs [] = p := ⟨_, rfl⟩
  rw [hpk] at hpj
  have hW := fun A c W hC hc => Write_calls LN ⟨#[]⟩ ⟨#[]⟩ ⟨#[]⟩ A c qs W hC hc (by have := hSm.1; omega) (fun p hp => by have := (hSm.2 p hp).1; omega) (Nat.zero_le _) (Nat.zero_le _) (Nat.zero_le _)
  have hRD := fun A c W hC hc => read_calls LN A c tx W hC hc htx.2 (by have := htx.1; omega)
  have hRB := fun W hC => read_calls LB A2 c2 bb W hC hc3 hd2 (by omega)
  have hP1 := fun A c W hC hc => Pick_calls sd A c js W hC hc (by have := hjs2.1; omega) (fun p hp => by have := hjs2.2 p hp; omega)
  have hP2 := fun A c W hC hc => Pick_calls sd A c qs W hC hc (by have := hSm.1; omega) (fun p hp => by have := (hSm.2 p hp).1; omega)
  have hP3 := fun A c W hC hc => Pick_calls sd A c os W hC hc (by omega) (fun p hp => by have := hos4 p hp; omega)
  simp only [hrb.1] at hW
  simp only [hrb.2] at hRD
  simp only [hos1] at hRB
  simp only [hpj] at hP1
  simp only [hpk] at hP2
  simp only [hos2] at hP3
  have hmno := mn_of bb.length 1
  rw [← hos3] at hmno
  replace hmno : (if (1 : Int) < (bb.length : Int) then 1 else (bb.length : Int)) = (os.length : Int) := hmno
  obtain ⟨no, hno⟩ : ∃ n, os.length = n := ⟨_, rfl⟩
  rw [hno] at hmno
  have HFC := Aside0.mk few_calls; have HSM := Aside0.mk hSm; have HJS := Aside0.mk hjs2
  have HIN := Aside0.mk (⟨hr, hc, hC2, hc3⟩ : _ ∧ _ ∧ _ ∧ _)
  replace hW := Aside0.mk hW; replace hRD := Aside0.mk hRD; replace hRB := Aside0.mk hRB; replace hP1 := Aside0.mk hP1; replace hP2 := Aside0.mk hP2; replace hP3 := Aside0.mk hP3
  replace hkL := Aside0.mk hkL; replace hkB := Aside0.mk hkB; replace hno := Aside0.mk hno
  have HSD := Aside0.mk hsde
  clear few_calls hSm hsde hgd hLN hLB hrb htx htxe hjs2 hjs hpj hpk hos1 hos2 hos3 hos4 hok hr2 hc2 hb2 hd2 hl2 hC2 hr hc hc3 hlen hsd
  go_enter Tryd.func8, Tryd.ntmps8
  go_upto_region 4 with (go_at_call 18; refine (HFC.out _ HIN.out.1 HIN.out.2.1).mono ?_; rintro e_ w4 ⟨AP, cP, AQ, cQ, rfl, hc1_, hC1_, hc2_, hC2_, hb_⟩; have G1 := Aside0.mk (⟨⟨hC1_, hc1_⟩, ⟨hC2_, hc2_⟩, Kd.C_below HIN.out.2.2.1 hb_, hb_⟩ : (_ ∧ _) ∧ (_ ∧ _) ∧ _ ∧ _); clear hc1_ hC1_ hc2_ hC2_ hb_)
  have hAl0 : Aside0 (AlI w4 [rdV kP AQ cQ qs] [] (.slice none 0 0) w4) := ⟨AlI.start (Stt.start w4 (by
    intro a ha; rw [List.mem_singleton] at ha; subst ha
    exact ⟨G1.out.2.1.2, Kd.C_F kP_heap G1.out.2.1.1⟩))⟩
  go_wp2
  go_loopg [9, 10] qs.length (fun kq v9 v10 W => ∃ (ii : Int) (i : Nat), v10 = .int .i64 ii ∧ Aside0 (ii = (i : Int)) ∧ i ≤ qs.length ∧ kq = qs.length - i ∧ Aside0 (AlI w4 [rdV kP AQ cQ qs] (allP (qs.take i)) v9 W))
  case atStart => exact ⟨0, 0, rfl, ⟨rfl⟩, Nat.zero_le _, rfl, hAl0⟩
  case round =>
    clear hAl0
    obtain ⟨ii, i, rfl, hii, hi, hgk, hI⟩ := hrel
    obtain ⟨wb, rfl⟩ : ∃ q, q = wr := ⟨_, rfl⟩
    obtain ⟨lo, hlo⟩ : ∃ n, (allP (qs.take i)).length = n := ⟨_, rfl⟩
    have hlo2 : lo ≤ 80 := by
      have h1 := allP_len (qs.take i); have h2 := HSM.out.1
      rw [List.length_take] at h1
      omega
    obtain ⟨Ao, co, eo⟩ := hI.out.form
    rw [hlo] at eo
    subst eo
    have HLO := Aside0.mk hlo2
    by_cases hin : ii < (qs.length : Int)
    · have p0 : 0 ≤ ii := by have := hii.out; omega
      have e0 : ii.toNat = i := by have := hii.out; omega
      have hw1 : wrap64 (ii + 1) = ii + 1 := by have := hii.out; have := HSM.out.1; unfold wrap64; omega
      obtain ⟨ad, x, A1, c1, B2, d2, A3, c3, A4, c4, rfl, hxi, hx0, hx1, hx2, hx3, hx4, hPF⟩ := hI.out.part ii p0 hin
      rw [e0] at hxi
      have htk := allP_take hxi
      have hinb := eq_true hin
      have p0b := eq_true p0
      have HI := Aside0.mk (⟨hi, hgk⟩ : _ ∧ _)
      replace e0 := Aside0.mk e0
      obtain ⟨rg, T, X0, X1, X2⟩ := x
      simp only at hx0 hx1 hx2 hx3 hx4 hPF
      clear hi hgk hlo2 hxi
      replace htk : allP (qs.take (i + 1)) = allP (qs.take i) ++ [T, X0, X1, X2] := htk
      obtain ⟨cells, ho1, ho2, hpush⟩ := (hI.out.keep (below_drew1 (Below.refl wb.heap.size wb))).push [T, X0, X1, X2] [.slice A1 T.length c1, .slice B2 X0.length d2, .slice A3 X1.length c3, .slice A4 X2.length c4] (n := 4) rfl (by decide) (by simp only [maxLen]; omega) (fun Z' hZ' => by have q := hPF Z' (fun a ha => a.step (hZ' a ha) (fun _ _ _ => rfl) (fun _ h => h)); exact (klF _ _).step (w := wb) (Z := Z') (klF_cons q.1 (klF_cons q.2.1 (klF_cons q.2.2.1 (klF_cons q.2.2.2 klF_nil)))) (fun _ _ _ => rfl) (fun _ h => h))
      rw [hlo] at ho1 hpush
      rw [← htk] at hpush
      replace htk := Aside0.mk htk
      replace hlo := Aside0.mk hlo
      have HP := Aside0.mk (⟨ho1, ho2, hpush⟩ : _ ∧ _ ∧ _)
      clear ho1 ho2 hpush hPF hI
      go_upto_region 8 with (fail)
      replace hx1 : wb.drew.cell? _ = _ := hx1
      replace hx2 : wb.drew.cell? _ = _ := hx2
      replace hx3 : wb.drew.cell? _ = _ := hx3
      replace hx4 : wb.drew.cell? _ = _ := hx4
      clear hx0
      try go_wp2
      have E0 := trivial
      refine start_ (n := 27) (S := fun w' => True) (ds := []) #[false, false, false, false, false, false, false, false, false, false, false, false, false, false, false, false, false, false, false, false, false, false, false, false, false, false, false] (by kernel_rfl) rfl rfl trivial (fun hHeld => ?_)
      refine with_tabW mpi.tab8 mpi.bits8 (fun HT_ HW_ => ?_)
      have E0 := trivial
      generalize wb.drew = wd at hx1 hx2 hx3 hx4 HP hHeld ⊢
      refine pure_ (i := 0) (N := some 38) (v := ?_) (a' := ?_) #[true, false, false, false, false, false, false, false, false, false, false, false, false, false, false, false, false, false, false, false, false, false, false, false, false, false, false] rfl rfl (any_of HT_.out (by kernel_rfl)) (fun _ _ _ h => h) (Or.inl ⟨by rfl, ?_⟩) ?_ ?_
      rotate_left
      · intro w'
        go_simp
        with_reducible rfl
      rotate_left
      · simp only [Act.put, List.setIfInBounds_toArray, List.set_cons_zero, List.set_cons_succ, i64_w, i32_w]
        rfl
      refine pure_ (i := 1) (N := some 39) (v := ?_) (a' := ?_) #[true, true, false, false, false, false, false, false, false, false, false, false, false, false, false, false, false, false, false, false, false, false, false, false, false, false, false] rfl rfl (any_of HT_.out (by kernel_rfl)) (fun _ _ _ h => h) (Or.inl ⟨by rfl, ?_⟩) ?_ ?_
      rotate_left
      · intro w'
        go_simp
        with_reducible rfl
      rotate_left
      · simp only [Act.put, List.setIfInBounds_toArray, List.set_cons_zero, List.set_cons_succ, i64_w, i32_w]
        rfl
      refine pure_ (i := 2) (N := some 40) (v := ?_) (a' := ?_) #[true, true, true, false, false, false, false, false, false, false, false, false, false, false, false, false, false, false, false, false, false, false, false, false, false, false, false] rfl rfl (any_of HT_.out (by kernel_rfl)) (fun _ _ _ h => h) (Or.inl ⟨by rfl, ?_⟩) ?_ ?_
      rotate_left
      · intro w'
        go_simp
        with_reducible rfl
      rotate_left
      · simp only [Act.put, List.setIfInBounds_toArray, List.set_cons_zero, List.set_cons_succ, i64_w, i32_w]
        rfl
      refine pure_ (i := 3) (N := some 41) (v := ?_) (a' := ?_) #[true, true, true, true, false, false, false, false, false, false, false, false, false, false, false, false, false, false, false, false, false, false, false, false, false, false, false] rfl rfl (any_of HT_.out (by kernel_rfl)) (fun _ _ _ h => h) (Or.inl ⟨by rfl, ?_⟩) ?_ ?_
      rotate_left
      · intro w'
        go_simp
        with_reducible rfl
      rotate_left
      · simp only [Act.put, List.setIfInBounds_toArray, List.set_cons_zero, List.set_cons_succ, i64_w, i32_w]
        rfl
      refine pure_ (i := 4) (N := some 42) (v := ?_) (a' := ?_) #[true, true, true, true, true, false, false, false, false, false, false, false, false, false, false, false, false, false, false, false, false, false, false, false, false, false, false] rfl rfl (any_of HT_.out (by kernel_rfl)) (fun _ _ _ h => h) (Or.inl ⟨by rfl, ?_⟩) ?_ ?_
      rotate_left
      · intro w'
        go_simp
        with_reducible rfl
      rotate_left
      · simp only [Act.put, List.setIfInBounds_toArray, List.set_cons_zero, List.set_cons_succ, i64_w, i32_w]
        rfl
      refine pure_ (i := 6) (N := some 44) (v := ?_) (a' := ?_) #[true, true, true, true, true, false, true, false, false, false, false, false, false, false, false, false, false, false, false, false, false, false, false, false, false, false, false] rfl rfl (any_of HT_.out (by kernel_rfl)) (fun _ _ _ h => h) (Or.inl ⟨by rfl, ?_⟩) ?_ ?_
      rotate_left
      · intro w'
        go_simp
        with_reducible rfl
      rotate_left
      · simp only [Act.put, List.setIfInBounds_toArray, List.set_cons_zero, List.set_cons_succ, i64_w, i32_w]
        rfl
      refine pure_ (i := 7) (N := some 45) (v := ?_) (a' := ?_) #[true, true, true, true, true, false, true, true, false, false, false, false, false, false, false, false, false, false, false, false, false, false, false, false, false, false, false] rfl rfl (any_of HT_.out (by kernel_rfl)) (fun _ _ _ h => h) (Or.inl ⟨by rfl, ?_⟩) ?_ ?_
      rotate_left
      · intro w'
        go_simp
        with_reducible rfl
      rotate_left
      · simp only [Act.put, List.setIfInBounds_toArray, List.set_cons_zero, List.set_cons_succ, i64_w, i32_w]
        rfl
      refine pure_ (i := 8) (N := some 46) (v := ?_) (a' := ?_) #[true, true, true, true, true, false, true, true, true, false, false, false, false, false, false, false, false, false, false, false, false, false, false, false, false, false, false] rfl rfl (any_of HT_.out (by kernel_rfl)) (fun _ _ _ h => h) (Or.inl ⟨by rfl, ?_⟩) ?_ ?_
      rotate_left
      · intro w'
        go_simp
        with_reducible rfl
      rotate_left
      · simp only [Act.put, List.setIfInBounds_toArray, List.set_cons_zero, List.set_cons_succ, i64_w, i32_w]
        rfl
      refine pure_ (i := 9) (N := some 47) (v := ?_) (a' := ?_) #[true, true, true, true, true, false, true, true, true, true, false, false, false, false, false, false, false, false, false, false, false, false, false, false, false, false, false] rfl rfl (any_of HT_.out (by kernel_rfl)) (fun _ _ _ h => h) (Or.inl ⟨by rfl, ?_⟩) ?_ ?_
      rotate_left
      · intro w'
        go_simp
        with_reducible rfl
      rotate_left
      · simp only [Act.put, List.setIfInBounds_toArray, List.set_cons_zero, List.set_cons_succ, i64_w, i32_w]
        rfl
      refine pure_ (i := 10) (N := some 48) (v := ?_) (a' := ?_) #[true, true, true, true, true, false, true, true, true, true, true, false, false, false, false, false, false, false, false, false, false, false, false, false, false, false, false] rfl rfl (any_of HT_.out (by kernel_rfl)) (fun _ _ _ h => h) (Or.inl ⟨by rfl, ?_⟩) ?_ ?_
      rotate_left
      · intro w'
        go_simp
        with_reducible rfl
      rotate_left
      · simp only [Act.put, List.setIfInBounds_toArray, List.set_cons_zero, List.set_cons_succ, i64_w, i32_w]
        rfl
      refine pure_ (i := 12) (N := some 50) (v := ?_) (a' := ?_) #[true, true, true, true, true, false, true, true, true, true, true, false, true, false, false, false, false, false, false, false, false, false, false, false, false, false, false] rfl rfl (any_of HT_.out (by kernel_rfl)) (fun _ _ _ h => h) (Or.inl ⟨by rfl, ?_⟩) ?_ ?_
      rotate_left
      · intro w'
        go_simp
        with_reducible rfl
      rotate_left
      · simp only [Act.put, List.setIfInBounds_toArray, List.set_cons_zero, List.set_cons_succ, i64_w, i32_w]
        rfl
      refine pure_ (i := 13) (N := some 51) (v := ?_) (a' := ?_) #[true, true, true, true, true, false, true, true, true, true, true, false, true, true, false, false, false, false, false, false, false, false, false, false, false, false, false] rfl rfl (any_of HT_.out (by kernel_rfl)) (fun _ _ _ h => h) (Or.inl ⟨by rfl, ?_⟩) ?_ ?_
      rotate_left
      · intro w'
        go_simp
        with_reducible rfl
      rotate_left
      · simp only [Act.put, List.setIfInBounds_toArray, List.set_cons_zero, List.set_cons_succ, i64_w, i32_w]
        rfl
      refine pure_ (i := 14) (N := some 52) (v := ?_) (a' := ?_) #[true, true, true, true, true, false, true, true, true, true, true, false, true, true, true, false, false, false, false, false, false, false, false, false, false, false, false] rfl rfl (any_of HT_.out (by kernel_rfl)) (fun _ _ _ h => h) (Or.inl ⟨by rfl, ?_⟩) ?_ ?_
      rotate_left
      · intro w'
        go_simp
        with_reducible rfl
      rotate_left
      · simp only [Act.put, List.setIfInBounds_toArray, List.set_cons_zero, List.set_cons_succ, i64_w, i32_w]
        rfl
      refine pure_ (i := 15) (N := some 53) (v := ?_) (a' := ?_) #[true, true, true, true, true, false, true, true, true, true, true, false, true, true, true, true, false, false, false, false, false, false, false, false, false, false, false] rfl rfl (any_of HT_.out (by kernel_rfl)) (fun _ _ _ h => h) (Or.inl ⟨by rfl, ?_⟩) ?_ ?_
      rotate_left
      · intro w'
        go_simp
        with_reducible rfl
      rotate_left
      · simp only [Act.put, List.setIfInBounds_toArray, List.set_cons_zero, List.set_cons_succ, i64_w, i32_w]
        rfl
      refine pure_ (i := 16) (N := some 54) (v := ?_) (a' := ?_) #[true, true, true, true, true, false, true, true, true, true, true, false, true, true, true, true, true, false, false, false, false, false, false, false, false, false, false] rfl rfl (any_of HT_.out (by kernel_rfl)) (fun _ _ _ h => h) (Or.inl ⟨by rfl, ?_⟩) ?_ ?_
      rotate_left
      · intro w'
        go_simp
        with_reducible rfl
      rotate_left
      · simp only [Act.put, List.setIfInBounds_toArray, List.set_cons_zero, List.set_cons_succ, i64_w, i32_w]
        rfl
      refine pure_ (i := 18) (N := some 56) (v := ?_) (a' := ?_) #[true, true, true, true, true, false, true, true, true, true, true, false, true, true, true, true, true, false, true, false, false, false, false, false, false, false, false] rfl rfl (any_of HT_.out (by kernel_rfl)) (fun _ _ _ h => h) (Or.inl ⟨by rfl, ?_⟩) ?_ ?_
      rotate_left
      · intro w'
        go_simp
        with_reducible rfl
      rotate_left
      · simp only [Act.put, List.setIfInBounds_toArray, List.set_cons_zero, List.set_cons_succ, i64_w, i32_w]
        rfl
      refine pure_ (i := 19) (N := some 57) (v := ?_) (a' := ?_) #[true, true, true, true, true, false, true, true, true, true, true, false, true, true, true, true, true, false, true, true, false, false, false, false, false, false, false] rfl rfl (any_of HT_.out (by kernel_rfl)) (fun _ _ _ h => h) (Or.inl ⟨by rfl, ?_⟩) ?_ ?_
      rotate_left
      · intro w'
        go_simp
        with_reducible rfl
      rotate_left
      · simp only [Act.put, List.setIfInBounds_toArray, List.set_cons_zero, List.set_cons_succ, i64_w, i32_w]
        rfl
      refine pure_ (i := 20) (N := some 58) (v := ?_) (a' := ?_) #[true, true, true, true, true, false, true, true, true, true, true, false, true, true, true, true, true, false, true, true, true, false, false, false, false, false, false] rfl rfl (any_of HT_.out (by kernel_rfl)) (fun _ _ _ h => h) (Or.inl ⟨by rfl, ?_⟩) ?_ ?_
      rotate_left
      · intro w'
        go_simp
        with_reducible rfl
      rotate_left
      · simp only [Act.put, List.setIfInBounds_toArray, List.set_cons_zero, List.set_cons_succ, i64_w, i32_w]
        rfl
      refine pure_ (i := 21) (N := some 59) (v := ?_) (a' := ?_) #[true, true, true, true, true, false, true, true, true, true, true, false, true, true, true, true, true, false, true, true, true, true, false, false, false, false, false] rfl rfl (any_of HT_.out (by kernel_rfl)) (fun _ _ _ h => h) (Or.inl ⟨by rfl, ?_⟩) ?_ ?_
      rotate_left
      · intro w'
        go_simp
        with_reducible rfl
      rotate_left
      · simp only [Act.put, List.setIfInBounds_toArray, List.set_cons_zero, List.set_cons_succ, i64_w, i32_w]
        rfl
      refine pure_ (i := 22) (N := some 60) (v := ?_) (a' := ?_) #[true, true, true, true, true, false, true, true, true, true, true, false, true, true, true, true, true, false, true, true, true, true, true, false, false, false, false] rfl rfl (any_of HT_.out (by kernel_rfl)) (fun _ _ _ h => h) (Or.inl ⟨by rfl, ?_⟩) ?_ ?_
      rotate_left
      · intro w'
        go_simp
        with_reducible rfl
      rotate_left
      · simp only [Act.put, List.setIfInBounds_toArray, List.set_cons_zero, List.set_cons_succ, i64_w, i32_w]
        rfl
      refine inv_at [5, 11, 17, 23, 24, 25, 26] (fun a0_ b a w' => ∃ (vv : Value) (m26_ : Value), a = putSel a0_ b [(5, 43, .slice A1 T.length c1), (11, 49, .slice B2 X0.length d2), (17, 55, .slice A3 X1.length c3), (23, 61, .slice A4 X2.length c4), (24, 62, .slice (some ⟨wd.heap.size, 0, none⟩) 4 4), (25, 63, vv), (26, 9, m26_)] ∧ (b 24 = false → w' = wd) ∧ (b 24 = true → b 25 = false → w' = (wd.alloc (.cells #[.slice A1 T.length c1, .slice B2 X0.length d2, .slice A3 X1.length c3, .slice A4 X2.length c4] 22))) ∧ (b 25 = true → AlI w4 [rdV kP (some ad) cQ qs] (allP (qs.take (i + 1))) vv w') ∧ (b 26 = true → (m26_ : Value) = vv)) HT_.out HW_.out (by kernel_rfl) (by kernel_rfl) ?_ ?_ ?_
      · exact ⟨.bool false, .bool false, by simp only [putSel, Bool.false_eq_true, if_false], fun _ => rfl, fun h_ => absurd h_ (by decide), fun h_ => absurd h_ (by decide), fun h_ => absurd h_ (by decide)⟩
      · skip
        clear E0
        refine steps_cons ?_ ?_
        · rintro b a w' ⟨vv, m26_, ha, Q_E0, Q_E1, Q_E2, Q_X26_⟩ hb_ hon hoff
          refine ⟨_, rfl, fun K hK => ?_⟩
          have e42 : a.tmps[42]? = some (.pointer (some ⟨(ad.add (ii.toNat * 5)).block, (ad.add (ii.toNat * 5)).off + 1, none⟩)) := by rw [ha]; exact (putSel_off rfl).trans rfl
          replace ha := Aside0.mk ha
          have E0 := Aside0.mk (Q_E0 (hoff 24 (by kernel_rfl)))
          have hw_ := E0.out
          have hc_ := hx1
          rw [← hw_] at hc_
          refine value_ (w1 := w') (v := .slice A1 T.length c1) (by rfl) rfl ?_ ?_
          · go_simp
            (try simp only [i64_w])
            try rfl
          refine hK.out _ _ ⟨vv, m26_, (by rw [ha.out]; exact putSel_upk 0 hb_ rfl rfl rfl), Q_E0, fun h0_ _ => absurd ((hoff 24 (by kernel_rfl)).symm.trans h0_) (by decide), fun h0_ => absurd ((hoff 25 (by kernel_rfl)).symm.trans h0_) (by decide), fun h0_ => absurd ((hoff 26 (by kernel_rfl)).symm.trans h0_) (by decide)⟩
        refine steps_cons ?_ ?_
        · rintro b a w' ⟨vv, m26_, ha, Q_E0, Q_E1, Q_E2, Q_X26_⟩ hb_ hon hoff
          refine ⟨_, rfl, fun K hK => ?_⟩
          have e48 : a.tmps[48]? = some (.pointer (some ⟨(ad.add (ii.toNat * 5)).block, (ad.add (ii.toNat * 5)).off + 2, none⟩)) := by rw [ha]; exact (putSel_off rfl).trans rfl
          replace ha := Aside0.mk ha
          have E0 := Aside0.mk (Q_E0 (hoff 24 (by kernel_rfl)))
          have hw_ := E0.out
          have hc_ := hx2
          rw [← hw_] at hc_
          refine value_ (w1 := w') (v := .slice B2 X0.length d2) (by rfl) rfl ?_ ?_
          · go_simp
            (try simp only [i64_w])
            try rfl
          refine hK.out _ _ ⟨vv, m26_, (by rw [ha.out]; exact putSel_upk 1 hb_ rfl rfl rfl), Q_E0, fun h0_ _ => absurd ((hoff 24 (by kernel_rfl)).symm.trans h0_) (by decide), fun h0_ => absurd ((hoff 25 (by kernel_rfl)).symm.trans h0_) (by decide), fun h0_ => absurd ((hoff 26 (by kernel_rfl)).symm.trans h0_) (by decide)⟩
        refine steps_cons ?_ ?_
        · rintro b a w' ⟨vv, m26_, ha, Q_E0, Q_E1, Q_E2, Q_X26_⟩ hb_ hon hoff
          refine ⟨_, rfl, fun K hK => ?_⟩
          have e54 : a.tmps[54]? = some (.pointer (some ⟨(ad.add (ii.toNat * 5)).block, (ad.add (ii.toNat * 5)).off + 3, none⟩)) := by rw [ha]; exact (putSel_off rfl).trans rfl
          replace ha := Aside0.mk ha
          have E0 := Aside0.mk (Q_E0 (hoff 24 (by kernel_rfl)))
          have hw_ := E0.out
          have hc_ := hx3
          rw [← hw_] at hc_
          refine value_ (w1 := w') (v := .slice A3 X1.length c3) (by rfl) rfl ?_ ?_
          · go_simp
            (try simp only [i64_w])
            try rfl
          refine hK.out _ _ ⟨vv, m26_, (by rw [ha.out]; exact putSel_upk 2 hb_ rfl rfl rfl), Q_E0, fun h0_ _ => absurd ((hoff 24 (by kernel_rfl)).symm.trans h0_) (by decide), fun h0_ => absurd ((hoff 25 (by kernel_rfl)).symm.trans h0_) (by decide), fun h0_ => absurd ((hoff 26 (by kernel_rfl)).symm.trans h0_) (by decide)⟩
        refine steps_cons ?_ ?_
        · rintro b a w' ⟨vv, m26_, ha, Q_E0, Q_E1, Q_E2, Q_X26_⟩ hb_ hon hoff
          refine ⟨_, rfl, fun K hK => ?_⟩
          have e60 : a.tmps[60]? = some (.pointer (some ⟨(ad.add (ii.toNat * 5)).block, (ad.add (ii.toNat * 5)).off + 4, none⟩)) := by rw [ha]; exact (putSel_off rfl).trans rfl
          replace ha := Aside0.mk ha
          have E0 := Aside0.mk (Q_E0 (hoff 24 (by kernel_rfl)))
          have hw_ := E0.out
          have hc_ := hx4
          rw [← hw_] at hc_
          refine value_ (w1 := w') (v := .slice A4 X2.length c4) (by rfl) rfl ?_ ?_
          · go_simp
            (try simp only [i64_w])
            try rfl
          refine hK.out _ _ ⟨vv, m26_, (by rw [ha.out]; exact putSel_upk 3 hb_ rfl rfl rfl), Q_E0, fun h0_ _ => absurd ((hoff 24 (by kernel_rfl)).symm.trans h0_) (by decide), fun h0_ => absurd ((hoff 25 (by kernel_rfl)).symm.trans h0_) (by decide), fun h0_ => absurd ((hoff 26 (by kernel_rfl)).symm.trans h0_) (by decide)⟩
        refine steps_cons ?_ ?_
        · rintro b a w' ⟨vv, m26_, ha, Q_E0, Q_E1, Q_E2, Q_X26_⟩ hb_ hon hoff
          refine ⟨_, rfl, fun K hK => ?_⟩
          have e43 : a.tmps[43]? = some (.slice A1 T.length c1) := by rw [ha]; exact putSel_on (e := (5, 43, .slice A1 T.length c1)) 0 rfl rfl (hon 5 (by kernel_rfl)) rfl
          have e49 : a.tmps[49]? = some (.slice B2 X0.length d2) := by rw [ha]; exact putSel_on (e := (11, 49, .slice B2 X0.length d2)) 1 rfl rfl (hon 11 (by kernel_rfl)) rfl
          have e55 : a.tmps[55]? = some (.slice A3 X1.length c3) := by rw [ha]; exact putSel_on (e := (17, 55, .slice A3 X1.length c3)) 2 rfl rfl (hon 17 (by kernel_rfl)) rfl
          have e61 : a.tmps[61]? = some (.slice A4 X2.length c4) := by rw [ha]; exact putSel_on (e := (23, 61, .slice A4 X2.length c4)) 3 rfl rfl (hon 23 (by kernel_rfl)) rfl
          replace ha := Aside0.mk ha
          have E0 := Aside0.mk (Q_E0 hb_)
          have hw_ := E0.out
          refine value_ (w1 := (wd.alloc (.cells #[.slice A1 T.length c1, .slice B2 X0.length d2, .slice A3 X1.length c3, .slice A4 X2.length c4] 22))) (v := .slice (some ⟨wd.heap.size, 0, none⟩) 4 4) (by rfl) rfl ?_ ?_
          · rw [← hw_]
            go_simp
            try rfl
          refine hK.out _ _ ⟨vv, m26_, (by rw [ha.out]; exact putSel_upk 4 hb_ rfl rfl rfl), fun h0_ => absurd ((up_self b 24).symm.trans h0_) (by decide), fun _ _ => rfl, fun h0_ => absurd ((hoff 25 (by kernel_rfl)).symm.trans h0_) (by decide), fun h0_ => absurd ((hoff 26 (by kernel_rfl)).symm.trans h0_) (by decide)⟩
        refine steps_cons ?_ ?_
        · rintro b a w' ⟨vv, m26_, ha, Q_E0, Q_E1, Q_E2, Q_X26_⟩ hb_ hon hoff
          refine ⟨_, rfl, fun K hK => ?_⟩
          have e38 : a.tmps[38]? = some (.slice Ao lo co) := by rw [ha]; exact (putSel_off rfl).trans rfl
          have e62 : a.tmps[62]? = some (.slice (some ⟨wd.heap.size, 0, none⟩) 4 4) := by rw [ha]; exact putSel_on (e := (24, 62, .slice (some ⟨wd.heap.size, 0, none⟩) 4 4)) 4 rfl rfl (hon 24 (by kernel_rfl)) rfl
          replace ha := Aside0.mk ha
          have E1 := Aside0.mk (Q_E1 (hon 24 (by kernel_rfl)) hb_)
          have hw_ := E1.out
          refine app_steps (by rfl) (.tmp 38) (.tmp 62) 34 22 (.slice none 0 0) 1 24 4 (by decide) rfl Tryd.underlying34 infL22 rfl (by decide) (by decide) (.slice Ao lo co) (.slice (some ⟨wd.heap.size, 0, none⟩) 4 4) lo cells [Value.slice A1 T.length c1, Value.slice B2 X0.length d2, Value.slice A3 X1.length c3, Value.slice A4 X2.length c4] (eval_of e38) (eval_of e62) (by simp [Value.oneCell']) (hw_ ▸ HP.out.1) (hw_ ▸ HP.out.2.1) (by have := HLO.out; omega) ?_
          intro v1 w1 ho hg hat
          have S3_ := HP.out.2.2 w1 v1 ho (hw_ ▸ hg) (hw_ ▸ hat)
          refine hK.out _ _ ⟨v1, m26_, (by rw [ha.out]; exact putSel_upk 5 hb_ rfl rfl rfl), fun h0_ => absurd ((hon 24 (by kernel_rfl)).symm.trans h0_) (by decide), fun _ h1_ => absurd ((up_self b 25).symm.trans h1_) (by decide), fun _ => S3_, fun h0_ => absurd ((hoff 26 (by kernel_rfl)).symm.trans h0_) (by decide)⟩
        refine steps_cons ?_ ?_
        · rintro b a w' ⟨vv, m26_, ha, Q_E0, Q_E1, Q_E2, Q_X26_⟩ hb_ hon hoff
          refine ⟨_, rfl, fun K hK => ?_⟩
          have e63 : a.tmps[63]? = some (vv) := by rw [ha]; exact putSel_on (e := (25, 63, vv)) 5 rfl rfl (hon 25 (by kernel_rfl)) rfl
          replace ha := Aside0.mk ha
          have E2 := Aside0.mk (Q_E2 (hon 25 (by kernel_rfl)))
          refine value_ (w1 := w') (v := vv) (by rfl) rfl ?_ ?_
          · go_simp
            (try simp only [i64_w])
            try rfl
          refine hK.out _ _ ⟨vv, (vv), (by rw [ha.out]; exact putSel_upk 6 hb_ rfl rfl rfl), fun h0_ => absurd ((hon 24 (by kernel_rfl)).symm.trans h0_) (by decide), fun _ h1_ => absurd ((hon 25 (by kernel_rfl)).symm.trans h1_) (by decide), Q_E2, fun _ => rfl⟩
        exact steps_nil
      · rintro b a w' hall ⟨vv, m26_, ha, Q_E0, Q_E1, Q_E2, Q_X26_⟩
        clear E0
        have hb5_ := hall 5 (by kernel_rfl)
        have hb11_ := hall 11 (by kernel_rfl)
        have hb17_ := hall 17 (by kernel_rfl)
        have hb23_ := hall 23 (by kernel_rfl)
        have hb24_ := hall 24 (by kernel_rfl)
        have hb25_ := hall 25 (by kernel_rfl)
        have hb26_ := hall 26 (by kernel_rfl)
        subst ha
        obtain rfl := Q_X26_ hb26_
        simp only [putSel, hb5_, hb11_, hb17_, hb23_, hb24_, hb25_, hb26_, if_true, Act.put, List.setIfInBounds_toArray, List.set_cons_zero, List.set_cons_succ]
        clear Q_E0
        clear Q_E1
        have E2 := Aside0.mk (Q_E2 hb25_)
        clear Q_E2
        clear hall hb5_ hb11_ hb17_ hb23_ hb24_ hb25_ hb26_
        obtain ⟨Aq, cq, e_q⟩ := E2.out.form
        obtain ⟨L2, hL2⟩ : ∃ n, (allP (qs.take (i + 1))).length = n := ⟨_, rfl⟩
        rw [hL2] at e_q
        subst e_q
        replace hL2 := Aside0.mk hL2
        go_wp2
        go_roundg (qs.length - (i + 1))
        case rel => exact ⟨wrap64 (ii + 1), i + 1, by first | rfl | (simp; done) | (simp [hw1]; done), ⟨by rw [hw1]; have := hii.out; omega⟩, by have := hii.out; omega, rfl, E2⟩
        case measure => have := hii.out; have := HI.out.2; omega
    · have hi' : i = qs.length := by have := hii.out; omega
      have hI2 := hI.out
      rw [hi', List.take_of_length_le (Nat.le_refl _)] at hI2
      obtain ⟨Al, cl, e_l, hcl, hCl⟩ := hI2.out
      have hll : (allP qs).length = lo := by rw [← hlo, hi', List.take_of_length_le (Nat.le_refl _)]
      rw [hll] at e_l hcl hCl
      injection e_l with e_l _ e_c
      subst e_l e_c
      have GL := Aside0.mk (⟨hll ▸ hcl, hll ▸ hCl, ⟨Kd.C_below G1.out.1.1 hI2.below, G1.out.1.2⟩, Kd.C_below G1.out.2.2.1 hI2.below, below_step G1.out.2.2.2 hI2.below⟩ : (allP qs).length ≤ co ∧ Kd.C (Kd.slice 5 B8) wb Ao (allP qs).length (allP qs) ∧ (_ ∧ _) ∧ _ ∧ _)
      rw [← hll]
      clear hi' hcl hCl hI2 hI G1 hlo hlo2 hll hgk
      go_upto_region 10 with (go_at_call 16; refine (mark_Length.calls kL 3 Ao co (allP qs) LN _ GL.out.2.1 GL.out.1 hkL.out).mono ?_; rintro e_ w5 ⟨rfl, hb_⟩; have G2 := Aside0.mk (⟨⟨Kd.C_below GL.out.2.2.1.1 hb_, GL.out.2.2.1.2⟩, Kd.C_below GL.out.2.2.2.1 hb_, below_step GL.out.2.2.2.2 hb_⟩ : (_ ∧ _) ∧ _ ∧ _); clear hb_)
      go_upto_region 11 with (go_at_call 19; refine (hW.out _ _ _ G2.out.1.1 G2.out.1.2).mono ?_; rintro e_ w6 ⟨AW, cW, rfl, hc_, hC_, hb_⟩; have G3 := Aside0.mk (⟨⟨Kd.C_below G2.out.1.1 hb_, G2.out.1.2⟩, Kd.C_below G2.out.2.1 hb_, below_step G2.out.2.2 hb_, hc_, hC_⟩ : (_ ∧ _) ∧ _ ∧ _ ∧ _ ∧ _); clear hc_ hC_ hb_)
      go_upto_region 12 with (go_at_call 9; refine (hRD.out AW cW _ G3.out.2.2.2.2 G3.out.2.2.2.1).mono ?_; rintro e_ w7 ⟨AR, cR, rfl, hc_, hC_, hb_⟩; have G4 := Aside0.mk (⟨⟨Kd.C_below G3.out.1.1 hb_, G3.out.1.2⟩, Kd.C_below G3.out.2.1 hb_, below_step G3.out.2.2.1 hb_, hC_, hc_⟩ : (_ ∧ _) ∧ _ ∧ _ ∧ _ ∧ _); clear hc_ hC_ hb_)
      go_upto_region 13 with (first | (go_at_call 16; refine (mark_Length.calls kB 1 (some ⟨w7.heap.size, 0, none⟩) 1 [bb] LB _ (lit_rowsP (heap_alloc_new w7 _) HIN.out.2.2.2 (Kd.C_below G4.out.2.1 (below_alloc (Below.refl w7.heap.size w7) _))) (Nat.le_refl _) hkB.out).mono ?_; rintro e_ wL ⟨rfl, hb_⟩; have hz_ := (below_alloc (Below.refl w7.heap.size w7) _).trans (below_lo hb_ (by simp)); have G5 := Aside0.mk (⟨⟨Kd.C_below G4.out.1.1 hz_, G4.out.1.2⟩, Kd.C_below G4.out.2.1 hz_, below_step G4.out.2.2.1 hz_, Kd.C_below G4.out.2.2.2.1 hz_, G4.out.2.2.2.2⟩ : (_ ∧ _) ∧ _ ∧ _ ∧ _ ∧ _); clear hb_ hz_) | (go_at_call 9; refine (hRB.out _ G5.out.2.1).mono ?_; rintro e_ wO ⟨AO, cO, rfl, hc_, hC_, hb_⟩; have G6 := Aside0.mk (⟨⟨Kd.C_below G5.out.1.1 hb_, G5.out.1.2⟩, Kd.C_below G5.out.2.1 hb_, below_step G5.out.2.2.1 hb_, ⟨Kd.C_below G5.out.2.2.2.1 hb_, G5.out.2.2.2.2⟩, hC_, hc_⟩ : (_ ∧ _) ∧ _ ∧ _ ∧ (_ ∧ _) ∧ _ ∧ _); clear hc_ hC_ hb_; try rw [hno.out]))
      have G7 := Aside0.mk (⟨⟨Kd.C_below G6.out.1.1 (below_drew1 (Below.refl wO.heap.size wO)), G6.out.1.2⟩, Kd.C_below G6.out.2.1 (below_drew1 (Below.refl wO.heap.size wO)), below_step G6.out.2.2.1 (below_drew1 (Below.refl wO.heap.size wO)), ⟨Kd.C_below G6.out.2.2.2.1.1 (below_drew1 (Below.refl wO.heap.size wO)), G6.out.2.2.2.1.2⟩, ⟨Kd.C_below G6.out.2.2.2.2.1 (below_drew1 (Below.refl wO.heap.size wO)), G6.out.2.2.2.2.2⟩⟩ : (_ ∧ _) ∧ _ ∧ _ ∧ (_ ∧ _) ∧ (_ ∧ _))
      clear G6
      try go_wp2
      have E := trivial
      refine start_ (n := 42) (S := fun w' => True) (ds := []) #[false, false, false, false, false, false, false, false, false, false, false, false, false, false, false, false, false, false, false, false, false, false, false, false, false, false, false, false, false, false, false, false, false, false, false, false, false, false, false, false, false, false] (by kernel_rfl) rfl rfl trivial (fun hHeld => ?_)
      refine with_tabW mpi.tab13 mpi.bits13 (fun HT_ HW_ => ?_)
      have E := trivial
      generalize wO.drew = wd at G7 hHeld ⊢
      refine inv_at [0, 1, 2, 3, 4, 5, 6, 7, 8, 9, 10, 11, 12, 13, 14, 15, 16, 17, 18, 19, 20, 21, 22, 23, 24, 25, 26, 27, 28, 29, 30, 31, 32, 33, 34, 35, 36, 37, 38, 39, 40, 41] (fun a0_ b a w' => ∃ (pa : Option Addr) (na : Nat) (pb : Option Addr) (nb : Nat) (pc : Option Addr) (nc : Nat) (m12_ : Value) (m16_ : Value) (m27_ : Value), a = putSel a0_ b [(0, 87, .bool true), (1, 88, .bool true), (2, 89, .int .i64 0), (3, 90, .bool true), (4, 91, .bool true), (5, 92, .bool true), (6, 93, .int .i64 0), (7, 94, .bool true), (8, 95, .bool true), (9, 96, .bool true), (10, 97, .slice AR js.length cR), (11, 98, .int .i64 sd), (12, 99, m12_), (13, 100, .string (strOfNums pk)), (14, 101, .slice AP qs.length cP), (15, 102, .int .i64 sd), (16, 103, m16_), (17, 104, .string (strOfNums pk)), (18, 105, .bool true), (19, 106, .bool true), (20, 107, .bool true), (21, 108, .int .i64 0), (22, 109, .bool true), (23, 110, .bool true), (24, 111, .bool true), (25, 112, .slice AO no cO), (26, 113, .int .i64 sd), (27, 114, m27_), (28, 115, .string (strOfNums bb)), (29, 116, .slice A2 bb.length c2), (30, 117, .string (strOfNums bb)), (31, 118, .bool true), (32, 119, .bool true), (33, 120, .bool true), (34, 121, .slice AO no cO), (35, 122, .int .i64 (no : Int)), (36, 123, .slice A2 bb.length c2), (37, 124, .int .i64 (bb.length : Int)), (38, 125, .int .i64 (no : Int)), (39, 126, .bool true), (40, 127, .bool true), (41, 6, .bool true)] ∧ (Below wd.heap.size wd w') ∧ (b 12 = true → Kd.C B8 w' pa pk.length pk) ∧ (b 16 = true → Kd.C B8 w' pb pk.length pk) ∧ (b 27 = true → Kd.C B8 w' pc bb.length bb) ∧ (b 12 = true → (m12_ : Value) = .slice pa pk.length na) ∧ (b 16 = true → (m16_ : Value) = .slice pb pk.length nb) ∧ (b 27 = true → (m27_ : Value) = .slice pc bb.length nc)) HT_.out HW_.out (by kernel_rfl) (by kernel_rfl) ?_ ?_ ?_
      · exact ⟨none, 0, none, 0, none, 0, .bool false, .bool false, .bool false, by simp only [putSel, Bool.false_eq_true, if_false], Below.refl _ _, fun h_ => absurd h_ (by decide), fun h_ => absurd h_ (by decide), fun h_ => absurd h_ (by decide), fun h_ => absurd h_ (by decide), fun h_ => absurd h_ (by decide), fun h_ => absurd h_ (by decide)⟩
      · skip
        clear E
        refine steps_cons ?_ ?_
        · rintro b a w' ⟨pa, na, pb, nb, pc, nc, m12_, m16_, m27_, ha, Q_E, Q_Ea, Q_Eb, Q_Ec, Q_X12_, Q_X16_, Q_X27_⟩ hb_ hon hoff
          refine ⟨_, rfl, fun K hK => ?_⟩
          replace ha := Aside0.mk ha
          have E := Aside0.mk Q_E
          refine goes_ Tryd.func11 (by kernel_rfl) rfl #[] (by rfl) rfl rfl (by first | (simp only [List.map_toArray, List.map_cons, List.map_nil, Act.eval, Array.getD_eq_getD_getElem?, Option.getD_some]; done) | (simp only [List.map_toArray, List.map_cons, List.map_nil, Act.eval, Array.getD_eq_getD_getElem?, Option.getD_some]; rfl)) ?_
          refine (known_walk _).mono ?_
          rintro e w24 ⟨rfl, hbe_⟩
          refine ⟨_, rfl, ?_⟩
          refine hK.out _ _ ⟨pa, na, pb, nb, pc, nc, m12_, m16_, m27_, (by rw [ha.out]; exact putSel_upk 0 hb_ rfl rfl rfl), below_step E.out hbe_, fun h0_ => absurd ((hoff 12 (by kernel_rfl)).symm.trans h0_) (by decide), fun h0_ => absurd ((hoff 16 (by kernel_rfl)).symm.trans h0_) (by decide), fun h0_ => absurd ((hoff 27 (by kernel_rfl)).symm.trans h0_) (by decide), fun h0_ => absurd ((hoff 12 (by kernel_rfl)).symm.trans h0_) (by decide), fun h0_ => absurd ((hoff 16 (by kernel_rfl)).symm.trans h0_) (by decide), fun h0_ => absurd ((hoff 27 (by kernel_rfl)).symm.trans h0_) (by decide)⟩
        refine steps_cons ?_ ?_
        · rintro b a w' ⟨pa, na, pb, nb, pc, nc, m12_, m16_, m27_, ha, Q_E, Q_Ea, Q_Eb, Q_Ec, Q_X12_, Q_X16_, Q_X27_⟩ hb_ hon hoff
          refine ⟨_, rfl, fun K hK => ?_⟩
          have e87 : a.tmps[87]? = some (.bool true) := by rw [ha]; exact putSel_on (e := (0, 87, .bool true)) 0 rfl rfl (hon 0 (by kernel_rfl)) rfl
          replace ha := Aside0.mk ha
          have E := Aside0.mk Q_E
          refine value_ (w1 := w') (v := .bool true) (by rfl) rfl ?_ ?_
          · go_simp
            (try simp only [i64_w])
            try rfl
          refine hK.out _ _ ⟨pa, na, pb, nb, pc, nc, m12_, m16_, m27_, (by rw [ha.out]; exact putSel_upk 1 hb_ rfl rfl rfl), Q_E, fun h0_ => absurd ((hoff 12 (by kernel_rfl)).symm.trans h0_) (by decide), fun h0_ => absurd ((hoff 16 (by kernel_rfl)).symm.trans h0_) (by decide), fun h0_ => absurd ((hoff 27 (by kernel_rfl)).symm.trans h0_) (by decide), fun h0_ => absurd ((hoff 12 (by kernel_rfl)).symm.trans h0_) (by decide), fun h0_ => absurd ((hoff 16 (by kernel_rfl)).symm.trans h0_) (by decide), fun h0_ => absurd ((hoff 27 (by kernel_rfl)).symm.trans h0_) (by decide)⟩
        refine steps_cons ?_ ?_
        · rintro b a w' ⟨pa, na, pb, nb, pc, nc, m12_, m16_, m27_, ha, Q_E, Q_Ea, Q_Eb, Q_Ec, Q_X12_, Q_X16_, Q_X27_⟩ hb_ hon hoff
          refine ⟨_, rfl, fun K hK => ?_⟩
          have e13 : a.tmps[13]? = some (.int .i64 0) := by rw [ha]; exact (putSel_off rfl).trans rfl
          have e88 : a.tmps[88]? = some (.bool true) := by rw [ha]; exact putSel_on (e := (1, 88, .bool true)) 1 rfl rfl (hon 1 (by kernel_rfl)) rfl
          replace ha := Aside0.mk ha
          have E := Aside0.mk Q_E
          refine value_ (w1 := w') (v := .int .i64 0) (wanted_on rfl rfl rfl (e88.trans (by first | rfl | (simp [*]; done)))) rfl ?_ ?_
          · go_simp
            (try simp only [i64_w])
            try rfl
          refine hK.out _ _ ⟨pa, na, pb, nb, pc, nc, m12_, m16_, m27_, (by rw [ha.out]; exact putSel_upk 2 hb_ rfl rfl rfl), Q_E, fun h0_ => absurd ((hoff 12 (by kernel_rfl)).symm.trans h0_) (by decide), fun h0_ => absurd ((hoff 16 (by kernel_rfl)).symm.trans h0_) (by decide), fun h0_ => absurd ((hoff 27 (by kernel_rfl)).symm.trans h0_) (by decide), fun h0_ => absurd ((hoff 12 (by kernel_rfl)).symm.trans h0_) (by decide), fun h0_ => absurd ((hoff 16 (by kernel_rfl)).symm.trans h0_) (by decide), fun h0_ => absurd ((hoff 27 (by kernel_rfl)).symm.trans h0_) (by decide)⟩
        refine steps_cons ?_ ?_
        · rintro b a w' ⟨pa, na, pb, nb, pc, nc, m12_, m16_, m27_, ha, Q_E, Q_Ea, Q_Eb, Q_Ec, Q_X12_, Q_X16_, Q_X27_⟩ hb_ hon hoff
          refine ⟨_, rfl, fun K hK => ?_⟩
          have e89 : a.tmps[89]? = some (.int .i64 0) := by rw [ha]; exact putSel_on (e := (2, 89, .int .i64 0)) 2 rfl rfl (hon 2 (by kernel_rfl)) rfl
          have e88 : a.tmps[88]? = some (.bool true) := by rw [ha]; exact putSel_on (e := (1, 88, .bool true)) 1 rfl rfl (hon 1 (by kernel_rfl)) rfl
          replace ha := Aside0.mk ha
          have E := Aside0.mk Q_E
          refine value_ (w1 := w') (v := .bool true) (wanted_on rfl rfl rfl (e88.trans (by first | rfl | (simp [*]; done)))) rfl ?_ ?_
          · go_simp
            (try simp only [i64_w])
            try rfl
          refine hK.out _ _ ⟨pa, na, pb, nb, pc, nc, m12_, m16_, m27_, (by rw [ha.out]; exact putSel_upk 3 hb_ rfl rfl rfl), Q_E, fun h0_ => absurd ((hoff 12 (by kernel_rfl)).symm.trans h0_) (by decide), fun h0_ => absurd ((hoff 16 (by kernel_rfl)).symm.trans h0_) (by decide), fun h0_ => absurd ((hoff 27 (by kernel_rfl)).symm.trans h0_) (by decide), fun h0_ => absurd ((hoff 12 (by kernel_rfl)).symm.trans h0_) (by decide), fun h0_ => absurd ((hoff 16 (by kernel_rfl)).symm.trans h0_) (by decide), fun h0_ => absurd ((hoff 27 (by kernel_rfl)).symm.trans h0_) (by decide)⟩
        refine steps_cons ?_ ?_
        · rintro b a w' ⟨pa, na, pb, nb, pc, nc, m12_, m16_, m27_, ha, Q_E, Q_Ea, Q_Eb, Q_Ec, Q_X12_, Q_X16_, Q_X27_⟩ hb_ hon hoff
          refine ⟨_, rfl, fun K hK => ?_⟩
          have e88 : a.tmps[88]? = some (.bool true) := by rw [ha]; exact putSel_on (e := (1, 88, .bool true)) 1 rfl rfl (hon 1 (by kernel_rfl)) rfl
          have e90 : a.tmps[90]? = some (.bool true) := by rw [ha]; exact putSel_on (e := (3, 90, .bool true)) 3 rfl rfl (hon 3 (by kernel_rfl)) rfl
          replace ha := Aside0.mk ha
          have E := Aside0.mk Q_E
          refine value_ (w1 := w') (v := .bool true) (by rfl) rfl ?_ ?_
          · go_simp
            (try simp only [i64_w])
            try rfl
          refine hK.out _ _ ⟨pa, na, pb, nb, pc, nc, m12_, m16_, m27_, (by rw [ha.out]; exact putSel_upk 4 hb_ rfl rfl rfl), Q_E, fun h0_ => absurd ((hoff 12 (by kernel_rfl)).symm.trans h0_) (by decide), fun h0_ => absurd ((hoff 16 (by kernel_rfl)).symm.trans h0_) (by decide), fun h0_ => absurd ((hoff 27 (by kernel_rfl)).symm.trans h0_) (by decide), fun h0_ => absurd ((hoff 12 (by kernel_rfl)).symm.trans h0_) (by decide), fun h0_ => absurd ((hoff 16 (by kernel_rfl)).symm.trans h0_) (by decide), fun h0_ => absurd ((hoff 27 (by kernel_rfl)).symm.trans h0_) (by decide)⟩
        refine steps_cons ?_ ?_
        · rintro b a w' ⟨pa, na, pb, nb, pc, nc, m12_, m16_, m27_, ha, Q_E, Q_Ea, Q_Eb, Q_Ec, Q_X12_, Q_X16_, Q_X27_⟩ hb_ hon hoff
          refine ⟨_, rfl, fun K hK => ?_⟩
          have e91 : a.tmps[91]? = some (.bool true) := by rw [ha]; exact putSel_on (e := (4, 91, .bool true)) 4 rfl rfl (hon 4 (by kernel_rfl)) rfl
          replace ha := Aside0.mk ha
          have E := Aside0.mk Q_E
          refine value_ (w1 := w') (v := .bool true) (by rfl) rfl ?_ ?_
          · go_simp
            (try simp only [i64_w])
            try rfl
          refine hK.out _ _ ⟨pa, na, pb, nb, pc, nc, m12_, m16_, m27_, (by rw [ha.out]; exact putSel_upk 5 hb_ rfl rfl rfl), Q_E, fun h0_ => absurd ((hoff 12 (by kernel_rfl)).symm.trans h0_) (by decide), fun h0_ => absurd ((hoff 16 (by kernel_rfl)).symm.trans h0_) (by decide), fun h0_ => absurd ((hoff 27 (by kernel_rfl)).symm.trans h0_) (by decide), fun h0_ => absurd ((hoff 12 (by kernel_rfl)).symm.trans h0_) (by decide), fun h0_ => absurd ((hoff 16 (by kernel_rfl)).symm.trans h0_) (by decide), fun h0_ => absurd ((hoff 27 (by kernel_rfl)).symm.trans h0_) (by decide)⟩
        refine steps_cons ?_ ?_
        · rintro b a w' ⟨pa, na, pb, nb, pc, nc, m12_, m16_, m27_, ha, Q_E, Q_Ea, Q_Eb, Q_Ec, Q_X12_, Q_X16_, Q_X27_⟩ hb_ hon hoff
          refine ⟨_, rfl, fun K hK => ?_⟩
          have e15 : a.tmps[15]? = some (.int .i64 0) := by rw [ha]; exact (putSel_off rfl).trans rfl
          have e92 : a.tmps[92]? = some (.bool true) := by rw [ha]; exact putSel_on (e := (5, 92, .bool true)) 5 rfl rfl (hon 5 (by kernel_rfl)) rfl
          replace ha := Aside0.mk ha
          have E := Aside0.mk Q_E
          refine value_ (w1 := w') (v := .int .i64 0) (wanted_on rfl rfl rfl (e92.trans (by first | rfl | (simp [*]; done)))) rfl ?_ ?_
          · go_simp
            (try simp only [i64_w])
            try rfl
          refine hK.out _ _ ⟨pa, na, pb, nb, pc, nc, m12_, m16_, m27_, (by rw [ha.out]; exact putSel_upk 6 hb_ rfl rfl rfl), Q_E, fun h0_ => absurd ((hoff 12 (by kernel_rfl)).symm.trans h0_) (by decide), fun h0_ => absurd ((hoff 16 (by kernel_rfl)).symm.trans h0_) (by decide), fun h0_ => absurd ((hoff 27 (by kernel_rfl)).symm.trans h0_) (by decide), fun h0_ => absurd ((hoff 12 (by kernel_rfl)).symm.trans h0_) (by decide), fun h0_ => absurd ((hoff 16 (by kernel_rfl)).symm.trans h0_) (by decide), fun h0_ => absurd ((hoff 27 (by kernel_rfl)).symm.trans h0_) (by decide)⟩
        refine steps_cons ?_ ?_
        · rintro b a w' ⟨pa, na, pb, nb, pc, nc, m12_, m16_, m27_, ha, Q_E, Q_Ea, Q_Eb, Q_Ec, Q_X12_, Q_X16_, Q_X27_⟩ hb_ hon hoff
          refine ⟨_, rfl, fun K hK => ?_⟩
          have e93 : a.tmps[93]? = some (.int .i64 0) := by rw [ha]; exact putSel_on (e := (6, 93, .int .i64 0)) 6 rfl rfl (hon 6 (by kernel_rfl)) rfl
          have e92 : a.tmps[92]? = some (.bool true) := by rw [ha]; exact putSel_on (e := (5, 92, .bool true)) 5 rfl rfl (hon 5 (by kernel_rfl)) rfl
          replace ha := Aside0.mk ha
          have E := Aside0.mk Q_E
          refine value_ (w1 := w') (v := .bool true) (wanted_on rfl rfl rfl (e92.trans (by first | rfl | (simp [*]; done)))) rfl ?_ ?_
          · go_simp
            (try simp only [i64_w])
            try rfl
          refine hK.out _ _ ⟨pa, na, pb, nb, pc, nc, m12_, m16_, m27_, (by rw [ha.out]; exact putSel_upk 7 hb_ rfl rfl rfl), Q_E, fun h0_ => absurd ((hoff 12 (by kernel_rfl)).symm.trans h0_) (by decide), fun h0_ => absurd ((hoff 16 (by kernel_rfl)).symm.trans h0_) (by decide), fun h0_ => absurd ((hoff 27 (by kernel_rfl)).symm.trans h0_) (by decide), fun h0_ => absurd ((hoff 12 (by kernel_rfl)).symm.trans h0_) (by decide), fun h0_ => absurd ((hoff 16 (by kernel_rfl)).symm.trans h0_) (by decide), fun h0_ => absurd ((hoff 27 (by kernel_rfl)).symm.trans h0_) (by decide)⟩
        refine steps_cons ?_ ?_
        · rintro b a w' ⟨pa, na, pb, nb, pc, nc, m12_, m16_, m27_, ha, Q_E, Q_Ea, Q_Eb, Q_Ec, Q_X12_, Q_X16_, Q_X27_⟩ hb_ hon hoff
          refine ⟨_, rfl, fun K hK => ?_⟩
          have e92 : a.tmps[92]? = some (.bool true) := by rw [ha]; exact putSel_on (e := (5, 92, .bool true)) 5 rfl rfl (hon 5 (by kernel_rfl)) rfl
          have e94 : a.tmps[94]? = some (.bool true) := by rw [ha]; exact putSel_on (e := (7, 94, .bool true)) 7 rfl rfl (hon 7 (by kernel_rfl)) rfl
          replace ha := Aside0.mk ha
          have E := Aside0.mk Q_E
          refine value_ (w1 := w') (v := .bool true) (by rfl) rfl ?_ ?_
          · go_simp
            (try simp only [i64_w])
            try rfl
          refine hK.out _ _ ⟨pa, na, pb, nb, pc, nc, m12_, m16_, m27_, (by rw [ha.out]; exact putSel_upk 8 hb_ rfl rfl rfl), Q_E, fun h0_ => absurd ((hoff 12 (by kernel_rfl)).symm.trans h0_) (by decide), fun h0_ => absurd ((hoff 16 (by kernel_rfl)).symm.trans h0_) (by decide), fun h0_ => absurd ((hoff 27 (by kernel_rfl)).symm.trans h0_) (by decide), fun h0_ => absurd ((hoff 12 (by kernel_rfl)).symm.trans h0_) (by decide), fun h0_ => absurd ((hoff 16 (by kernel_rfl)).symm.trans h0_) (by decide), fun h0_ => absurd ((hoff 27 (by kernel_rfl)).symm.trans h0_) (by decide)⟩
        refine steps_cons ?_ ?_
        · rintro b a w' ⟨pa, na, pb, nb, pc, nc, m12_, m16_, m27_, ha, Q_E, Q_Ea, Q_Eb, Q_Ec, Q_X12_, Q_X16_, Q_X27_⟩ hb_ hon hoff
          refine ⟨_, rfl, fun K hK => ?_⟩
          have e95 : a.tmps[95]? = some (.bool true) := by rw [ha]; exact putSel_on (e := (8, 95, .bool true)) 8 rfl rfl (hon 8 (by kernel_rfl)) rfl
          replace ha := Aside0.mk ha
          have E := Aside0.mk Q_E
          refine value_ (w1 := w') (v := .bool true) (by rfl) rfl ?_ ?_
          · go_simp
            (try simp only [i64_w])
            try rfl
          refine hK.out _ _ ⟨pa, na, pb, nb, pc, nc, m12_, m16_, m27_, (by rw [ha.out]; exact putSel_upk 9 hb_ rfl rfl rfl), Q_E, fun h0_ => absurd ((hoff 12 (by kernel_rfl)).symm.trans h0_) (by decide), fun h0_ => absurd ((hoff 16 (by kernel_rfl)).symm.trans h0_) (by decide), fun h0_ => absurd ((hoff 27 (by kernel_rfl)).symm.trans h0_) (by decide), fun h0_ => absurd ((hoff 12 (by kernel_rfl)).symm.trans h0_) (by decide), fun h0_ => absurd ((hoff 16 (by kernel_rfl)).symm.trans h0_) (by decide), fun h0_ => absurd ((hoff 27 (by kernel_rfl)).symm.trans h0_) (by decide)⟩
        refine steps_cons ?_ ?_
        · rintro b a w' ⟨pa, na, pb, nb, pc, nc, m12_, m16_, m27_, ha, Q_E, Q_Ea, Q_Eb, Q_Ec, Q_X12_, Q_X16_, Q_X27_⟩ hb_ hon hoff
          refine ⟨_, rfl, fun K hK => ?_⟩
          have e14 : a.tmps[14]? = some (.slice AR js.length cR) := by rw [ha]; exact (putSel_off rfl).trans rfl
          have e96 : a.tmps[96]? = some (.bool true) := by rw [ha]; exact putSel_on (e := (9, 96, .bool true)) 9 rfl rfl (hon 9 (by kernel_rfl)) rfl
          replace ha := Aside0.mk ha
          have E := Aside0.mk Q_E
          refine value_ (w1 := w') (v := .slice AR js.length cR) (wanted_on rfl rfl rfl (e96.trans (by first | rfl | (simp [*]; done)))) rfl ?_ ?_
          · go_simp
            (try simp only [i64_w])
            try rfl
          refine hK.out _ _ ⟨pa, na, pb, nb, pc, nc, m12_, m16_, m27_, (by rw [ha.out]; exact putSel_upk 10 hb_ rfl rfl rfl), Q_E, fun h0_ => absurd ((hoff 12 (by kernel_rfl)).symm.trans h0_) (by decide), fun h0_ => absurd ((hoff 16 (by kernel_rfl)).symm.trans h0_) (by decide), fun h0_ => absurd ((hoff 27 (by kernel_rfl)).symm.trans h0_) (by decide), fun h0_ => absurd ((hoff 12 (by kernel_rfl)).symm.trans h0_) (by decide), fun h0_ => absurd ((hoff 16 (by kernel_rfl)).symm.trans h0_) (by decide), fun h0_ => absurd ((hoff 27 (by kernel_rfl)).symm.trans h0_) (by decide)⟩
        refine steps_cons ?_ ?_
        · rintro b a w' ⟨pa, na, pb, nb, pc, nc, m12_, m16_, m27_, ha, Q_E, Q_Ea, Q_Eb, Q_Ec, Q_X12_, Q_X16_, Q_X27_⟩ hb_ hon hoff
          refine ⟨_, rfl, fun K hK => ?_⟩
          have e1 : a.tmps[1]? = some (.int .i64 sd) := by rw [ha]; exact (putSel_off rfl).trans rfl
          have e96 : a.tmps[96]? = some (.bool true) := by rw [ha]; exact putSel_on (e := (9, 96, .bool true)) 9 rfl rfl (hon 9 (by kernel_rfl)) rfl
          replace ha := Aside0.mk ha
          have E := Aside0.mk Q_E
          refine value_ (w1 := w') (v := .int .i64 sd) (wanted_on rfl rfl rfl (e96.trans (by first | rfl | (simp [*]; done)))) rfl ?_ ?_
          · go_simp
            (try simp only [i64_w])
            try rfl
          refine hK.out _ _ ⟨pa, na, pb, nb, pc, nc, m12_, m16_, m27_, (by rw [ha.out]; exact putSel_upk 11 hb_ rfl rfl rfl), Q_E, fun h0_ => absurd ((hoff 12 (by kernel_rfl)).symm.trans h0_) (by decide), fun h0_ => absurd ((hoff 16 (by kernel_rfl)).symm.trans h0_) (by decide), fun h0_ => absurd ((hoff 27 (by kernel_rfl)).symm.trans h0_) (by decide), fun h0_ => absurd ((hoff 12 (by kernel_rfl)).symm.trans h0_) (by decide), fun h0_ => absurd ((hoff 16 (by kernel_rfl)).symm.trans h0_) (by decide), fun h0_ => absurd ((hoff 27 (by kernel_rfl)).symm.trans h0_) (by decide)⟩
        refine steps_cons ?_ ?_
        · rintro b a w' ⟨pa, na, pb, nb, pc, nc, m12_, m16_, m27_, ha, Q_E, Q_Ea, Q_Eb, Q_Ec, Q_X12_, Q_X16_, Q_X27_⟩ hb_ hon hoff
          refine ⟨_, rfl, fun K hK => ?_⟩
          have e97 : a.tmps[97]? = some (.slice AR js.length cR) := by rw [ha]; exact putSel_on (e := (10, 97, .slice AR js.length cR)) 10 rfl rfl (hon 10 (by kernel_rfl)) rfl
          have e98 : a.tmps[98]? = some (.int .i64 sd) := by rw [ha]; exact putSel_on (e := (11, 98, .int .i64 sd)) 11 rfl rfl (hon 11 (by kernel_rfl)) rfl
          have e96 : a.tmps[96]? = some (.bool true) := by rw [ha]; exact putSel_on (e := (9, 96, .bool true)) 9 rfl rfl (hon 9 (by kernel_rfl)) rfl
          replace ha := Aside0.mk ha
          have E := Aside0.mk Q_E
          refine goes_ Tryd.func22 (by kernel_rfl) rfl #[.slice AR js.length cR, .int .i64 sd] (wanted_on rfl rfl rfl (e96.trans (by first | rfl | (simp [*]; done)))) rfl rfl (by first | (simp only [List.map_toArray, List.map_cons, List.map_nil, Act.eval, Array.getD_eq_getD_getElem?, Option.getD_some, e97, e98, e96]; done) | (simp only [List.map_toArray, List.map_cons, List.map_nil, Act.eval, Array.getD_eq_getD_getElem?, Option.getD_some, e97, e98, e96]; rfl)) ?_
          refine (hP1.out AR cR _ (Kd.C_below G7.out.2.2.2.1.1 E.out) G7.out.2.2.2.1.2).mono ?_
          rintro e w24 ⟨A5_, c5_, rfl, hc5_, hC5_, hbe_⟩
          refine ⟨_, rfl, ?_⟩
          have S3_ : Kd.C B8 w24 A5_ pk.length pk := hC5_
          refine hK.out _ _ ⟨A5_, c5_, pb, nb, pc, nc, (.slice A5_ pk.length c5_), m16_, m27_, (by rw [ha.out]; exact putSel_upk 12 hb_ rfl rfl rfl), below_step E.out hbe_, fun _ => S3_, fun h0_ => absurd ((hoff 16 (by kernel_rfl)).symm.trans h0_) (by decide), fun h0_ => absurd ((hoff 27 (by kernel_rfl)).symm.trans h0_) (by decide), fun _ => rfl, fun h0_ => absurd ((hoff 16 (by kernel_rfl)).symm.trans h0_) (by decide), fun h0_ => absurd ((hoff 27 (by kernel_rfl)).symm.trans h0_) (by decide)⟩
        refine steps_cons ?_ ?_
        · rintro b a w' ⟨pa, na, pb, nb, pc, nc, m12_, m16_, m27_, ha, Q_E, Q_Ea, Q_Eb, Q_Ec, Q_X12_, Q_X16_, Q_X27_⟩ hb_ hon hoff
          refine ⟨_, rfl, fun K hK => ?_⟩
          have e99 : a.tmps[99]? = some (m12_) := by rw [ha]; exact putSel_on (e := (12, 99, m12_)) 12 rfl rfl (hon 12 (by kernel_rfl)) rfl
          rw [Q_X12_ (hon 12 (by kernel_rfl))] at e99
          have e96 : a.tmps[96]? = some (.bool true) := by rw [ha]; exact putSel_on (e := (9, 96, .bool true)) 9 rfl rfl (hon 9 (by kernel_rfl)) rfl
          replace ha := Aside0.mk ha
          have E := Aside0.mk Q_E
          have Ea := Aside0.mk (Q_Ea (hon 12 (by kernel_rfl)))
          have hcv_ := Kd.C_string (P := Tryd.prog) (c := na) Tryd.underlying22 Tryd.underlying5 Tryd.underlying9 Ea.out
          refine value_ (w1 := w') (v := .string (strOfNums pk)) (wanted_on rfl rfl rfl (e96.trans (by first | rfl | (simp [*]; done)))) rfl ?_ ?_
          · go_simp
            (try simp only [i64_w])
            try rfl
          refine hK.out _ _ ⟨pa, na, pb, nb, pc, nc, m12_, m16_, m27_, (by rw [ha.out]; exact putSel_upk 13 hb_ rfl rfl rfl), Q_E, Q_Ea, Q_Eb, fun h0_ => absurd ((hoff 27 (by kernel_rfl)).symm.trans h0_) (by decide), Q_X12_, Q_X16_, fun h0_ => absurd ((hoff 27 (by kernel_rfl)).symm.trans h0_) (by decide)⟩
        refine steps_cons ?_ ?_
        · rintro b a w' ⟨pa, na, pb, nb, pc, nc, m12_, m16_, m27_, ha, Q_E, Q_Ea, Q_Eb, Q_Ec, Q_X12_, Q_X16_, Q_X27_⟩ hb_ hon hoff
          refine ⟨_, rfl, fun K hK => ?_⟩
          have e7 : a.tmps[7]? = some (.slice AP qs.length cP) := by rw [ha]; exact (putSel_off rfl).trans rfl
          have e96 : a.tmps[96]? = some (.bool true) := by rw [ha]; exact putSel_on (e := (9, 96, .bool true)) 9 rfl rfl (hon 9 (by kernel_rfl)) rfl
          replace ha := Aside0.mk ha
          have E := Aside0.mk Q_E
          refine value_ (w1 := w') (v := .slice AP qs.length cP) (wanted_on rfl rfl rfl (e96.trans (by first | rfl | (simp [*]; done)))) rfl ?_ ?_
          · go_simp
            (try simp only [i64_w])
            try rfl
          refine hK.out _ _ ⟨pa, na, pb, nb, pc, nc, m12_, m16_, m27_, (by rw [ha.out]; exact putSel_upk 14 hb_ rfl rfl rfl), Q_E, Q_Ea, fun h0_ => absurd ((hoff 16 (by kernel_rfl)).symm.trans h0_) (by decide), fun h0_ => absurd ((hoff 27 (by kernel_rfl)).symm.trans h0_) (by decide), Q_X12_, fun h0_ => absurd ((hoff 16 (by kernel_rfl)).symm.trans h0_) (by decide), fun h0_ => absurd ((hoff 27 (by kernel_rfl)).symm.trans h0_) (by decide)⟩
        refine steps_cons ?_ ?_
        · rintro b a w' ⟨pa, na, pb, nb, pc, nc, m12_, m16_, m27_, ha, Q_E, Q_Ea, Q_Eb, Q_Ec, Q_X12_, Q_X16_, Q_X27_⟩ hb_ hon hoff
          refine ⟨_, rfl, fun K hK => ?_⟩
          have e1 : a.tmps[1]? = some (.int .i64 sd) := by rw [ha]; exact (putSel_off rfl).trans rfl
          have e96 : a.tmps[96]? = some (.bool true) := by rw [ha]; exact putSel_on (e := (9, 96, .bool true)) 9 rfl rfl (hon 9 (by kernel_rfl)) rfl
          replace ha := Aside0.mk ha
          have E := Aside0.mk Q_E
          refine value_ (w1 := w') (v := .int .i64 sd) (wanted_on rfl rfl rfl (e96.trans (by first | rfl | (simp [*]; done)))) rfl ?_ ?_
          · go_simp
            (try simp only [i64_w])
            try rfl
          refine hK.out _ _ ⟨pa, na, pb, nb, pc, nc, m12_, m16_, m27_, (by rw [ha.out]; exact putSel_upk 15 hb_ rfl rfl rfl), Q_E, Q_Ea, fun h0_ => absurd ((hoff 16 (by kernel_rfl)).symm.trans h0_) (by decide), fun h0_ => absurd ((hoff 27 (by kernel_rfl)).symm.trans h0_) (by decide), Q_X12_, fun h0_ => absurd ((hoff 16 (by kernel_rfl)).symm.trans h0_) (by decide), fun h0_ => absurd ((hoff 27 (by kernel_rfl)).symm.trans h0_) (by decide)⟩
        refine steps_cons ?_ ?_
        · rintro b a w' ⟨pa, na, pb, nb, pc, nc, m12_, m16_, m27_, ha, Q_E, Q_Ea, Q_Eb, Q_Ec, Q_X12_, Q_X16_, Q_X27_⟩ hb_ hon hoff
          refine ⟨_, rfl, fun K hK => ?_⟩
          have e101 : a.tmps[101]? = some (.slice AP qs.length cP) := by rw [ha]; exact putSel_on (e := (14, 101, .slice AP qs.length cP)) 14 rfl rfl (hon 14 (by kernel_rfl)) rfl
          have e102 : a.tmps[102]? = some (.int .i64 sd) := by rw [ha]; exact putSel_on (e := (15, 102, .int .i64 sd)) 15 rfl rfl (hon 15 (by kernel_rfl)) rfl
          have e96 : a.tmps[96]? = some (.bool true) := by rw [ha]; exact putSel_on (e := (9, 96, .bool true)) 9 rfl rfl (hon 9 (by kernel_rfl)) rfl
          replace ha := Aside0.mk ha
          have E := Aside0.mk Q_E
          have Ea := Aside0.mk (Q_Ea (hon 12 (by kernel_rfl)))
          refine goes_ Tryd.func22 (by kernel_rfl) rfl #[.slice AP qs.length cP, .int .i64 sd] (wanted_on rfl rfl rfl (e96.trans (by first | rfl | (simp [*]; done)))) rfl rfl (by first | (simp only [List.map_toArray, List.map_cons, List.map_nil, Act.eval, Array.getD_eq_getD_getElem?, Option.getD_some, e101, e102, e96]; done) | (simp only [List.map_toArray, List.map_cons, List.map_nil, Act.eval, Array.getD_eq_getD_getElem?, Option.getD_some, e101, e102, e96]; rfl)) ?_
          refine (hP2.out AP cP _ (Kd.C_below G7.out.1.1 E.out) G7.out.1.2).mono ?_
          rintro e w24 ⟨A5_, c5_, rfl, hc5_, hC5_, hbe_⟩
          refine ⟨_, rfl, ?_⟩
          have S3_ : Kd.C B8 w24 A5_ pk.length pk := hC5_
          refine hK.out _ _ ⟨pa, na, A5_, c5_, pc, nc, m12_, (.slice A5_ pk.length c5_), m27_, (by rw [ha.out]; exact putSel_upk 16 hb_ rfl rfl rfl), below_step E.out hbe_, fun _ => Kd.C_below Ea.out hbe_, fun _ => S3_, fun h0_ => absurd ((hoff 27 (by kernel_rfl)).symm.trans h0_) (by decide), Q_X12_, fun _ => rfl, fun h0_ => absurd ((hoff 27 (by kernel_rfl)).symm.trans h0_) (by decide)⟩
        refine steps_cons ?_ ?_
        · rintro b a w' ⟨pa, na, pb, nb, pc, nc, m12_, m16_, m27_, ha, Q_E, Q_Ea, Q_Eb, Q_Ec, Q_X12_, Q_X16_, Q_X27_⟩ hb_ hon hoff
          refine ⟨_, rfl, fun K hK => ?_⟩
          have e103 : a.tmps[103]? = some (m16_) := by rw [ha]; exact putSel_on (e := (16, 103, m16_)) 16 rfl rfl (hon 16 (by kernel_rfl)) rfl
          rw [Q_X16_ (hon 16 (by kernel_rfl))] at e103
          have e96 : a.tmps[96]? = some (.bool true) := by rw [ha]; exact putSel_on (e := (9, 96, .bool true)) 9 rfl rfl (hon 9 (by kernel_rfl)) rfl
          replace ha := Aside0.mk ha
          have E := Aside0.mk Q_E
          have Ea := Aside0.mk (Q_Ea (hon 12 (by kernel_rfl)))
          have Eb := Aside0.mk (Q_Eb (hon 16 (by kernel_rfl)))
          have hcv_ := Kd.C_string (P := Tryd.prog) (c := nb) Tryd.underlying22 Tryd.underlying5 Tryd.underlying9 Eb.out
          refine value_ (w1 := w') (v := .string (strOfNums pk)) (wanted_on rfl rfl rfl (e96.trans (by first | rfl | (simp [*]; done)))) rfl ?_ ?_
          · go_simp
            (try simp only [i64_w])
            try rfl
          refine hK.out _ _ ⟨pa, na, pb, nb, pc, nc, m12_, m16_, m27_, (by rw [ha.out]; exact putSel_upk 17 hb_ rfl rfl rfl), Q_E, Q_Ea, Q_Eb, fun h0_ => absurd ((hoff 27 (by kernel_rfl)).symm.trans h0_) (by decide), Q_X12_, Q_X16_, fun h0_ => absurd ((hoff 27 (by kernel_rfl)).symm.trans h0_) (by decide)⟩
        refine steps_cons ?_ ?_
        · rintro b a w' ⟨pa, na, pb, nb, pc, nc, m12_, m16_, m27_, ha, Q_E, Q_Ea, Q_Eb, Q_Ec, Q_X12_, Q_X16_, Q_X27_⟩ hb_ hon hoff
          refine ⟨_, rfl, fun K hK => ?_⟩
          have e100 : a.tmps[100]? = some (.string (strOfNums pk)) := by rw [ha]; exact putSel_on (e := (13, 100, .string (strOfNums pk))) 13 rfl rfl (hon 13 (by kernel_rfl)) rfl
          have e104 : a.tmps[104]? = some (.string (strOfNums pk)) := by rw [ha]; exact putSel_on (e := (17, 104, .string (strOfNums pk))) 17 rfl rfl (hon 17 (by kernel_rfl)) rfl
          have e96 : a.tmps[96]? = some (.bool true) := by rw [ha]; exact putSel_on (e := (9, 96, .bool true)) 9 rfl rfl (hon 9 (by kernel_rfl)) rfl
          replace ha := Aside0.mk ha
          have E := Aside0.mk Q_E
          have Ea := Aside0.mk (Q_Ea (hon 12 (by kernel_rfl)))
          have Eb := Aside0.mk (Q_Eb (hon 16 (by kernel_rfl)))
          refine value_ (w1 := w') (v := .bool true) (wanted_on rfl rfl rfl (e96.trans (by first | rfl | (simp [*]; done)))) rfl ?_ ?_
          · go_simp
            (try simp only [i64_w])
            try rfl
          refine hK.out _ _ ⟨pa, na, pb, nb, pc, nc, m12_, m16_, m27_, (by rw [ha.out]; exact putSel_upk 18 hb_ rfl rfl rfl), Q_E, Q_Ea, Q_Eb, fun h0_ => absurd ((hoff 27 (by kernel_rfl)).symm.trans h0_) (by decide), Q_X12_, Q_X16_, fun h0_ => absurd ((hoff 27 (by kernel_rfl)).symm.trans h0_) (by decide)⟩
        refine steps_cons ?_ ?_
        · rintro b a w' ⟨pa, na, pb, nb, pc, nc, m12_, m16_, m27_, ha, Q_E, Q_Ea, Q_Eb, Q_Ec, Q_X12_, Q_X16_, Q_X27_⟩ hb_ hon hoff
          refine ⟨_, rfl, fun K hK => ?_⟩
          have e96 : a.tmps[96]? = some (.bool true) := by rw [ha]; exact putSel_on (e := (9, 96, .bool true)) 9 rfl rfl (hon 9 (by kernel_rfl)) rfl
          have e105 : a.tmps[105]? = some (.bool true) := by rw [ha]; exact putSel_on (e := (18, 105, .bool true)) 18 rfl rfl (hon 18 (by kernel_rfl)) rfl
          replace ha := Aside0.mk ha
          have E := Aside0.mk Q_E
          have Ea := Aside0.mk (Q_Ea (hon 12 (by kernel_rfl)))
          have Eb := Aside0.mk (Q_Eb (hon 16 (by kernel_rfl)))
          refine value_ (w1 := w') (v := .bool true) (by rfl) rfl ?_ ?_
          · go_simp
            (try simp only [i64_w])
            try rfl
          refine hK.out _ _ ⟨pa, na, pb, nb, pc, nc, m12_, m16_, m27_, (by rw [ha.out]; exact putSel_upk 19 hb_ rfl rfl rfl), Q_E, Q_Ea, Q_Eb, fun h0_ => absurd ((hoff 27 (by kernel_rfl)).symm.trans h0_) (by decide), Q_X12_, Q_X16_, fun h0_ => absurd ((hoff 27 (by kernel_rfl)).symm.trans h0_) (by decide)⟩
        refine steps_cons ?_ ?_
        · rintro b a w' ⟨pa, na, pb, nb, pc, nc, m12_, m16_, m27_, ha, Q_E, Q_Ea, Q_Eb, Q_Ec, Q_X12_, Q_X16_, Q_X27_⟩ hb_ hon hoff
          refine ⟨_, rfl, fun K hK => ?_⟩
          have e106 : a.tmps[106]? = some (.bool true) := by rw [ha]; exact putSel_on (e := (19, 106, .bool true)) 19 rfl rfl (hon 19 (by kernel_rfl)) rfl
          replace ha := Aside0.mk ha
          have E := Aside0.mk Q_E
          have Ea := Aside0.mk (Q_Ea (hon 12 (by kernel_rfl)))
          have Eb := Aside0.mk (Q_Eb (hon 16 (by kernel_rfl)))
          refine value_ (w1 := w') (v := .bool true) (by rfl) rfl ?_ ?_
          · go_simp
            (try simp only [i64_w])
            try rfl
          refine hK.out _ _ ⟨pa, na, pb, nb, pc, nc, m12_, m16_, m27_, (by rw [ha.out]; exact putSel_upk 20 hb_ rfl rfl rfl), Q_E, Q_Ea, Q_Eb, fun h0_ => absurd ((hoff 27 (by kernel_rfl)).symm.trans h0_) (by decide), Q_X12_, Q_X16_, fun h0_ => absurd ((hoff 27 (by kernel_rfl)).symm.trans h0_) (by decide)⟩
        refine steps_cons ?_ ?_
        · rintro b a w' ⟨pa, na, pb, nb, pc, nc, m12_, m16_, m27_, ha, Q_E, Q_Ea, Q_Eb, Q_Ec, Q_X12_, Q_X16_, Q_X27_⟩ hb_ hon hoff
          refine ⟨_, rfl, fun K hK => ?_⟩
          have e17 : a.tmps[17]? = some (.int .i64 0) := by rw [ha]; exact (putSel_off rfl).trans rfl
          have e107 : a.tmps[107]? = some (.bool true) := by rw [ha]; exact putSel_on (e := (20, 107, .bool true)) 20 rfl rfl (hon 20 (by kernel_rfl)) rfl
          replace ha := Aside0.mk ha
          have E := Aside0.mk Q_E
          have Ea := Aside0.mk (Q_Ea (hon 12 (by kernel_rfl)))
          have Eb := Aside0.mk (Q_Eb (hon 16 (by kernel_rfl)))
          refine value_ (w1 := w') (v := .int .i64 0) (wanted_on rfl rfl rfl (e107.trans (by first | rfl | (simp [*]; done)))) rfl ?_ ?_
          · go_simp
            (try simp only [i64_w])
            try rfl
          refine hK.out _ _ ⟨pa, na, pb, nb, pc, nc, m12_, m16_, m27_, (by rw [ha.out]; exact putSel_upk 21 hb_ rfl rfl rfl), Q_E, Q_Ea, Q_Eb, fun h0_ => absurd ((hoff 27 (by kernel_rfl)).symm.trans h0_) (by decide), Q_X12_, Q_X16_, fun h0_ => absurd ((hoff 27 (by kernel_rfl)).symm.trans h0_) (by decide)⟩
        refine steps_cons ?_ ?_
        · rintro b a w' ⟨pa, na, pb, nb, pc, nc, m12_, m16_, m27_, ha, Q_E, Q_Ea, Q_Eb, Q_Ec, Q_X12_, Q_X16_, Q_X27_⟩ hb_ hon hoff
          refine ⟨_, rfl, fun K hK => ?_⟩
          have e108 : a.tmps[108]? = some (.int .i64 0) := by rw [ha]; exact putSel_on (e := (21, 108, .int .i64 0)) 21 rfl rfl (hon 21 (by kernel_rfl)) rfl
          have e107 : a.tmps[107]? = some (.bool true) := by rw [ha]; exact putSel_on (e := (20, 107, .bool true)) 20 rfl rfl (hon 20 (by kernel_rfl)) rfl
          replace ha := Aside0.mk ha
          have E := Aside0.mk Q_E
          have Ea := Aside0.mk (Q_Ea (hon 12 (by kernel_rfl)))
          have Eb := Aside0.mk (Q_Eb (hon 16 (by kernel_rfl)))
          refine value_ (w1 := w') (v := .bool true) (wanted_on rfl rfl rfl (e107.trans (by first | rfl | (simp [*]; done)))) rfl ?_ ?_
          · go_simp
            (try simp only [i64_w])
            try rfl
          refine hK.out _ _ ⟨pa, na, pb, nb, pc, nc, m12_, m16_, m27_, (by rw [ha.out]; exact putSel_upk 22 hb_ rfl rfl rfl), Q_E, Q_Ea, Q_Eb, fun h0_ => absurd ((hoff 27 (by kernel_rfl)).symm.trans h0_) (by decide), Q_X12_, Q_X16_, fun h0_ => absurd ((hoff 27 (by kernel_rfl)).symm.trans h0_) (by decide)⟩
        refine steps_cons ?_ ?_
        · rintro b a w' ⟨pa, na, pb, nb, pc, nc, m12_, m16_, m27_, ha, Q_E, Q_Ea, Q_Eb, Q_Ec, Q_X12_, Q_X16_, Q_X27_⟩ hb_ hon hoff
          refine ⟨_, rfl, fun K hK => ?_⟩
          have e107 : a.tmps[107]? = some (.bool true) := by rw [ha]; exact putSel_on (e := (20, 107, .bool true)) 20 rfl rfl (hon 20 (by kernel_rfl)) rfl
          have e109 : a.tmps[109]? = some (.bool true) := by rw [ha]; exact putSel_on (e := (22, 109, .bool true)) 22 rfl rfl (hon 22 (by kernel_rfl)) rfl
          replace ha := Aside0.mk ha
          have E := Aside0.mk Q_E
          have Ea := Aside0.mk (Q_Ea (hon 12 (by kernel_rfl)))
          have Eb := Aside0.mk (Q_Eb (hon 16 (by kernel_rfl)))
          refine value_ (w1 := w') (v := .bool true) (by rfl) rfl ?_ ?_
          · go_simp
            (try simp only [i64_w])
            try rfl
          refine hK.out _ _ ⟨pa, na, pb, nb, pc, nc, m12_, m16_, m27_, (by rw [ha.out]; exact putSel_upk 23 hb_ rfl rfl rfl), Q_E, Q_Ea, Q_Eb, fun h0_ => absurd ((hoff 27 (by kernel_rfl)).symm.trans h0_) (by decide), Q_X12_, Q_X16_, fun h0_ => absurd ((hoff 27 (by kernel_rfl)).symm.trans h0_) (by decide)⟩
        refine steps_cons ?_ ?_
        · rintro b a w' ⟨pa, na, pb, nb, pc, nc, m12_, m16_, m27_, ha, Q_E, Q_Ea, Q_Eb, Q_Ec, Q_X12_, Q_X16_, Q_X27_⟩ hb_ hon hoff
          refine ⟨_, rfl, fun K hK => ?_⟩
          have e110 : a.tmps[110]? = some (.bool true) := by rw [ha]; exact putSel_on (e := (23, 110, .bool true)) 23 rfl rfl (hon 23 (by kernel_rfl)) rfl
          replace ha := Aside0.mk ha
          have E := Aside0.mk Q_E
          have Ea := Aside0.mk (Q_Ea (hon 12 (by kernel_rfl)))
          have Eb := Aside0.mk (Q_Eb (hon 16 (by kernel_rfl)))
          refine value_ (w1 := w') (v := .bool true) (by rfl) rfl ?_ ?_
          · go_simp
            (try simp only [i64_w])
            try rfl
          refine hK.out _ _ ⟨pa, na, pb, nb, pc, nc, m12_, m16_, m27_, (by rw [ha.out]; exact putSel_upk 24 hb_ rfl rfl rfl), Q_E, Q_Ea, Q_Eb, fun h0_ => absurd ((hoff 27 (by kernel_rfl)).symm.trans h0_) (by decide), Q_X12_, Q_X16_, fun h0_ => absurd ((hoff 27 (by kernel_rfl)).symm.trans h0_) (by decide)⟩
        refine steps_cons ?_ ?_
        · rintro b a w' ⟨pa, na, pb, nb, pc, nc, m12_, m16_, m27_, ha, Q_E, Q_Ea, Q_Eb, Q_Ec, Q_X12_, Q_X16_, Q_X27_⟩ hb_ hon hoff
          refine ⟨_, rfl, fun K hK => ?_⟩
          have e16 : a.tmps[16]? = some (.slice AO no cO) := by rw [ha]; exact (putSel_off rfl).trans rfl
          have e111 : a.tmps[111]? = some (.bool true) := by rw [ha]; exact putSel_on (e := (24, 111, .bool true)) 24 rfl rfl (hon 24 (by kernel_rfl)) rfl
          replace ha := Aside0.mk ha
          have E := Aside0.mk Q_E
          have Ea := Aside0.mk (Q_Ea (hon 12 (by kernel_rfl)))
          have Eb := Aside0.mk (Q_Eb (hon 16 (by kernel_rfl)))
          refine value_ (w1 := w') (v := .slice AO no cO) (wanted_on rfl rfl rfl (e111.trans (by first | rfl | (simp [*]; done)))) rfl ?_ ?_
          · go_simp
            (try simp only [i64_w])
            try rfl
          refine hK.out _ _ ⟨pa, na, pb, nb, pc, nc, m12_, m16_, m27_, (by rw [ha.out]; exact putSel_upk 25 hb_ rfl rfl rfl), Q_E, Q_Ea, Q_Eb, fun h0_ => absurd ((hoff 27 (by kernel_rfl)).symm.trans h0_) (by decide), Q_X12_, Q_X16_, fun h0_ => absurd ((hoff 27 (by kernel_rfl)).symm.trans h0_) (by decide)⟩
        refine steps_cons ?_ ?_
        · rintro b a w' ⟨pa, na, pb, nb, pc, nc, m12_, m16_, m27_, ha, Q_E, Q_Ea, Q_Eb, Q_Ec, Q_X12_, Q_X16_, Q_X27_⟩ hb_ hon hoff
          refine ⟨_, rfl, fun K hK => ?_⟩
          have e1 : a.tmps[1]? = some (.int .i64 sd) := by rw [ha]; exact (putSel_off rfl).trans rfl
          have e111 : a.tmps[111]? = some (.bool true) := by rw [ha]; exact putSel_on (e := (24, 111, .bool true)) 24 rfl rfl (hon 24 (by kernel_rfl)) rfl
          replace ha := Aside0.mk ha
          have E := Aside0.mk Q_E
          have Ea := Aside0.mk (Q_Ea (hon 12 (by kernel_rfl)))
          have Eb := Aside0.mk (Q_Eb (hon 16 (by kernel_rfl)))
          refine value_ (w1 := w') (v := .int .i64 sd) (wanted_on rfl rfl rfl (e111.trans (by first | rfl | (simp [*]; done)))) rfl ?_ ?_
          · go_simp
            (try simp only [i64_w])
            try rfl
          refine hK.out _ _ ⟨pa, na, pb, nb, pc, nc, m12_, m16_, m27_, (by rw [ha.out]; exact putSel_upk 26 hb_ rfl rfl rfl), Q_E, Q_Ea, Q_Eb, fun h0_ => absurd ((hoff 27 (by kernel_rfl)).symm.trans h0_) (by decide), Q_X12_, Q_X16_, fun h0_ => absurd ((hoff 27 (by kernel_rfl)).symm.trans h0_) (by decide)⟩
        refine steps_cons ?_ ?_
        · rintro b a w' ⟨pa, na, pb, nb, pc, nc, m12_, m16_, m27_, ha, Q_E, Q_Ea, Q_Eb, Q_Ec, Q_X12_, Q_X16_, Q_X27_⟩ hb_ hon hoff
          refine ⟨_, rfl, fun K hK => ?_⟩
          have e112 : a.tmps[112]? = some (.slice AO no cO) := by rw [ha]; exact putSel_on (e := (25, 112, .slice AO no cO)) 25 rfl rfl (hon 25 (by kernel_rfl)) rfl
          have e113 : a.tmps[113]? = some (.int .i64 sd) := by rw [ha]; exact putSel_on (e := (26, 113, .int .i64 sd)) 26 rfl rfl (hon 26 (by kernel_rfl)) rfl
          have e111 : a.tmps[111]? = some (.bool true) := by rw [ha]; exact putSel_on (e := (24, 111, .bool true)) 24 rfl rfl (hon 24 (by kernel_rfl)) rfl
          replace ha := Aside0.mk ha
          have E := Aside0.mk Q_E
          have Ea := Aside0.mk (Q_Ea (hon 12 (by kernel_rfl)))
          have Eb := Aside0.mk (Q_Eb (hon 16 (by kernel_rfl)))
          refine goes_ Tryd.func22 (by kernel_rfl) rfl #[.slice AO no cO, .int .i64 sd] (wanted_on rfl rfl rfl (e111.trans (by first | rfl | (simp [*]; done)))) rfl rfl (by first | (simp only [List.map_toArray, List.map_cons, List.map_nil, Act.eval, Array.getD_eq_getD_getElem?, Option.getD_some, e112, e113, e111]; done) | (simp only [List.map_toArray, List.map_cons, List.map_nil, Act.eval, Array.getD_eq_getD_getElem?, Option.getD_some, e112, e113, e111]; rfl)) ?_
          have hq_ := hP3.out AO cO w' (Kd.C_below G7.out.2.2.2.2.1 E.out) G7.out.2.2.2.2.2
          rw [hno.out] at hq_
          refine hq_.mono ?_
          rintro e w24 ⟨A5_, c5_, rfl, hc5_, hC5_, hbe_⟩
          refine ⟨_, rfl, ?_⟩
          have S3_ : Kd.C B8 w24 A5_ bb.length bb := hC5_
          refine hK.out _ _ ⟨pa, na, pb, nb, A5_, c5_, m12_, m16_, (.slice A5_ bb.length c5_), (by rw [ha.out]; exact putSel_upk 27 hb_ rfl rfl rfl), below_step E.out hbe_, fun _ => Kd.C_below Ea.out hbe_, fun _ => Kd.C_below Eb.out hbe_, fun _ => S3_, Q_X12_, Q_X16_, fun _ => rfl⟩
        refine steps_cons ?_ ?_
        · rintro b a w' ⟨pa, na, pb, nb, pc, nc, m12_, m16_, m27_, ha, Q_E, Q_Ea, Q_Eb, Q_Ec, Q_X12_, Q_X16_, Q_X27_⟩ hb_ hon hoff
          refine ⟨_, rfl, fun K hK => ?_⟩
          have e114 : a.tmps[114]? = some (m27_) := by rw [ha]; exact putSel_on (e := (27, 114, m27_)) 27 rfl rfl (hon 27 (by kernel_rfl)) rfl
          rw [Q_X27_ (hon 27 (by kernel_rfl))] at e114
          have e111 : a.tmps[111]? = some (.bool true) := by rw [ha]; exact putSel_on (e := (24, 111, .bool true)) 24 rfl rfl (hon 24 (by kernel_rfl)) rfl
          replace ha := Aside0.mk ha
          have E := Aside0.mk Q_E
          have Ea := Aside0.mk (Q_Ea (hon 12 (by kernel_rfl)))
          have Eb := Aside0.mk (Q_Eb (hon 16 (by kernel_rfl)))
          have Ec := Aside0.mk (Q_Ec (hon 27 (by kernel_rfl)))
          have hcv_ := Kd.C_string (P := Tryd.prog) (c := nc) Tryd.underlying22 Tryd.underlying5 Tryd.underlying9 Ec.out
          refine value_ (w1 := w') (v := .string (strOfNums bb)) (wanted_on rfl rfl rfl (e111.trans (by first | rfl | (simp [*]; done)))) rfl ?_ ?_
          · go_simp
            (try simp only [i64_w])
            try rfl
          refine hK.out _ _ ⟨pa, na, pb, nb, pc, nc, m12_, m16_, m27_, (by rw [ha.out]; exact putSel_upk 28 hb_ rfl rfl rfl), Q_E, Q_Ea, Q_Eb, Q_Ec, Q_X12_, Q_X16_, Q_X27_⟩
        refine steps_cons ?_ ?_
        · rintro b a w' ⟨pa, na, pb, nb, pc, nc, m12_, m16_, m27_, ha, Q_E, Q_Ea, Q_Eb, Q_Ec, Q_X12_, Q_X16_, Q_X27_⟩ hb_ hon hoff
          refine ⟨_, rfl, fun K hK => ?_⟩
          have e2 : a.tmps[2]? = some (.slice A2 bb.length c2) := by rw [ha]; exact (putSel_off rfl).trans rfl
          have e111 : a.tmps[111]? = some (.bool true) := by rw [ha]; exact putSel_on (e := (24, 111, .bool true)) 24 rfl rfl (hon 24 (by kernel_rfl)) rfl
          replace ha := Aside0.mk ha
          have E := Aside0.mk Q_E
          have Ea := Aside0.mk (Q_Ea (hon 12 (by kernel_rfl)))
          have Eb := Aside0.mk (Q_Eb (hon 16 (by kernel_rfl)))
          refine value_ (w1 := w') (v := .slice A2 bb.length c2) (wanted_on rfl rfl rfl (e111.trans (by first | rfl | (simp [*]; done)))) rfl ?_ ?_
          · go_simp
            (try simp only [i64_w])
            try rfl
          refine hK.out _ _ ⟨pa, na, pb, nb, pc, nc, m12_, m16_, m27_, (by rw [ha.out]; exact putSel_upk 29 hb_ rfl rfl rfl), Q_E, Q_Ea, Q_Eb, Q_Ec, Q_X12_, Q_X16_, Q_X27_⟩
        refine steps_cons ?_ ?_
        · rintro b a w' ⟨pa, na, pb, nb, pc, nc, m12_, m16_, m27_, ha, Q_E, Q_Ea, Q_Eb, Q_Ec, Q_X12_, Q_X16_, Q_X27_⟩ hb_ hon hoff
          refine ⟨_, rfl, fun K hK => ?_⟩
          have e116 : a.tmps[116]? = some (.slice A2 bb.length c2) := by rw [ha]; exact putSel_on (e := (29, 116, .slice A2 bb.length c2)) 29 rfl rfl (hon 29 (by kernel_rfl)) rfl
          have e111 : a.tmps[111]? = some (.bool true) := by rw [ha]; exact putSel_on (e := (24, 111, .bool true)) 24 rfl rfl (hon 24 (by kernel_rfl)) rfl
          replace ha := Aside0.mk ha
          have E := Aside0.mk Q_E
          have Ea := Aside0.mk (Q_Ea (hon 12 (by kernel_rfl)))
          have Eb := Aside0.mk (Q_Eb (hon 16 (by kernel_rfl)))
          have hcv_ := Kd.C_string (P := Tryd.prog) (c := c2) Tryd.underlying22 Tryd.underlying5 Tryd.underlying9 (Kd.C_below G7.out.2.1 E.out)
          refine value_ (w1 := w') (v := .string (strOfNums bb)) (wanted_on rfl rfl rfl (e111.trans (by first | rfl | (simp [*]; done)))) rfl ?_ ?_
          · go_simp
            (try simp only [i64_w])
            try rfl
          refine hK.out _ _ ⟨pa, na, pb, nb, pc, nc, m12_, m16_, m27_, (by rw [ha.out]; exact putSel_upk 30 hb_ rfl rfl rfl), Q_E, Q_Ea, Q_Eb, Q_Ec, Q_X12_, Q_X16_, Q_X27_⟩
        refine steps_cons ?_ ?_
        · rintro b a w' ⟨pa, na, pb, nb, pc, nc, m12_, m16_, m27_, ha, Q_E, Q_Ea, Q_Eb, Q_Ec, Q_X12_, Q_X16_, Q_X27_⟩ hb_ hon hoff
          refine ⟨_, rfl, fun K hK => ?_⟩
          have e115 : a.tmps[115]? = some (.string (strOfNums bb)) := by rw [ha]; exact putSel_on (e := (28, 115, .string (strOfNums bb))) 28 rfl rfl (hon 28 (by kernel_rfl)) rfl
          have e117 : a.tmps[117]? = some (.string (strOfNums bb)) := by rw [ha]; exact putSel_on (e := (30, 117, .string (strOfNums bb))) 30 rfl rfl (hon 30 (by kernel_rfl)) rfl
          have e111 : a.tmps[111]? = some (.bool true) := by rw [ha]; exact putSel_on (e := (24, 111, .bool true)) 24 rfl rfl (hon 24 (by kernel_rfl)) rfl
          replace ha := Aside0.mk ha
          have E := Aside0.mk Q_E
          have Ea := Aside0.mk (Q_Ea (hon 12 (by kernel_rfl)))
          have Eb := Aside0.mk (Q_Eb (hon 16 (by kernel_rfl)))
          have Ec := Aside0.mk (Q_Ec (hon 27 (by kernel_rfl)))
          refine value_ (w1 := w') (v := .bool true) (wanted_on rfl rfl rfl (e111.trans (by first | rfl | (simp [*]; done)))) rfl ?_ ?_
          · go_simp
            (try simp only [i64_w])
            try rfl
          refine hK.out _ _ ⟨pa, na, pb, nb, pc, nc, m12_, m16_, m27_, (by rw [ha.out]; exact putSel_upk 31 hb_ rfl rfl rfl), Q_E, Q_Ea, Q_Eb, Q_Ec, Q_X12_, Q_X16_, Q_X27_⟩
        refine steps_cons ?_ ?_
        · rintro b a w' ⟨pa, na, pb, nb, pc, nc, m12_, m16_, m27_, ha, Q_E, Q_Ea, Q_Eb, Q_Ec, Q_X12_, Q_X16_, Q_X27_⟩ hb_ hon hoff
          refine ⟨_, rfl, fun K hK => ?_⟩
          have e111 : a.tmps[111]? = some (.bool true) := by rw [ha]; exact putSel_on (e := (24, 111, .bool true)) 24 rfl rfl (hon 24 (by kernel_rfl)) rfl
          have e118 : a.tmps[118]? = some (.bool true) := by rw [ha]; exact putSel_on (e := (31, 118, .bool true)) 31 rfl rfl (hon 31 (by kernel_rfl)) rfl
          replace ha := Aside0.mk ha
          have E := Aside0.mk Q_E
          have Ea := Aside0.mk (Q_Ea (hon 12 (by kernel_rfl)))
          have Eb := Aside0.mk (Q_Eb (hon 16 (by kernel_rfl)))
          have Ec := Aside0.mk (Q_Ec (hon 27 (by kernel_rfl)))
          refine value_ (w1 := w') (v := .bool true) (by rfl) rfl ?_ ?_
          · go_simp
            (try simp only [i64_w])
            try rfl
          refine hK.out _ _ ⟨pa, na, pb, nb, pc, nc, m12_, m16_, m27_, (by rw [ha.out]; exact putSel_upk 32 hb_ rfl rfl rfl), Q_E, Q_Ea, Q_Eb, Q_Ec, Q_X12_, Q_X16_, Q_X27_⟩
        refine steps_cons ?_ ?_
        · rintro b a w' ⟨pa, na, pb, nb, pc, nc, m12_, m16_, m27_, ha, Q_E, Q_Ea, Q_Eb, Q_Ec, Q_X12_, Q_X16_, Q_X27_⟩ hb_ hon hoff
          refine ⟨_, rfl, fun K hK => ?_⟩
          have e119 : a.tmps[119]? = some (.bool true) := by rw [ha]; exact putSel_on (e := (32, 119, .bool true)) 32 rfl rfl (hon 32 (by kernel_rfl)) rfl
          replace ha := Aside0.mk ha
          have E := Aside0.mk Q_E
          have Ea := Aside0.mk (Q_Ea (hon 12 (by kernel_rfl)))
          have Eb := Aside0.mk (Q_Eb (hon 16 (by kernel_rfl)))
          have Ec := Aside0.mk (Q_Ec (hon 27 (by kernel_rfl)))
          refine value_ (w1 := w') (v := .bool true) (by rfl) rfl ?_ ?_
          · go_simp
            (try simp only [i64_w])
            try rfl
          refine hK.out _ _ ⟨pa, na, pb, nb, pc, nc, m12_, m16_, m27_, (by rw [ha.out]; exact putSel_upk 33 hb_ rfl rfl rfl), Q_E, Q_Ea, Q_Eb, Q_Ec, Q_X12_, Q_X16_, Q_X27_⟩
        refine steps_cons ?_ ?_
        · rintro b a w' ⟨pa, na, pb, nb, pc, nc, m12_, m16_, m27_, ha, Q_E, Q_Ea, Q_Eb, Q_Ec, Q_X12_, Q_X16_, Q_X27_⟩ hb_ hon hoff
          refine ⟨_, rfl, fun K hK => ?_⟩
          have e16 : a.tmps[16]? = some (.slice AO no cO) := by rw [ha]; exact (putSel_off rfl).trans rfl
          have e120 : a.tmps[120]? = some (.bool true) := by rw [ha]; exact putSel_on (e := (33, 120, .bool true)) 33 rfl rfl (hon 33 (by kernel_rfl)) rfl
          replace ha := Aside0.mk ha
          have E := Aside0.mk Q_E
          have Ea := Aside0.mk (Q_Ea (hon 12 (by kernel_rfl)))
          have Eb := Aside0.mk (Q_Eb (hon 16 (by kernel_rfl)))
          have Ec := Aside0.mk (Q_Ec (hon 27 (by kernel_rfl)))
          refine value_ (w1 := w') (v := .slice AO no cO) (wanted_on rfl rfl rfl (e120.trans (by first | rfl | (simp [*]; done)))) rfl ?_ ?_
          · go_simp
            (try simp only [i64_w])
            try rfl
          refine hK.out _ _ ⟨pa, na, pb, nb, pc, nc, m12_, m16_, m27_, (by rw [ha.out]; exact putSel_upk 34 hb_ rfl rfl rfl), Q_E, Q_Ea, Q_Eb, Q_Ec, Q_X12_, Q_X16_, Q_X27_⟩
        refine steps_cons ?_ ?_
        · rintro b a w' ⟨pa, na, pb, nb, pc, nc, m12_, m16_, m27_, ha, Q_E, Q_Ea, Q_Eb, Q_Ec, Q_X12_, Q_X16_, Q_X27_⟩ hb_ hon hoff
          refine ⟨_, rfl, fun K hK => ?_⟩
          have e121 : a.tmps[121]? = some (.slice AO no cO) := by rw [ha]; exact putSel_on (e := (34, 121, .slice AO no cO)) 34 rfl rfl (hon 34 (by kernel_rfl)) rfl
          have e120 : a.tmps[120]? = some (.bool true) := by rw [ha]; exact putSel_on (e := (33, 120, .bool true)) 33 rfl rfl (hon 33 (by kernel_rfl)) rfl
          replace ha := Aside0.mk ha
          have E := Aside0.mk Q_E
          have Ea := Aside0.mk (Q_Ea (hon 12 (by kernel_rfl)))
          have Eb := Aside0.mk (Q_Eb (hon 16 (by kernel_rfl)))
          have Ec := Aside0.mk (Q_Ec (hon 27 (by kernel_rfl)))
          refine value_ (w1 := w') (v := .int .i64 (no : Int)) (wanted_on rfl rfl rfl (e120.trans (by first | rfl | (simp [*]; done)))) rfl ?_ ?_
          · go_simp
            (try simp only [i64_w])
            try rfl
          refine hK.out _ _ ⟨pa, na, pb, nb, pc, nc, m12_, m16_, m27_, (by rw [ha.out]; exact putSel_upk 35 hb_ rfl rfl rfl), Q_E, Q_Ea, Q_Eb, Q_Ec, Q_X12_, Q_X16_, Q_X27_⟩
        refine steps_cons ?_ ?_
        · rintro b a w' ⟨pa, na, pb, nb, pc, nc, m12_, m16_, m27_, ha, Q_E, Q_Ea, Q_Eb, Q_Ec, Q_X12_, Q_X16_, Q_X27_⟩ hb_ hon hoff
          refine ⟨_, rfl, fun K hK => ?_⟩
          have e2 : a.tmps[2]? = some (.slice A2 bb.length c2) := by rw [ha]; exact (putSel_off rfl).trans rfl
          have e120 : a.tmps[120]? = some (.bool true) := by rw [ha]; exact putSel_on (e := (33, 120, .bool true)) 33 rfl rfl (hon 33 (by kernel_rfl)) rfl
          replace ha := Aside0.mk ha
          have E := Aside0.mk Q_E
          have Ea := Aside0.mk (Q_Ea (hon 12 (by kernel_rfl)))
          have Eb := Aside0.mk (Q_Eb (hon 16 (by kernel_rfl)))
          have Ec := Aside0.mk (Q_Ec (hon 27 (by kernel_rfl)))
          refine value_ (w1 := w') (v := .slice A2 bb.length c2) (wanted_on rfl rfl rfl (e120.trans (by first | rfl | (simp [*]; done)))) rfl ?_ ?_
          · go_simp
            (try simp only [i64_w])
            try rfl
          refine hK.out _ _ ⟨pa, na, pb, nb, pc, nc, m12_, m16_, m27_, (by rw [ha.out]; exact putSel_upk 36 hb_ rfl rfl rfl), Q_E, Q_Ea, Q_Eb, Q_Ec, Q_X12_, Q_X16_, Q_X27_⟩
        refine steps_cons ?_ ?_
        · rintro b a w' ⟨pa, na, pb, nb, pc, nc, m12_, m16_, m27_, ha, Q_E, Q_Ea, Q_Eb, Q_Ec, Q_X12_, Q_X16_, Q_X27_⟩ hb_ hon hoff
          refine ⟨_, rfl, fun K hK => ?_⟩
          have e123 : a.tmps[123]? = some (.slice A2 bb.length c2) := by rw [ha]; exact putSel_on (e := (36, 123, .slice A2 bb.length c2)) 36 rfl rfl (hon 36 (by kernel_rfl)) rfl
          have e120 : a.tmps[120]? = some (.bool true) := by rw [ha]; exact putSel_on (e := (33, 120, .bool true)) 33 rfl rfl (hon 33 (by kernel_rfl)) rfl
          replace ha := Aside0.mk ha
          have E := Aside0.mk Q_E
          have Ea := Aside0.mk (Q_Ea (hon 12 (by kernel_rfl)))
          have Eb := Aside0.mk (Q_Eb (hon 16 (by kernel_rfl)))
          have Ec := Aside0.mk (Q_Ec (hon 27 (by kernel_rfl)))
          refine value_ (w1 := w') (v := .int .i64 (bb.length : Int)) (wanted_on rfl rfl rfl (e120.trans (by first | rfl | (simp [*]; done)))) rfl ?_ ?_
          · go_simp
            (try simp only [i64_w])
            try rfl
          refine hK.out _ _ ⟨pa, na, pb, nb, pc, nc, m12_, m16_, m27_, (by rw [ha.out]; exact putSel_upk 37 hb_ rfl rfl rfl), Q_E, Q_Ea, Q_Eb, Q_Ec, Q_X12_, Q_X16_, Q_X27_⟩
        refine steps_cons ?_ ?_
        · rintro b a w' ⟨pa, na, pb, nb, pc, nc, m12_, m16_, m27_, ha, Q_E, Q_Ea, Q_Eb, Q_Ec, Q_X12_, Q_X16_, Q_X27_⟩ hb_ hon hoff
          refine ⟨_, rfl, fun K hK => ?_⟩
          have e124 : a.tmps[124]? = some (.int .i64 (bb.length : Int)) := by rw [ha]; exact putSel_on (e := (37, 124, .int .i64 (bb.length : Int))) 37 rfl rfl (hon 37 (by kernel_rfl)) rfl
          have e120 : a.tmps[120]? = some (.bool true) := by rw [ha]; exact putSel_on (e := (33, 120, .bool true)) 33 rfl rfl (hon 33 (by kernel_rfl)) rfl
          replace ha := Aside0.mk ha
          have E := Aside0.mk Q_E
          have Ea := Aside0.mk (Q_Ea (hon 12 (by kernel_rfl)))
          have Eb := Aside0.mk (Q_Eb (hon 16 (by kernel_rfl)))
          have Ec := Aside0.mk (Q_Ec (hon 27 (by kernel_rfl)))
          refine value_ (w1 := w') (v := .int .i64 (no : Int)) (wanted_on rfl rfl rfl (e120.trans (by first | rfl | (simp [*]; done)))) rfl ?_ ?_
          · go_simp
            (try simp only [i64_w])
            try rfl
          refine hK.out _ _ ⟨pa, na, pb, nb, pc, nc, m12_, m16_, m27_, (by rw [ha.out]; exact putSel_upk 38 hb_ rfl rfl rfl), Q_E, Q_Ea, Q_Eb, Q_Ec, Q_X12_, Q_X16_, Q_X27_⟩
        refine steps_cons ?_ ?_
        · rintro b a w' ⟨pa, na, pb, nb, pc, nc, m12_, m16_, m27_, ha, Q_E, Q_Ea, Q_Eb, Q_Ec, Q_X12_, Q_X16_, Q_X27_⟩ hb_ hon hoff
          refine ⟨_, rfl, fun K hK => ?_⟩
          have e122 : a.tmps[122]? = some (.int .i64 (no : Int)) := by rw [ha]; exact putSel_on (e := (35, 122, .int .i64 (no : Int))) 35 rfl rfl (hon 35 (by kernel_rfl)) rfl
          have e125 : a.tmps[125]? = some (.int .i64 (no : Int)) := by rw [ha]; exact putSel_on (e := (38, 125, .int .i64 (no : Int))) 38 rfl rfl (hon 38 (by kernel_rfl)) rfl
          have e120 : a.tmps[120]? = some (.bool true) := by rw [ha]; exact putSel_on (e := (33, 120, .bool true)) 33 rfl rfl (hon 33 (by kernel_rfl)) rfl
          replace ha := Aside0.mk ha
          have E := Aside0.mk Q_E
          have Ea := Aside0.mk (Q_Ea (hon 12 (by kernel_rfl)))
          have Eb := Aside0.mk (Q_Eb (hon 16 (by kernel_rfl)))
          have Ec := Aside0.mk (Q_Ec (hon 27 (by kernel_rfl)))
          refine value_ (w1 := w') (v := .bool true) (wanted_on rfl rfl rfl (e120.trans (by first | rfl | (simp [*]; done)))) rfl ?_ ?_
          · go_simp
            (try simp only [i64_w])
            try rfl
          refine hK.out _ _ ⟨pa, na, pb, nb, pc, nc, m12_, m16_, m27_, (by rw [ha.out]; exact putSel_upk 39 hb_ rfl rfl rfl), Q_E, Q_Ea, Q_Eb, Q_Ec, Q_X12_, Q_X16_, Q_X27_⟩
        refine steps_cons ?_ ?_
        · rintro b a w' ⟨pa, na, pb, nb, pc, nc, m12_, m16_, m27_, ha, Q_E, Q_Ea, Q_Eb, Q_Ec, Q_X12_, Q_X16_, Q_X27_⟩ hb_ hon hoff
          refine ⟨_, rfl, fun K hK => ?_⟩
          have e120 : a.tmps[120]? = some (.bool true) := by rw [ha]; exact putSel_on (e := (33, 120, .bool true)) 33 rfl rfl (hon 33 (by kernel_rfl)) rfl
          have e126 : a.tmps[126]? = some (.bool true) := by rw [ha]; exact putSel_on (e := (39, 126, .bool true)) 39 rfl rfl (hon 39 (by kernel_rfl)) rfl
          replace ha := Aside0.mk ha
          have E := Aside0.mk Q_E
          have Ea := Aside0.mk (Q_Ea (hon 12 (by kernel_rfl)))
          have Eb := Aside0.mk (Q_Eb (hon 16 (by kernel_rfl)))
          have Ec := Aside0.mk (Q_Ec (hon 27 (by kernel_rfl)))
          refine value_ (w1 := w') (v := .bool true) (by rfl) rfl ?_ ?_
          · go_simp
            (try simp only [i64_w])
            try rfl
          refine hK.out _ _ ⟨pa, na, pb, nb, pc, nc, m12_, m16_, m27_, (by rw [ha.out]; exact putSel_upk 40 hb_ rfl rfl rfl), Q_E, Q_Ea, Q_Eb, Q_Ec, Q_X12_, Q_X16_, Q_X27_⟩
        refine steps_cons ?_ ?_
        · rintro b a w' ⟨pa, na, pb, nb, pc, nc, m12_, m16_, m27_, ha, Q_E, Q_Ea, Q_Eb, Q_Ec, Q_X12_, Q_X16_, Q_X27_⟩ hb_ hon hoff
          refine ⟨_, rfl, fun K hK => ?_⟩
          have e127 : a.tmps[127]? = some (.bool true) := by rw [ha]; exact putSel_on (e := (40, 127, .bool true)) 40 rfl rfl (hon 40 (by kernel_rfl)) rfl
          replace ha := Aside0.mk ha
          have E := Aside0.mk Q_E
          have Ea := Aside0.mk (Q_Ea (hon 12 (by kernel_rfl)))
          have Eb := Aside0.mk (Q_Eb (hon 16 (by kernel_rfl)))
          have Ec := Aside0.mk (Q_Ec (hon 27 (by kernel_rfl)))
          refine value_ (w1 := w') (v := .bool true) (by rfl) rfl ?_ ?_
          · go_simp
            (try simp only [i64_w])
            try rfl
          refine hK.out _ _ ⟨pa, na, pb, nb, pc, nc, m12_, m16_, m27_, (by rw [ha.out]; exact putSel_upk 41 hb_ rfl rfl rfl), Q_E, Q_Ea, Q_Eb, Q_Ec, Q_X12_, Q_X16_, Q_X27_⟩
        exact steps_nil
      · rintro b a w' hall ⟨pa, na, pb, nb, pc, nc, m12_, m16_, m27_, ha, Q_E, Q_Ea, Q_Eb, Q_Ec, Q_X12_, Q_X16_, Q_X27_⟩
        clear E
        have hb0_ := hall 0 (by kernel_rfl)
        have hb1_ := hall 1 (by kernel_rfl)
        have hb2_ := hall 2 (by kernel_rfl)
        have hb3_ := hall 3 (by kernel_rfl)
        have hb4_ := hall 4 (by kernel_rfl)
        have hb5_ := hall 5 (by kernel_rfl)
        have hb6_ := hall 6 (by kernel_rfl)
        have hb7_ := hall 7 (by kernel_rfl)
        have hb8_ := hall 8 (by kernel_rfl)
        have hb9_ := hall 9 (by kernel_rfl)
        have hb10_ := hall 10 (by kernel_rfl)
        have hb11_ := hall 11 (by kernel_rfl)
        have hb12_ := hall 12 (by kernel_rfl)
        have hb13_ := hall 13 (by kernel_rfl)
        have hb14_ := hall 14 (by kernel_rfl)
        have hb15_ := hall 15 (by kernel_rfl)
        have hb16_ := hall 16 (by kernel_rfl)
        have hb17_ := hall 17 (by kernel_rfl)
        have hb18_ := hall 18 (by kernel_rfl)
        have hb19_ := hall 19 (by kernel_rfl)
        have hb20_ := hall 20 (by kernel_rfl)
        have hb21_ := hall 21 (by kernel_rfl)
        have hb22_ := hall 22 (by kernel_rfl)
        have hb23_ := hall 23 (by kernel_rfl)
        have hb24_ := hall 24 (by kernel_rfl)
        have hb25_ := hall 25 (by kernel_rfl)
        have hb26_ := hall 26 (by kernel_rfl)
        have hb27_ := hall 27 (by kernel_rfl)
        have hb28_ := hall 28 (by kernel_rfl)
        have hb29_ := hall 29 (by kernel_rfl)
        have hb30_ := hall 30 (by kernel_rfl)
        have hb31_ := hall 31 (by kernel_rfl)
        have hb32_ := hall 32 (by kernel_rfl)
        have hb33_ := hall 33 (by kernel_rfl)
        have hb34_ := hall 34 (by kernel_rfl)
        have hb35_ := hall 35 (by kernel_rfl)
        have hb36_ := hall 36 (by kernel_rfl)
        have hb37_ := hall 37 (by kernel_rfl)
        have hb38_ := hall 38 (by kernel_rfl)
        have hb39_ := hall 39 (by kernel_rfl)
        have hb40_ := hall 40 (by kernel_rfl)
        have hb41_ := hall 41 (by kernel_rfl)
        subst ha
        obtain rfl := Q_X12_ hb12_
        obtain rfl := Q_X16_ hb16_
        obtain rfl := Q_X27_ hb27_
        simp only [putSel, hb0_, hb1_, hb2_, hb3_, hb4_, hb5_, hb6_, hb7_, hb8_, hb9_, hb10_, hb11_, hb12_, hb13_, hb14_, hb15_, hb16_, hb17_, hb18_, hb19_, hb20_, hb21_, hb22_, hb23_, hb24_, hb25_, hb26_, hb27_, hb28_, hb29_, hb30_, hb31_, hb32_, hb33_, hb34_, hb35_, hb36_, hb37_, hb38_, hb39_, hb40_, hb41_, if_true, Act.put, List.setIfInBounds_toArray, List.set_cons_zero, List.set_cons_succ]
        have E := Aside0.mk Q_E
        clear Q_E
        have Ea := Aside0.mk (Q_Ea hb12_)
        clear Q_Ea
        have Eb := Aside0.mk (Q_Eb hb16_)
        clear Q_Eb
        have Ec := Aside0.mk (Q_Ec hb27_)
        clear Q_Ec
        clear hall hb0_ hb1_ hb2_ hb3_ hb4_ hb5_ hb6_ hb7_ hb8_ hb9_ hb10_ hb11_ hb12_ hb13_ hb14_ hb15_ hb16_ hb17_ hb18_ hb19_ hb20_ hb21_ hb22_ hb23_ hb24_ hb25_ hb26_ hb27_ hb28_ hb29_ hb30_ hb31_ hb32_ hb33_ hb34_ hb35_ hb36_ hb37_ hb38_ hb39_ hb40_ hb41_
        have HB := Aside0.mk (below_step G7.out.2.2.1 E.out)
        go_wp2
        go_ret
        exact ⟨rfl, HB.out⟩
end Go.Proofs.YtnnnbeimehfiiaaDoor.Q
