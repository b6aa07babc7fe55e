-- Written by a program of this session (wip/gen_plans.py) for this claim; Lean checks it.
import Derived.Test.YtfmlpkeaiohknaaDoorMSt
import Derived.Test.YtfmlpkeaiohknaaDoorMMk1
import Derived.Test.YtfmlpkeaiohknaaDoorMRof
import Derived.Test.YtfmlpkeaiohknaaDoorMTells
import Derived.Test.YtfmlpkeaiohknaaDoorQx3
set_option linter.unusedVariables false
set_option linter.unusedSimpArgs false
namespace Go.Proofs.YtfmlpkeaiohknaaDoor.Q
open Go.RowKit Go.Proofs.YtfmlpkeaiohknaaDoorW.PrintWords Go.Proofs.YtfmlpkeaiohknaaDoorW.PrintLast Go.Proofs.YtfmlpkeaiohknaaDoorW.PrintMore Go.Proofs.YtfmlpkeaiohknaaDoorW.SL
attribute [local go_sem] max2_int min2_int max_two min_two max_three min_three max_four min_four
def plans.T3 : Bool × List (List Nat × List Nat) := (true, [([], []), ([0], [0]), ([], []), ([2, 1], [2]), ([], []), ([], []), ([4, 1, 3, 0, 1, 4, 5], [1, 4]), ([5, 3, 6, 0, 1, 2, 3, 4, 5, 6], [3, 5])])
def plans.B3 : List Nat := [0, 1, 0, 7, 0, 0, 63, 127]
theorem plans.tab3 : rtab .any (opsOf Tryd.f3 3) = plans.T3 := by kernel_rfl
theorem plans.bits3 : waitsOk plans.T3.2 plans.B3 = true := by kernel_rfl
def plans.T9 : Bool × List (List Nat × List Nat) := (true, [([], []), ([0], [0]), ([], []), ([1, 2], [1, 2]), ([3], [3]), ([], []), ([5], [5]), ([], []), ([6, 7], [6, 7]), ([8], [8]), ([4, 9], [4, 9]), ([10], [10]), ([11, 10], [11]), ([12], [12]), ([13, 12], [12, 13]), ([12], [12]), ([14, 15, 12], [12, 14, 15]), ([16, 12], [12, 16]), ([12], [12]), ([18, 12], [12, 18]), ([12], [12]), ([19, 20, 12], [12, 19, 20]), ([21, 12], [12, 21]), ([17, 22, 12, 12], [12, 17, 22]), ([23, 12], [12, 23]), ([12, 24], [12, 24])])
def plans.B9 : List Nat := [0, 1, 0, 7, 15, 0, 32, 0, 224, 480, 1023, 2047, 4095, 8191, 16383, 8191, 65535, 131071, 8191, 270335, 8191, 1843199, 3940351, 8388607, 16777215, 33554431]
theorem plans.tab9 : rtab .any (opsOf Tryd.f3 9) = plans.T9 := by kernel_rfl
theorem plans.bits9 : waitsOk plans.T9.2 plans.B9 = true := by kernel_rfl
def plans.T11 : Bool × List (List Nat × List Nat) := (true, [([], []), ([0], [0]), ([], []), ([1, 2, 1], [1, 2]), ([3, 3], [3]), ([4], [4]), ([5, 4, 4], [4, 5]), ([4], [4]), ([6, 7, 6, 4], [4, 6, 7]), ([4, 8], [4, 8]), ([9, 8, 0, 1, 2, 3, 4, 5, 6, 7, 8, 9], [9])])
def plans.B11 : List Nat := [0, 1, 0, 7, 15, 31, 63, 31, 255, 511, 1023]
theorem plans.tab11 : rtab .any (opsOf Tryd.f3 11) = plans.T11 := by kernel_rfl
theorem plans.bits11 : waitsOk plans.T11.2 plans.B11 = true := by kernel_rfl
theorem tree_of (x : S24) (hn : nsz x ≤ 1000) : ∃ k, shape_Tree.f k (ofP x).N (ofP x).P (ofP x).Z (ofP x).K = some (x.f0, x.f1, x.f2, x.f3) := by
  obtain ⟨k, hk⟩ := copy_f _ x (Nat.le_refl _) (by omega)
  obtain ⟨q, hq⟩ := head_pre x []
  rw [List.append_nil] at hq
  refine ⟨k, ?_⟩
  unfold shape_Tree.f
  rw [ofP_N, hq, if_neg (by simp; omega), if_pos (by simp), show rd_T24 (x :: q) 0 = x from rfl, hk]
  rfl
theorem tree_nil : shape_Tree.f 0 [] [] [] [] = some (0, ⟨#[]⟩, ⟨#[]⟩, []) := by
  unfold shape_Tree.f
  simp
theorem ints_eq (a : List Int) (ha : a.length ≤ 1000000) : ∃ k, scarfref03_Same.f k a a = some true := by
  have hl : ∀ (d i : Nat), i + d = a.length → Ev (fun k => scarfref03_Same.l0 k a a (i : Int)) true := by
    intro d
    induction d with
    | zero =>
      intro i hi
      refine Ev.step (Ev.of fun k => ?_)
      rw [scarfref03_Same.l0, if_neg (by omega)]
    | succ d ih =>
      intro i hi
      refine Ev.step (Ev.congr (ih (i + 1) (by omega)) fun k => ?_)
      show scarfref03_Same.l0 (k + 1) _ _ _ = _
      rw [scarfref03_Same.l0, if_pos (by omega), if_pos (by omega), if_pos (by omega), if_pos rfl, w64 (by omega) (by omega)]
      rfl
  have h : Ev (fun k => scarfref03_Same.f k a a) true := by
    refine Ev.congr (hl a.length 0 (by omega)) fun k => ?_
    unfold scarfref03_Same.f
    rw [if_pos rfl]
    rfl
  exact h.has
theorem trees_eq (x : S24) (hn : nsz x ≤ 1000000) : ∃ k, scarfref05_Same.f k x.f0 x.f1 x.f2 x.f3 x.f0 x.f1 x.f2 x.f3 = some true := by
  obtain ⟨q, hq, hqe⟩ := same_ev x x hn
  obtain rfl := hqe.2 rfl
  exact hq.has
theorem C_zero {α : Type} (d : Kd α) (w : World) (A : Option Addr) : Kd.C d w A ([] : List α).length [] := ⟨rfl, Nat.zero_le _, fun h => absurd h (Nat.lt_irrefl _)⟩
/-- Where the rows of a plan lie. -/
structure A8 where
  an : Option Addr
  cn : Nat
  ap : Option Addr
  cp : Nat
  az : Option Addr
  cz : Nat
  ak : Option Addr
  ck : Nat
def A8.u (q : A8) (s : PS) : Array Value := #[.slice q.an s.N.length q.cn, .slice q.ap s.P.length q.cp, .slice q.az s.Z.length q.cz, .slice q.ak s.K.length q.ck]
def A8.F (q : A8) (s : PS) : List FA := [rdV k24 q.an q.cn s.N, rdV (Kd.int .i64) q.ap q.cp s.P, rdV (Kd.int .i64) q.az q.cz s.Z, rdV (Kd.slice 3 (Kd.int .i64)) q.ak q.ck s.K]
def pl3L (g1 g3 g4 : Nat) (T u3 u4 : Array Value) (b : Nat → Bool) : List Asr := [cond (b 4) (blk g3 30 (cond (b 6) u3 #[.slice none 0 0, .slice none 0 0, .slice none 0 0, .slice none 0 0])) emp, cond (b 5) (blk g4 32 (cond (b 7) u4 #[.slice none 0 0, .slice none 0 0, .slice none 0 0, .slice none 0 0])) emp, blk g1 24 T]
def pl3F (A0 : Option Addr) (c0 : Nat) (l : List S24) (s : PS) (p q : A8) (b : Nat → Bool) : List FA := cond (b 3) (q.F s) [] ++ (cond (b 1) (p.F s) [] ++ [rdV k24 A0 c0 l])
set_option maxHeartbeats 16000000 in
set_option maxRecDepth 100000 in
theorem plans_calls (x : S24) (A0 : Option Addr) (c0 : Nat) (w : World) (htab : TabOk w) (hr0 : Kd.C k24 w A0 x.f3.length x.f3) (hc0 : x.f3.length ≤ c0) (hR : ∀ y ∈ pre x, inR y) :
  Calls Tryd.prog 3 #[.agg #[.int .i64 x.f0, .string x.f1, .string x.f2, .slice A0 x.f3.length c0]] w fun e w' => e = .returned (.bool true) ∧ Below w.heap.size w w' := by
 obtain ⟨b, hb, hm⟩ := few_ev x 1000 (by omega) (by omega)
 obtain ⟨kf, hkf⟩ := hb.has
 replace hkf := Aside0.mk hkf
 have S : Stt w (fun k => k < w.heap.size) [] [rdV k24 A0 c0 x.f3] w := Stt.start w (by intro a ha; rw [List.mem_singleton] at ha; subst ha; exact ⟨hc0, Kd.C_F k24_heap hr0⟩)
 have htabB : ∀ w' : World, Below w.heap.size w w' → TabOk w' := fun w' h => tab_below htab h
 replace htabB := Aside0.mk htabB
 clear hr0 hc0 hR htab
 have hu24 := Tryd.underlying24
 have hu30 := Tryd.underlying30
 have hu32 := Tryd.underlying32
 cases b with
 | false =>
  go_enter Tryd.func3, Tryd.ntmps3
  go_wp2_with (first | ((with_reducible refine gate_dst (N := 1) rfl ?_); refine box_event ?hg (N := 1) ?hd (cs := #[.int .i64 x.f0, .string x.f1, .string x.f2, .slice A0 x.f3.length c0]) (t := 24) ?hr ?_; (case hd => rfl); (case hg => rfl); (case hr => first | (go_simp; done) | (go_simp; rfl)); intro g1 hg_ w1 hbox hb; replace S := S.box hg_ hbox hb; clear hbox hb hg_; obtain ⟨⟨g1_0, g1_1, g1_2, g1_3⟩, g1_4, g1_5, g1_6, g1_7⟩ := box4 (S.at_blk 0 rfl)) | ((with_reducible refine gate_callee (f := 8) rfl ?_); (with_reducible refine gate_dst (N := 7) rfl ?_); (try (refine gate_guard (by rfl) ?_; dsimp only)); refine goesL_ (some 7) rfl rfl Tryd.func8 (by kernel_rfl) rfl #[.agg #[.int .i64 x.f0, .string x.f1, .string x.f2, .slice A0 x.f3.length c0], .int .i64 1000] rfl (by (try simp only [List.map_toArray, List.map_cons, List.map_nil]); first | done | rfl) ?_; refine (scarflaw10_few.calls kf x.f0 x.f1 x.f2 A0 c0 x.f3 1000 false _ (S.rdC 0 rfl) (S.rdL 0 rfl) hkf.out).mono ?_; rintro e w2 ⟨rfl, hb⟩; refine ⟨_, rfl, ?_⟩; replace S := S.keep hb; clear hb; clear g1_0 g1_1 g1_2 g1_3 g1_4 g1_5 g1_6 g1_7; obtain ⟨⟨g1_0, g1_1, g1_2, g1_3⟩, g1_4, g1_5, g1_6, g1_7⟩ := box4 (S.at_blk 0 rfl)) | ((with_reducible refine gate_callee (f := 9) rfl ?_); (with_reducible refine gate_dst (N := 9) rfl ?_); (try (refine gate_guard (by rfl) ?_; dsimp only)); refine goesL_ (some 9) rfl rfl Tryd.func9 (by kernel_rfl) rfl #[] rfl (by (try simp only [List.map_toArray, List.map_cons, List.map_nil]); first | done | rfl) ?_; refine (scarflaw10_known.calls 20 true _ (htabB.out _ S.below) known_at rfl).mono ?_; rintro e w3 ⟨rfl, hb⟩; refine ⟨_, rfl, ?_⟩; replace S := S.keep hb; clear hb; clear g1_0 g1_1 g1_2 g1_3 g1_4 g1_5 g1_6 g1_7; obtain ⟨⟨g1_0, g1_1, g1_2, g1_3⟩, g1_4, g1_5, g1_6, g1_7⟩ := box4 (S.at_blk 0 rfl)))
  refine bodyPost_ret (results_tmp (t := 2) rfl _ _ _) rfl ?_
  exact ⟨rfl, S.below⟩
 | true =>
  obtain ⟨hn, _⟩ := hm rfl
  clear hm hb
  obtain ⟨kt, hkt⟩ := tree_of x (by omega)
  obtain ⟨ks, hks⟩ := trees_eq x (by omega)
  have hof : shape_Of.f x.f0 x.f1 x.f2 x.f3 = some ((ofP x).N, (ofP x).P, (ofP x).Z, (ofP x).K) := by
   unfold shape_Of.f; cases x; exact if_pos (by simp only at *; omega)
  obtain ⟨hw1, _, hlay⟩ := addN_lay x (-1) ⟨[], [], [], []⟩ ⟨rfl, rfl, rfl⟩
  have hNl : (ofP x).N.length = nsz x := by rw [ofP_N, pre_len]
  have hPl : (ofP x).P.length = nsz x := hw1.p.trans hNl
  have hZl : (ofP x).Z.length = nsz x := hw1.z.trans hNl
  have hKl : (ofP x).K.length = nsz x := hw1.k.trans hNl
  have hKb : ∀ (i : Nat) (l : List Int), (ofP x).K[i]? = some l → l.length ≤ 1000000 := fun i l h => by
   have h1 := sumK_mem h
   have h2 := addN_sum x (-1) ⟨[], [], [], []⟩
   have h3 : sumK ([] : List (List Int)) = 0 := rfl
   have h4 : sumK (ofP x).K + 1 ≤ sumK ([] : List (List Int)) + nsz x := h2
   omega
  have hNs : ∀ (i : Nat) (y : S24), (ofP x).N[i]? = some y → nsz y ≤ 1000000 := fun i y h => by have := sub_szN x h; omega
  obtain ⟨kp, hkp⟩ := ints_eq (ofP x).P (by omega)
  obtain ⟨kz, hkz⟩ := ints_eq (ofP x).Z (by omega)
  have hm1 : (nsz x : Int) ≤ 1001 := by omega
  clear hw1 hlay
  have hro := rof_calls x 1001 hm1 (by omega) A0 c0
  obtain ⟨s, hs⟩ : ∃ s, s = ofP x := ⟨_, rfl⟩
  rw [← hs] at hof hkt hNl hPl hZl hKl hKb hNs hkp hkz hro
  obtain ⟨n, hnn⟩ : ∃ n, n = nsz x := ⟨_, rfl⟩
  rw [← hnn] at hNl hPl hZl hKl hn
  have hn0 : 0 < n := by rw [hnn]; exact nsz_pos x
  clear hs hnn hm1
  replace hof := Aside0.mk hof
  replace hkt := Aside0.mk hkt
  replace hks := Aside0.mk hks
  replace hkp := Aside0.mk hkp
  replace hkz := Aside0.mk hkz
  replace hNl := Aside0.mk hNl
  replace hPl := Aside0.mk hPl
  replace hZl := Aside0.mk hZl
  replace hKl := Aside0.mk hKl
  replace hKb := Aside0.mk hKb
  replace hNs := Aside0.mk hNs
  replace hro := Aside0.mk hro
  go_enter Tryd.func3, Tryd.ntmps3
  go_wp2_with (first | ((with_reducible refine gate_dst (N := 1) rfl ?_); refine box_event ?hg (N := 1) ?hd (cs := #[.int .i64 x.f0, .string x.f1, .string x.f2, .slice A0 x.f3.length c0]) (t := 24) ?hr ?_; (case hd => rfl); (case hg => rfl); (case hr => first | (go_simp; done) | (go_simp; rfl)); intro g1 hg_ w1 hbox hb; replace S := S.box hg_ hbox hb; clear hbox hb hg_; obtain ⟨⟨g1_0, g1_1, g1_2, g1_3⟩, g1_4, g1_5, g1_6, g1_7⟩ := box4 (S.at_blk 0 rfl)) | ((with_reducible refine gate_callee (f := 8) rfl ?_); (with_reducible refine gate_dst (N := 7) rfl ?_); (try (refine gate_guard (by rfl) ?_; dsimp only)); refine goesL_ (some 7) rfl rfl Tryd.func8 (by kernel_rfl) rfl #[.agg #[.int .i64 x.f0, .string x.f1, .string x.f2, .slice A0 x.f3.length c0], .int .i64 1000] rfl (by (try simp only [List.map_toArray, List.map_cons, List.map_nil]); first | done | rfl) ?_; refine (scarflaw10_few.calls kf x.f0 x.f1 x.f2 A0 c0 x.f3 1000 true _ (S.rdC 0 rfl) (S.rdL 0 rfl) hkf.out).mono ?_; rintro e w2 ⟨rfl, hb⟩; refine ⟨_, rfl, ?_⟩; replace S := S.keep hb; clear hb; clear g1_0 g1_1 g1_2 g1_3 g1_4 g1_5 g1_6 g1_7; obtain ⟨⟨g1_0, g1_1, g1_2, g1_3⟩, g1_4, g1_5, g1_6, g1_7⟩ := box4 (S.at_blk 0 rfl)))
  replace S := S.keep (below_drew1 (Below.refl w2.heap.size w2))
  have E : Stt w (fun k => k < w.heap.size) (pl3L g1 0 0 #[.int .i64 x.f0, .string x.f1, .string x.f2, .slice A0 x.f3.length c0] (A8.u ⟨none, 0, none, 0, none, 0, none, 0⟩ s) (A8.u ⟨none, 0, none, 0, none, 0, none, 0⟩ s) (fun _ => false)) (pl3F A0 c0 x.f3 s ⟨none, 0, none, 0, none, 0, none, 0⟩ ⟨none, 0, none, 0, none, 0, none, 0⟩ (fun _ => false)) w2.drew := S.with (S.st.emp_new.emp_new)
  clear S g1_0 g1_1 g1_2 g1_3 g1_4 g1_5 g1_6 g1_7
  refine start_ (n := 8) (S := fun w' => True) (ds := []) #[false, false, false, false, false, false, false, false] (by kernel_rfl) rfl rfl trivial (fun hHeld => ?_)
  refine with_tabW plans.tab3 plans.bits3 (fun HT_ HW_ => ?_)
  generalize w2.drew = w3 at E hHeld ⊢
  refine inv_at [0, 1, 2, 3, 4, 5, 6, 7] (fun a0_ b a w' => ∃ (ZZ : Nat → Prop) (g3 : Nat) (g4 : Nat) (p8 : A8) (q8 : A8) (m1_ : Value) (m3_ : Value) (m4_ : Value) (m5_ : Value), a = putSel a0_ b [(0, 10, (.agg #[.int .i64 x.f0, .string x.f1, .string x.f2, .slice A0 x.f3.length c0] : Value)), (1, 11, m1_), (2, 12, (.agg #[.int .i64 x.f0, .string x.f1, .string x.f2, .slice A0 x.f3.length c0] : Value)), (3, 13, m3_), (4, 3, m4_), (5, 4, m5_)] ∧ ((Stt w ZZ (pl3L g1 g3 g4 #[.int .i64 x.f0, .string x.f1, .string x.f2, .slice A0 x.f3.length c0] (A8.u p8 s) (A8.u q8 s) b) (pl3F A0 c0 x.f3 s p8 q8 b) w')) ∧ (b 1 = true → (m1_ : Value) = (.agg (A8.u p8 s))) ∧ (b 3 = true → (m3_ : Value) = (.agg (A8.u q8 s))) ∧ (b 4 = true → (m4_ : Value) = .pointer (some ⟨g3, 0, none⟩)) ∧ (b 5 = true → (m5_ : Value) = .pointer (some ⟨g4, 0, none⟩))) HT_.out HW_.out (by kernel_rfl) (by kernel_rfl) ?_ ?_ ?_
  · exact ⟨(fun k => k < w.heap.size), 0, 0, ⟨none, 0, none, 0, none, 0, none, 0⟩, ⟨none, 0, none, 0, none, 0, none, 0⟩, .bool false, .bool false, .bool false, .bool false, by simp only [putSel, Bool.false_eq_true, if_false], E, fun h_ => absurd h_ (by decide), fun h_ => absurd h_ (by decide), fun h_ => absurd h_ (by decide), fun h_ => absurd h_ (by decide)⟩
  · skip
    clear E
    refine steps_cons ?_ ?_
    · rintro b a w' ⟨ZZ, g3, g4, p8, q8, m1_, m3_, m4_, m5_, ha, Q_E, Q_X1_, Q_X3_, Q_X4_, Q_X5_⟩ hb_ hon hoff
      refine ⟨_, rfl, fun K hK => ?_⟩
      have e1 : a.tmps[1]? = some (.pointer (some ⟨g1, 0, none⟩)) := by rw [ha]; exact (putSel_off rfl).trans rfl
      replace ha := Aside0.mk ha
      have E := Aside0.mk Q_E
      obtain ⟨⟨hc0_, hc1_, hc2_, hc3_⟩, _⟩ := box4 (E.out.at_blk 2 rfl)
      refine value_ (w1 := w') (v := (.agg #[.int .i64 x.f0, .string x.f1, .string x.f2, .slice A0 x.f3.length c0] : Value)) (by rfl) rfl ?_ ?_
      · go_simp
        (try simp only [i64_w])
        try rfl
      refine hK.out _ _ ⟨ZZ, g3, g4, p8, q8, m1_, m3_, m4_, m5_, (by rw [ha.out]; exact putSel_upk 0 hb_ rfl rfl rfl), Q_E, fun h0_ => absurd ((hoff 1 (by kernel_rfl)).symm.trans h0_) (by decide), fun h0_ => absurd ((hoff 3 (by kernel_rfl)).symm.trans h0_) (by decide), Q_X4_, Q_X5_⟩
    refine steps_cons ?_ ?_
    · rintro b a w' ⟨ZZ, g3, g4, p8, q8, m1_, m3_, m4_, m5_, ha, Q_E, Q_X1_, Q_X3_, Q_X4_, Q_X5_⟩ hb_ hon hoff
      refine ⟨_, rfl, fun K hK => ?_⟩
      have e10 : a.tmps[10]? = some ((.agg #[.int .i64 x.f0, .string x.f1, .string x.f2, .slice A0 x.f3.length c0] : Value)) := by rw [ha]; exact putSel_on (e := (0, 10, (.agg #[.int .i64 x.f0, .string x.f1, .string x.f2, .slice A0 x.f3.length c0] : Value))) 0 rfl rfl (hon 0 (by kernel_rfl)) rfl
      replace ha := Aside0.mk ha
      have E := Aside0.mk Q_E
      refine goes_ Tryd.func10 (by kernel_rfl) rfl #[.agg #[.int .i64 x.f0, .string x.f1, .string x.f2, .slice A0 x.f3.length c0]] (by rfl) rfl rfl (by first | (simp only [List.map_toArray, List.map_cons, List.map_nil, Act.eval, Array.getD_eq_getD_getElem?, Option.getD_some, e10]; done) | (simp only [List.map_toArray, List.map_cons, List.map_nil, Act.eval, Array.getD_eq_getD_getElem?, Option.getD_some, e10]; rfl)) ?_
      refine (shape_Of.calls x.f0 x.f1 x.f2 A0 c0 x.f3 _ _ _ _ _ (E.out.rdC 0 (by simp only [pl3F, hb_, (hoff 3 (by kernel_rfl))]; rfl)) (E.out.rdL 0 (by simp only [pl3F, hb_, (hoff 3 (by kernel_rfl))]; rfl)) hof.out).mono ?_
      rintro e w20 ⟨v0_, v1_, v2_, v3_, rfl, ho0, ho1, ho2, ho3, hb⟩
      obtain ⟨a0_, c0_, rfl, r0⟩ := rd_N ho0 (fun k hk => hk.1)
      obtain ⟨a1_, c1_, rfl, r1⟩ := rd_R ho1
      obtain ⟨a2_, c2_, rfl, r2⟩ := rd_R ho2
      obtain ⟨a3_, c3_, rfl, r3⟩ := rd_S ho3
      refine ⟨_, rfl, ?_⟩
      have E2_ := E.out.call hb (F' := A8.F ⟨a0_, c0_, a1_, c1_, a2_, c2_, a3_, c3_⟩ s) (by intro a ha; simp only [A8.F, List.mem_cons, List.not_mem_nil, or_false] at ha; rcases ha with rfl | rfl | rfl | rfl <;> first | exact r0 | exact r1 | exact r2 | exact r3)
      have E3_ : (Stt w (fun k => ZZ k ∨ (w'.heap.size ≤ k ∧ k < w20.heap.size)) (pl3L g1 g3 g4 #[.int .i64 x.f0, .string x.f1, .string x.f2, .slice A0 x.f3.length c0] (A8.u ⟨a0_, c0_, a1_, c1_, a2_, c2_, a3_, c3_⟩ s) (A8.u q8 s) (up b 1)) (pl3F A0 c0 x.f3 s ⟨a0_, c0_, a1_, c1_, a2_, c2_, a3_, c3_⟩ q8 (up b 1)) w20) := by have h_ := E2_; simp only [pl3F, pl3L, List.cons_append, List.nil_append, List.append_nil, List.set_cons_zero, List.set_cons_succ, List.setIfInBounds_toArray, up, Nat.reduceEqDiff, reduceIte, cond_true, cond_false, hb_, (hoff 3 (by kernel_rfl)), (hoff 6 (by kernel_rfl)), (hoff 7 (by kernel_rfl))] at h_ ⊢; exact h_
      refine hK.out _ _ ⟨(fun k => ZZ k ∨ (w'.heap.size ≤ k ∧ k < w20.heap.size)), g3, g4, ⟨a0_, c0_, a1_, c1_, a2_, c2_, a3_, c3_⟩, q8, ((.agg (A8.u ⟨a0_, c0_, a1_, c1_, a2_, c2_, a3_, c3_⟩ s))), m3_, m4_, m5_, (by rw [ha.out]; exact putSel_upk 1 hb_ rfl rfl rfl), E3_, fun _ => rfl, fun h0_ => absurd ((hoff 3 (by kernel_rfl)).symm.trans h0_) (by decide), Q_X4_, Q_X5_⟩
    refine steps_cons ?_ ?_
    · rintro b a w' ⟨ZZ, g3, g4, p8, q8, m1_, m3_, m4_, m5_, ha, Q_E, Q_X1_, Q_X3_, Q_X4_, Q_X5_⟩ hb_ hon hoff
      refine ⟨_, rfl, fun K hK => ?_⟩
      have e1 : a.tmps[1]? = some (.pointer (some ⟨g1, 0, none⟩)) := by rw [ha]; exact (putSel_off rfl).trans rfl
      replace ha := Aside0.mk ha
      have E := Aside0.mk Q_E
      obtain ⟨⟨hc0_, hc1_, hc2_, hc3_⟩, _⟩ := box4 (E.out.at_blk 2 rfl)
      refine value_ (w1 := w') (v := (.agg #[.int .i64 x.f0, .string x.f1, .string x.f2, .slice A0 x.f3.length c0] : Value)) (by rfl) rfl ?_ ?_
      · go_simp
        (try simp only [i64_w])
        try rfl
      refine hK.out _ _ ⟨ZZ, g3, g4, p8, q8, m1_, m3_, m4_, m5_, (by rw [ha.out]; exact putSel_upk 2 hb_ rfl rfl rfl), Q_E, Q_X1_, fun h0_ => absurd ((hoff 3 (by kernel_rfl)).symm.trans h0_) (by decide), Q_X4_, Q_X5_⟩
    refine steps_cons ?_ ?_
    · rintro b a w' ⟨ZZ, g3, g4, p8, q8, m1_, m3_, m4_, m5_, ha, Q_E, Q_X1_, Q_X3_, Q_X4_, Q_X5_⟩ hb_ hon hoff
      refine ⟨_, rfl, fun K hK => ?_⟩
      have e12 : a.tmps[12]? = some ((.agg #[.int .i64 x.f0, .string x.f1, .string x.f2, .slice A0 x.f3.length c0] : Value)) := by rw [ha]; exact putSel_on (e := (2, 12, (.agg #[.int .i64 x.f0, .string x.f1, .string x.f2, .slice A0 x.f3.length c0] : Value))) 2 rfl rfl (hon 2 (by kernel_rfl)) rfl
      replace ha := Aside0.mk ha
      have E := Aside0.mk Q_E
      refine goes_ Tryd.func11 (by kernel_rfl) rfl #[.agg #[.int .i64 x.f0, .string x.f1, .string x.f2, .slice A0 x.f3.length c0], .int .i64 1001] (by rfl) rfl rfl (by first | (simp only [List.map_toArray, List.map_cons, List.map_nil, Act.eval, Array.getD_eq_getD_getElem?, Option.getD_some, e12]; done) | (simp only [List.map_toArray, List.map_cons, List.map_nil, Act.eval, Array.getD_eq_getD_getElem?, Option.getD_some, e12]; rfl)) ?_
      refine (hro.out _ ZZ E.out.st.zlt (E.out.rdL 4 (by simp only [pl3F, hb_, (hon 1 (by kernel_rfl))]; rfl)) (E.out.rd 4 (by simp only [pl3F, hb_, (hon 1 (by kernel_rfl))]; rfl)).2).mono ?_
      rintro e w20 ⟨a0_, c0_, a1_, c1_, a2_, c2_, a3_, c3_, rfl, hpr, hb⟩
      refine ⟨_, rfl, ?_⟩
      have E2_ := E.out.callZ hb (F' := A8.F ⟨a0_, c0_, a1_, c1_, a2_, c2_, a3_, c3_⟩ s) hpr.f
      have E3_ : (Stt w (fun k => ZZ k ∨ (w'.heap.size ≤ k ∧ k < w20.heap.size)) (pl3L g1 g3 g4 #[.int .i64 x.f0, .string x.f1, .string x.f2, .slice A0 x.f3.length c0] (A8.u p8 s) (A8.u ⟨a0_, c0_, a1_, c1_, a2_, c2_, a3_, c3_⟩ s) (up b 3)) (pl3F A0 c0 x.f3 s p8 ⟨a0_, c0_, a1_, c1_, a2_, c2_, a3_, c3_⟩ (up b 3)) w20) := by have h_ := E2_; simp only [pl3F, pl3L, List.cons_append, List.nil_append, List.append_nil, List.set_cons_zero, List.set_cons_succ, List.setIfInBounds_toArray, up, Nat.reduceEqDiff, reduceIte, cond_true, cond_false, hb_, (hon 1 (by kernel_rfl)), (hoff 6 (by kernel_rfl)), (hoff 7 (by kernel_rfl))] at h_ ⊢; exact h_
      refine hK.out _ _ ⟨(fun k => ZZ k ∨ (w'.heap.size ≤ k ∧ k < w20.heap.size)), g3, g4, p8, ⟨a0_, c0_, a1_, c1_, a2_, c2_, a3_, c3_⟩, m1_, ((.agg (A8.u ⟨a0_, c0_, a1_, c1_, a2_, c2_, a3_, c3_⟩ s))), m4_, m5_, (by rw [ha.out]; exact putSel_upk 3 hb_ rfl rfl rfl), E3_, Q_X1_, fun _ => rfl, Q_X4_, Q_X5_⟩
    refine steps_cons ?_ ?_
    · rintro b a w' ⟨ZZ, g3, g4, p8, q8, m1_, m3_, m4_, m5_, ha, Q_E, Q_X1_, Q_X3_, Q_X4_, Q_X5_⟩ hb_ hon hoff
      refine ⟨_, rfl, fun K hK => ?_⟩
      replace ha := Aside0.mk ha
      have E := Aside0.mk Q_E
      refine value_ (w1 := w'.alloc (.cells #[.slice none 0 0, .slice none 0 0, .slice none 0 0, .slice none 0 0] 30)) (v := .pointer (some ⟨w'.heap.size, 0, none⟩)) (by rfl) rfl ?_ ?_
      · go_simp
        try rfl
      have E2_ := E.out.newAt 0 (by simp only [pl3L, hb_]; rfl) #[.slice none 0 0, .slice none 0 0, .slice none 0 0, .slice none 0 0] 30
      have E3_ : (Stt w ZZ (pl3L g1 w'.heap.size g4 #[.int .i64 x.f0, .string x.f1, .string x.f2, .slice A0 x.f3.length c0] (A8.u p8 s) (A8.u q8 s) (up b 4)) (pl3F A0 c0 x.f3 s p8 q8 (up b 4)) (w'.alloc (.cells #[.slice none 0 0, .slice none 0 0, .slice none 0 0, .slice none 0 0] 30))) := by have h_ := E2_; simp only [pl3F, pl3L, List.cons_append, List.nil_append, List.append_nil, List.set_cons_zero, List.set_cons_succ, List.setIfInBounds_toArray, up, Nat.reduceEqDiff, reduceIte, cond_true, cond_false, hb_, (hoff 6 (by kernel_rfl))] at h_ ⊢; exact h_
      refine hK.out _ _ ⟨ZZ, w'.heap.size, g4, p8, q8, m1_, m3_, (.pointer (some ⟨w'.heap.size, 0, none⟩)), m5_, (by rw [ha.out]; exact putSel_upk 4 hb_ rfl rfl rfl), E3_, Q_X1_, Q_X3_, fun _ => rfl, Q_X5_⟩
    refine steps_cons ?_ ?_
    · rintro b a w' ⟨ZZ, g3, g4, p8, q8, m1_, m3_, m4_, m5_, ha, Q_E, Q_X1_, Q_X3_, Q_X4_, Q_X5_⟩ hb_ hon hoff
      refine ⟨_, rfl, fun K hK => ?_⟩
      replace ha := Aside0.mk ha
      have E := Aside0.mk Q_E
      refine value_ (w1 := w'.alloc (.cells #[.slice none 0 0, .slice none 0 0, .slice none 0 0, .slice none 0 0] 32)) (v := .pointer (some ⟨w'.heap.size, 0, none⟩)) (by rfl) rfl ?_ ?_
      · go_simp
        try rfl
      have E2_ := E.out.newAt 1 (by simp only [pl3L, hb_]; rfl) #[.slice none 0 0, .slice none 0 0, .slice none 0 0, .slice none 0 0] 32
      have E3_ : (Stt w ZZ (pl3L g1 g3 w'.heap.size #[.int .i64 x.f0, .string x.f1, .string x.f2, .slice A0 x.f3.length c0] (A8.u p8 s) (A8.u q8 s) (up b 5)) (pl3F A0 c0 x.f3 s p8 q8 (up b 5)) (w'.alloc (.cells #[.slice none 0 0, .slice none 0 0, .slice none 0 0, .slice none 0 0] 32))) := by have h_ := E2_; simp only [pl3F, pl3L, List.cons_append, List.nil_append, List.append_nil, List.set_cons_zero, List.set_cons_succ, List.setIfInBounds_toArray, up, Nat.reduceEqDiff, reduceIte, cond_true, cond_false, hb_, (hoff 7 (by kernel_rfl))] at h_ ⊢; exact h_
      refine hK.out _ _ ⟨ZZ, g3, w'.heap.size, p8, q8, m1_, m3_, m4_, (.pointer (some ⟨w'.heap.size, 0, none⟩)), (by rw [ha.out]; exact putSel_upk 5 hb_ rfl rfl rfl), E3_, Q_X1_, Q_X3_, Q_X4_, fun _ => rfl⟩
    refine steps_cons ?_ ?_
    · rintro b a w' ⟨ZZ, g3, g4, p8, q8, m1_, m3_, m4_, m5_, ha, Q_E, Q_X1_, Q_X3_, Q_X4_, Q_X5_⟩ hb_ hon hoff
      refine ⟨_, rfl, fun K hK => ?_⟩
      have e3 : a.tmps[3]? = some (m4_) := by rw [ha]; exact putSel_on (e := (4, 3, m4_)) 4 rfl rfl (hon 4 (by kernel_rfl)) rfl
      rw [Q_X4_ (hon 4 (by kernel_rfl))] at e3
      have e11 : a.tmps[11]? = some (m1_) := by rw [ha]; exact putSel_on (e := (1, 11, m1_)) 1 rfl rfl (hon 1 (by kernel_rfl)) rfl
      rw [Q_X1_ (hon 1 (by kernel_rfl))] at e11
      replace ha := Aside0.mk ha
      have E := Aside0.mk Q_E
      simp only [A8.u] at e11
      obtain ⟨⟨hc0_, hc1_, hc2_, hc3_⟩, hf0_, hf1_, hf2_, hf3_⟩ := box4 (c0 := .slice none 0 0) (c1 := .slice none 0 0) (c2 := .slice none 0 0) (c3 := .slice none 0 0) (E.out.at_blk 0 (by simp only [pl3L, (hon 4 (by kernel_rfl)), hb_]; rfl))
      refine skip_ (w1 := ((((w'.setCell ⟨g3, 0, none⟩ (.slice p8.an s.N.length p8.cn)).setCell ⟨g3, 1, none⟩ (.slice p8.ap s.P.length p8.cp)).setCell ⟨g3, 2, none⟩ (.slice p8.az s.Z.length p8.cz)).setCell ⟨g3, 3, none⟩ (.slice p8.ak s.K.length p8.ck))) (by rfl) rfl ?_ ?_
      · go_simp
        try rfl
      have E2_ := E.out.set4At 0 (c0 := .slice none 0 0) (c1 := .slice none 0 0) (c2 := .slice none 0 0) (c3 := .slice none 0 0) (by simp only [pl3L, (hon 4 (by kernel_rfl)), hb_]; rfl) (.slice p8.an s.N.length p8.cn) (.slice p8.ap s.P.length p8.cp) (.slice p8.az s.Z.length p8.cz) (.slice p8.ak s.K.length p8.ck)
      have E3_ : (Stt w ZZ (pl3L g1 g3 g4 #[.int .i64 x.f0, .string x.f1, .string x.f2, .slice A0 x.f3.length c0] (A8.u p8 s) (A8.u q8 s) (up b 6)) (pl3F A0 c0 x.f3 s p8 q8 (up b 6)) ((((w'.setCell ⟨g3, 0, none⟩ (.slice p8.an s.N.length p8.cn)).setCell ⟨g3, 1, none⟩ (.slice p8.ap s.P.length p8.cp)).setCell ⟨g3, 2, none⟩ (.slice p8.az s.Z.length p8.cz)).setCell ⟨g3, 3, none⟩ (.slice p8.ak s.K.length p8.ck))) := by have h_ := E2_; simp only [pl3F, pl3L, List.cons_append, List.nil_append, List.append_nil, List.set_cons_zero, List.set_cons_succ, List.setIfInBounds_toArray, up, Nat.reduceEqDiff, reduceIte, cond_true, cond_false, hb_, (hon 4 (by kernel_rfl)), (hon 1 (by kernel_rfl)), (hon 3 (by kernel_rfl))] at h_ ⊢; exact h_
      refine hK.out _ _ ⟨ZZ, g3, g4, p8, q8, m1_, m3_, m4_, m5_, (by rw [ha.out]; exact putSel_none (v := undef) rfl), E3_, Q_X1_, Q_X3_, Q_X4_, Q_X5_⟩
    refine steps_cons ?_ ?_
    · rintro b a w' ⟨ZZ, g3, g4, p8, q8, m1_, m3_, m4_, m5_, ha, Q_E, Q_X1_, Q_X3_, Q_X4_, Q_X5_⟩ hb_ hon hoff
      refine ⟨_, rfl, fun K hK => ?_⟩
      have e4 : a.tmps[4]? = some (m5_) := by rw [ha]; exact putSel_on (e := (5, 4, m5_)) 5 rfl rfl (hon 5 (by kernel_rfl)) rfl
      rw [Q_X5_ (hon 5 (by kernel_rfl))] at e4
      have e13 : a.tmps[13]? = some (m3_) := by rw [ha]; exact putSel_on (e := (3, 13, m3_)) 3 rfl rfl (hon 3 (by kernel_rfl)) rfl
      rw [Q_X3_ (hon 3 (by kernel_rfl))] at e13
      replace ha := Aside0.mk ha
      have E := Aside0.mk Q_E
      simp only [A8.u] at e13
      obtain ⟨⟨hc0_, hc1_, hc2_, hc3_⟩, hf0_, hf1_, hf2_, hf3_⟩ := box4 (c0 := .slice none 0 0) (c1 := .slice none 0 0) (c2 := .slice none 0 0) (c3 := .slice none 0 0) (E.out.at_blk 1 (by simp only [pl3L, (hon 5 (by kernel_rfl)), hb_]; rfl))
      refine skip_ (w1 := ((((w'.setCell ⟨g4, 0, none⟩ (.slice q8.an s.N.length q8.cn)).setCell ⟨g4, 1, none⟩ (.slice q8.ap s.P.length q8.cp)).setCell ⟨g4, 2, none⟩ (.slice q8.az s.Z.length q8.cz)).setCell ⟨g4, 3, none⟩ (.slice q8.ak s.K.length q8.ck))) (by rfl) rfl ?_ ?_
      · go_simp
        try rfl
      have E2_ := E.out.set4At 1 (c0 := .slice none 0 0) (c1 := .slice none 0 0) (c2 := .slice none 0 0) (c3 := .slice none 0 0) (by simp only [pl3L, (hon 5 (by kernel_rfl)), hb_]; rfl) (.slice q8.an s.N.length q8.cn) (.slice q8.ap s.P.length q8.cp) (.slice q8.az s.Z.length q8.cz) (.slice q8.ak s.K.length q8.ck)
      have E3_ : (Stt w ZZ (pl3L g1 g3 g4 #[.int .i64 x.f0, .string x.f1, .string x.f2, .slice A0 x.f3.length c0] (A8.u p8 s) (A8.u q8 s) (up b 7)) (pl3F A0 c0 x.f3 s p8 q8 (up b 7)) ((((w'.setCell ⟨g4, 0, none⟩ (.slice q8.an s.N.length q8.cn)).setCell ⟨g4, 1, none⟩ (.slice q8.ap s.P.length q8.cp)).setCell ⟨g4, 2, none⟩ (.slice q8.az s.Z.length q8.cz)).setCell ⟨g4, 3, none⟩ (.slice q8.ak s.K.length q8.ck))) := by have h_ := E2_; simp only [pl3F, pl3L, List.cons_append, List.nil_append, List.append_nil, List.set_cons_zero, List.set_cons_succ, List.setIfInBounds_toArray, up, Nat.reduceEqDiff, reduceIte, cond_true, cond_false, hb_, (hon 5 (by kernel_rfl)), (hon 3 (by kernel_rfl)), (hon 3 (by kernel_rfl)), (hon 6 (by kernel_rfl))] at h_ ⊢; exact h_
      refine hK.out _ _ ⟨ZZ, g3, g4, p8, q8, m1_, m3_, m4_, m5_, (by rw [ha.out]; exact putSel_none (v := undef) rfl), E3_, Q_X1_, Q_X3_, Q_X4_, Q_X5_⟩
    exact steps_nil
  · rintro b a w' hall ⟨ZZ, g3, g4, p8, q8, m1_, m3_, m4_, m5_, ha, Q_E, Q_X1_, Q_X3_, Q_X4_, Q_X5_⟩
    clear E
    have hb0_ := hall 0 (by kernel_rfl)
    have hb1_ := hall 1 (by kernel_rfl)
    have hb2_ := hall 2 (by kernel_rfl)
    have hb3_ := hall 3 (by kernel_rfl)
    have hb4_ := hall 4 (by kernel_rfl)
    have hb5_ := hall 5 (by kernel_rfl)
    have hb6_ := hall 6 (by kernel_rfl)
    have hb7_ := hall 7 (by kernel_rfl)
    subst ha
    obtain rfl := Q_X1_ hb1_
    obtain rfl := Q_X3_ hb3_
    obtain rfl := Q_X4_ hb4_
    obtain rfl := Q_X5_ hb5_
    simp only [putSel, hb0_, hb1_, hb2_, hb3_, hb4_, hb5_, hb6_, hb7_, if_true, Act.put, List.setIfInBounds_toArray, List.set_cons_zero, List.set_cons_succ]
    have E := Aside0.mk Q_E
    clear Q_E
    have S := E.out; simp only [pl3L, pl3F, cond_true, hb1_, hb3_, hb4_, hb5_, hb6_, hb7_, A8.u, A8.F, List.cons_append, List.nil_append] at S
    clear hall hb0_ hb1_ hb2_ hb3_ hb4_ hb5_ hb6_ hb7_
    obtain ⟨An, cn, Ap, cp, Az, cz, Ak, ck⟩ := p8
    obtain ⟨Bn, dn, Bp, dp, Bz, dz, Bk, dk⟩ := q8
    replace S : Stt w ZZ [blk g3 30 #[.slice An s.N.length cn, .slice Ap s.P.length cp, .slice Az s.Z.length cz, .slice Ak s.K.length ck], blk g4 32 #[.slice Bn s.N.length dn, .slice Bp s.P.length dp, .slice Bz s.Z.length dz, .slice Bk s.K.length dk], blk g1 24 #[.int .i64 x.f0, .string x.f1, .string x.f2, .slice A0 x.f3.length c0]] [rdV k24 Bn dn s.N, rdV (Kd.int .i64) Bp dp s.P, rdV (Kd.int .i64) Bz dz s.Z, rdV (Kd.slice 3 (Kd.int .i64)) Bk dk s.K, rdV k24 An cn s.N, rdV (Kd.int .i64) Ap cp s.P, rdV (Kd.int .i64) Az cz s.Z, rdV (Kd.slice 3 (Kd.int .i64)) Ak ck s.K, rdV k24 A0 c0 x.f3] w' := S
    clear E hro
    dsimp only [A8.u]
    obtain ⟨w4, hw4⟩ : ∃ q, q = w' := ⟨_, rfl⟩
    rw [← hw4] at S ⊢
    clear hw4
    obtain ⟨⟨g3_0, g3_1, g3_2, g3_3⟩, g3_4, g3_5, g3_6, g3_7⟩ := box4 (S.at_blk 0 rfl); obtain ⟨⟨g4_0, g4_1, g4_2, g4_3⟩, g4_4, g4_5, g4_6, g4_7⟩ := box4 (S.at_blk 1 rfl); obtain ⟨⟨g1_0, g1_1, g1_2, g1_3⟩, g1_4, g1_5, g1_6, g1_7⟩ := box4 (S.at_blk 2 rfl)
    have hlb : ((s.N.length : Int) != (s.N.length : Int)) = false := by simp
    go_wp2_with (first | ((with_reducible refine gate_callee (f := 9) rfl ?_); (with_reducible refine gate_dst (N := 14) rfl ?_); (try (refine gate_guard (by rfl) ?_; dsimp only)); refine goesL_ (some 14) rfl rfl Tryd.func9 (by kernel_rfl) rfl #[] rfl (by (try simp only [List.map_toArray, List.map_cons, List.map_nil]); first | done | rfl) ?_; refine (scarflaw10_known.calls 20 true _ (htabB.out _ S.below) known_at rfl).mono ?_; rintro e w5 ⟨rfl, hb⟩; refine ⟨_, rfl, ?_⟩; replace S := S.keep hb; clear hb; clear g3_0 g3_1 g3_2 g3_3 g3_4 g3_5 g3_6 g3_7; clear g4_0 g4_1 g4_2 g4_3 g4_4 g4_5 g4_6 g4_7; clear g1_0 g1_1 g1_2 g1_3 g1_4 g1_5 g1_6 g1_7; obtain ⟨⟨g3_0, g3_1, g3_2, g3_3⟩, g3_4, g3_5, g3_6, g3_7⟩ := box4 (S.at_blk 0 rfl); obtain ⟨⟨g4_0, g4_1, g4_2, g4_3⟩, g4_4, g4_5, g4_6, g4_7⟩ := box4 (S.at_blk 1 rfl); obtain ⟨⟨g1_0, g1_1, g1_2, g1_3⟩, g1_4, g1_5, g1_6, g1_7⟩ := box4 (S.at_blk 2 rfl)) | ((with_reducible refine gate_callee (f := 12) rfl ?_); (with_reducible refine gate_dst (N := 30) rfl ?_); (try (refine gate_guard (by rfl) ?_; dsimp only)); refine goesL_ (some 30) rfl rfl Tryd.func12 (by kernel_rfl) rfl #[.slice Ap s.P.length cp, .slice Bp s.P.length dp] rfl (by (try simp only [List.map_toArray, List.map_cons, List.map_nil]); first | done | rfl) ?_; refine (scarfref03_Same.calls kp Ap cp s.P Bp dp s.P true _ (S.rdC 5 rfl) (S.rdL 5 rfl) (S.rdC 1 rfl) (S.rdL 1 rfl) hkp.out).mono ?_; rintro e w6 ⟨rfl, hd_⟩; refine ⟨_, rfl, ?_⟩; have hb := hd_.below; replace S := S.keep hb; clear hb hd_; clear g3_0 g3_1 g3_2 g3_3 g3_4 g3_5 g3_6 g3_7; clear g4_0 g4_1 g4_2 g4_3 g4_4 g4_5 g4_6 g4_7; clear g1_0 g1_1 g1_2 g1_3 g1_4 g1_5 g1_6 g1_7; obtain ⟨⟨g3_0, g3_1, g3_2, g3_3⟩, g3_4, g3_5, g3_6, g3_7⟩ := box4 (S.at_blk 0 rfl); obtain ⟨⟨g4_0, g4_1, g4_2, g4_3⟩, g4_4, g4_5, g4_6, g4_7⟩ := box4 (S.at_blk 1 rfl); obtain ⟨⟨g1_0, g1_1, g1_2, g1_3⟩, g1_4, g1_5, g1_6, g1_7⟩ := box4 (S.at_blk 2 rfl)) | ((with_reducible refine gate_callee (f := 12) rfl ?_); (with_reducible refine gate_dst (N := 38) rfl ?_); (try (refine gate_guard (by rfl) ?_; dsimp only)); refine goesL_ (some 38) rfl rfl Tryd.func12 (by kernel_rfl) rfl #[.slice Az s.Z.length cz, .slice Bz s.Z.length dz] rfl (by (try simp only [List.map_toArray, List.map_cons, List.map_nil]); first | done | rfl) ?_; refine (scarfref03_Same.calls kz Az cz s.Z Bz dz s.Z true _ (S.rdC 6 rfl) (S.rdL 6 rfl) (S.rdC 2 rfl) (S.rdL 2 rfl) hkz.out).mono ?_; rintro e w7 ⟨rfl, hd_⟩; refine ⟨_, rfl, ?_⟩; have hb := hd_.below; replace S := S.keep hb; clear hb hd_; clear g3_0 g3_1 g3_2 g3_3 g3_4 g3_5 g3_6 g3_7; clear g4_0 g4_1 g4_2 g4_3 g4_4 g4_5 g4_6 g4_7; clear g1_0 g1_1 g1_2 g1_3 g1_4 g1_5 g1_6 g1_7; obtain ⟨⟨g3_0, g3_1, g3_2, g3_3⟩, g3_4, g3_5, g3_6, g3_7⟩ := box4 (S.at_blk 0 rfl); obtain ⟨⟨g4_0, g4_1, g4_2, g4_3⟩, g4_4, g4_5, g4_6, g4_7⟩ := box4 (S.at_blk 1 rfl); obtain ⟨⟨g1_0, g1_1, g1_2, g1_3⟩, g1_4, g1_5, g1_6, g1_7⟩ := box4 (S.at_blk 2 rfl)))
    clear g3_0 g3_1 g3_2 g3_3 g3_4 g3_5 g3_6 g3_7; clear g4_0 g4_1 g4_2 g4_3 g4_4 g4_5 g4_6 g4_7; clear g1_0 g1_1 g1_2 g1_3 g1_4 g1_5 g1_6 g1_7
    go_loopg [5] n (fun kq v5 w'' => ∃ (ii : Int) (i : Nat), v5 = .int .i64 ii ∧ Aside0 (ii = (i : Int)) ∧ i ≤ n ∧ kq = n - i ∧ Stt w ZZ [blk g3 30 #[.slice An s.N.length cn, .slice Ap s.P.length cp, .slice Az s.Z.length cz, .slice Ak s.K.length ck], blk g4 32 #[.slice Bn s.N.length dn, .slice Bp s.P.length dp, .slice Bz s.Z.length dz, .slice Bk s.K.length dk], blk g1 24 #[.int .i64 x.f0, .string x.f1, .string x.f2, .slice A0 x.f3.length c0]] [rdV k24 Bn dn s.N, rdV (Kd.int .i64) Bp dp s.P, rdV (Kd.int .i64) Bz dz s.Z, rdV (Kd.slice 3 (Kd.int .i64)) Bk dk s.K, rdV k24 An cn s.N, rdV (Kd.int .i64) Ap cp s.P, rdV (Kd.int .i64) Az cz s.Z, rdV (Kd.slice 3 (Kd.int .i64)) Ak ck s.K, rdV k24 A0 c0 x.f3] w'')
    case atStart => exact ⟨0, 0, rfl, ⟨rfl⟩, Nat.zero_le _, rfl, S⟩
    case round =>
      clear S
      obtain ⟨ii, i, rfl, hii, hi, hgk, S⟩ := hrel
      obtain ⟨wb, rfl⟩ : ∃ q, q = wr := ⟨_, rfl⟩
      obtain ⟨⟨g3_0, g3_1, g3_2, g3_3⟩, g3_4, g3_5, g3_6, g3_7⟩ := box4 (S.at_blk 0 rfl); obtain ⟨⟨g4_0, g4_1, g4_2, g4_3⟩, g4_4, g4_5, g4_6, g4_7⟩ := box4 (S.at_blk 1 rfl); obtain ⟨⟨g1_0, g1_1, g1_2, g1_3⟩, g1_4, g1_5, g1_6, g1_7⟩ := box4 (S.at_blk 2 rfl)
      by_cases hin : ii < (s.N.length : Int)
      · have hib := decide_eq_true hin
        have p0 : 0 ≤ ii := by have := hii.out; omega
        have hiP : i < n := by have := hii.out; have := hNl.out; omega
        have hinK : ii < (s.K.length : Int) := by have := hii.out; have := hKl.out; omega
        obtain ⟨adP, P3, p3, eP, hP0, hP1, hP2, hP3, hPl3, hPC⟩ := at_T24 (S.rdC 4 rfl) ii p0 hin
        obtain ⟨adQ, Q3, q3, eQ, hQ0, hQ1, hQ2, hQ3, hQl3, hQC⟩ := at_T24 (S.rdC 0 rfl) ii p0 hin
        obtain ⟨adR, R3, r3, eR, hR0, hRl, hRC⟩ := at_L3 (S.rdC 7 rfl) ii p0 hinK
        obtain ⟨adT, T3, t3, eT, hT0, hTl, hTC⟩ := at_L3 (S.rdC 3 rfl) ii p0 hinK
        subst eP eQ eR eT
        obtain ⟨y, hy⟩ : ∃ y, y = rd_T24 s.N ii := ⟨_, rfl⟩
        obtain ⟨kl, hkl⟩ : ∃ kl, kl = rd_L3 s.K ii := ⟨_, rfl⟩
        rw [← hy] at hP0 hP1 hP2 hP3 hPl3 hPC hQ0 hQ1 hQ2 hQ3 hQl3 hQC
        rw [← hkl] at hR0 hRl hRC hT0 hTl hTC
        have hyi : s.N[i]? = some y := by
          have : i < s.N.length := by have := hNl.out; omega
          rw [hy, hii.out]; unfold rd_T24; simp [List.getD_eq_getElem?_getD, List.getElem?_eq_getElem this]
        have hki : s.K[i]? = some kl := by
          have : i < s.K.length := by have := hKl.out; omega
          rw [hkl, hii.out]; unfold rd_L3; simp [List.getD_eq_getElem?_getD, List.getElem?_eq_getElem this]
        obtain ⟨kS, hkS⟩ := trees_eq y (hNs.out i y hyi)
        obtain ⟨kI, hkI⟩ := ints_eq kl (hKb.out i kl hki)
        replace hkS := Aside0.mk hkS
        replace hkI := Aside0.mk hkI
        have hin1 := eq_true hin
        have hinK1 := eq_true hinK
        replace hin := Aside0.mk hin
        replace hinK := Aside0.mk hinK
        replace hiP := Aside0.mk hiP
        replace hPC := Aside0.mk hPC
        replace hQC := Aside0.mk hQC
        replace hRC := Aside0.mk hRC
        replace hTC := Aside0.mk hTC
        replace p0 := eq_true p0
        clear hy hkl hyi hki
        go_wp2
        have hdr := below_drew1 (Below.refl wb.heap.size wb)
        have Sd := S.keep hdr
        have hPC := Kd.C_below hPC.out hdr
        have hQC := Kd.C_below hQC.out hdr
        have hRC := Kd.C_below hRC.out hdr
        have hTC := Kd.C_below hTC.out hdr
        have hP0 := pw_cell_below hdr hP0
        have hP1 := pw_cell_below hdr hP1
        have hP2 := pw_cell_below hdr hP2
        have hP3 := pw_cell_below hdr hP3
        have hQ0 := pw_cell_below hdr hQ0
        have hQ1 := pw_cell_below hdr hQ1
        have hQ2 := pw_cell_below hdr hQ2
        have hQ3 := pw_cell_below hdr hQ3
        have hR0 := pw_cell_below hdr hR0
        have hT0 := pw_cell_below hdr hT0
        have hg30 := pw_cell_below hdr g3_0
        have hg33 := pw_cell_below hdr g3_3
        have hg40 := pw_cell_below hdr g4_0
        have hg43 := pw_cell_below hdr g4_3
        replace hPC := Aside0.mk hPC
        replace hQC := Aside0.mk hQC
        replace hRC := Aside0.mk hRC
        replace hTC := Aside0.mk hTC
        have E : Below wb.drew.heap.size wb.drew wb.drew := Below.refl _ _
        clear S g3_0 g3_1 g3_2 g3_3 g3_4 g3_5 g3_6 g3_7 g4_0 g4_1 g4_2 g4_3 g4_4 g4_5 g4_6 g4_7 g1_0 g1_1 g1_2 g1_3 g1_4 g1_5 g1_6 g1_7
        refine start_ (n := 26) (S := fun w' => True) (ds := []) #[false, false, false, false, false, false, false, false, false, false, false, false, false, false, false, false, false, false, false, false, false, false, false, false, false, false] (by kernel_rfl) rfl rfl trivial (fun hHeld => ?_)
        refine with_tabW plans.tab9 plans.bits9 (fun HT_ HW_ => ?_)
        generalize wb.drew = w9 at E Sd hPC hQC hRC hTC hP0 hP1 hP2 hP3 hQ0 hQ1 hQ2 hQ3 hR0 hT0 hg30 hg33 hg40 hg43 hHeld hdr ⊢
        refine pure_ (i := 0) (N := some 57) (v := ?_) (a' := ?_) #[true, false, false, false, false, false, false, false, false, false, false, false, false, false, false, false, false, false, false, false, false, false, false, false, false, false] rfl rfl (any_of HT_.out (by kernel_rfl)) (fun _ _ _ h => h) (Or.inl ⟨by rfl, ?_⟩) ?_ ?_
        rotate_left
        · intro w'
          go_simp
          with_reducible rfl
        rotate_left
        · simp only [Act.put, List.setIfInBounds_toArray, List.set_cons_zero, List.set_cons_succ, i64_w, i32_w]
          rfl
        refine pure_ (i := 2) (N := some 59) (v := ?_) (a' := ?_) #[true, false, true, false, false, false, false, false, false, false, false, false, false, false, false, false, false, false, false, false, false, false, false, false, false, false] rfl rfl (any_of HT_.out (by kernel_rfl)) (fun _ _ _ h => h) (Or.inl ⟨by rfl, ?_⟩) ?_ ?_
        rotate_left
        · intro w'
          go_simp
          with_reducible rfl
        rotate_left
        · simp only [Act.put, List.setIfInBounds_toArray, List.set_cons_zero, List.set_cons_succ, i64_w, i32_w]
          rfl
        refine pure_ (i := 5) (N := some 62) (v := ?_) (a' := ?_) #[true, false, true, false, false, true, false, false, false, false, false, false, false, false, false, false, false, false, false, false, false, false, false, false, false, false] rfl rfl (any_of HT_.out (by kernel_rfl)) (fun _ _ _ h => h) (Or.inl ⟨by rfl, ?_⟩) ?_ ?_
        rotate_left
        · intro w'
          go_simp
          with_reducible rfl
        rotate_left
        · simp only [Act.put, List.setIfInBounds_toArray, List.set_cons_zero, List.set_cons_succ, i64_w, i32_w]
          rfl
        refine pure_ (i := 7) (N := some 64) (v := ?_) (a' := ?_) #[true, false, true, false, false, true, false, true, false, false, false, false, false, false, false, false, false, false, false, false, false, false, false, false, false, false] rfl rfl (any_of HT_.out (by kernel_rfl)) (fun _ _ _ h => h) (Or.inl ⟨by rfl, ?_⟩) ?_ ?_
        rotate_left
        · intro w'
          go_simp
          with_reducible rfl
        rotate_left
        · simp only [Act.put, List.setIfInBounds_toArray, List.set_cons_zero, List.set_cons_succ, i64_w, i32_w]
          rfl
        refine inv_at [1, 3, 4, 6, 8, 9, 10, 11, 12, 13, 14, 15, 16, 17, 18, 19, 20, 21, 22, 23, 24, 25] (fun a0_ b a w' => a = putSel a0_ b [(1, 58, .slice (some adP) s.N.length cn), (3, 60, .pointer (some (adP.add (ii.toNat * 4)))), (4, 61, (.agg #[.int .i64 y.f0, .string y.f1, .string y.f2, .slice P3 y.f3.length p3] : Value)), (6, 63, .slice (some adQ) s.N.length dn), (8, 65, .pointer (some (adQ.add (ii.toNat * 4)))), (9, 66, (.agg #[.int .i64 y.f0, .string y.f1, .string y.f2, .slice Q3 y.f3.length q3] : Value)), (10, 67, .bool true), (11, 68, .bool false), (12, 69, .bool false), (13, 70, .pointer (some ⟨g3, 3, none⟩)), (14, 71, .slice (some adR) s.K.length ck), (15, 72, .int .i64 ii), (16, 73, .pointer (some (adR.add ii.toNat))), (17, 74, .slice R3 kl.length r3), (18, 75, .pointer (some ⟨g4, 3, none⟩)), (19, 76, .slice (some adT) s.K.length dk), (20, 77, .int .i64 ii), (21, 78, .pointer (some (adT.add ii.toNat))), (22, 79, .slice T3 kl.length t3), (23, 80, .bool true), (24, 81, .bool false), (25, 82, .bool false)] ∧ (Below w9.heap.size w9 w')) HT_.out HW_.out (by kernel_rfl) (by kernel_rfl) ?_ ?_ ?_
        · exact ⟨by simp only [putSel, Bool.false_eq_true, if_false], E⟩
        · skip
          clear E
          refine steps_cons ?_ ?_
          · rintro b a w' ⟨ha, Q_E⟩ hb_ hon hoff
            refine ⟨_, rfl, fun K hK => ?_⟩
            have e57 : a.tmps[57]? = some (.pointer (some ⟨g3, 0, none⟩)) := by rw [ha]; exact (putSel_off rfl).trans rfl
            replace ha := Aside0.mk ha
            have E := Aside0.mk Q_E
            have hc0_ := pw_cell_below E.out hg30
            refine value_ (w1 := w') (v := .slice (some adP) s.N.length cn) (by rfl) rfl ?_ ?_
            · go_simp
              (try simp only [i64_w])
              try rfl
            refine hK.out _ _ ⟨(by rw [ha.out]; exact putSel_upk 0 hb_ rfl rfl rfl), Q_E⟩
          refine steps_cons ?_ ?_
          · rintro b a w' ⟨ha, Q_E⟩ hb_ hon hoff
            refine ⟨_, rfl, fun K hK => ?_⟩
            have e58 : a.tmps[58]? = some (.slice (some adP) s.N.length cn) := by rw [ha]; exact putSel_on (e := (1, 58, .slice (some adP) s.N.length cn)) 0 rfl rfl (hon 1 (by kernel_rfl)) rfl
            have e59 : a.tmps[59]? = some (.int .i64 ii) := by rw [ha]; exact (putSel_off rfl).trans rfl
            replace ha := Aside0.mk ha
            have E := Aside0.mk Q_E
            refine value_ (w1 := w') (v := .pointer (some (adP.add (ii.toNat * 4)))) (by rfl) rfl ?_ ?_
            · go_simp
              (try simp only [i64_w])
              try rfl
            refine hK.out _ _ ⟨(by rw [ha.out]; exact putSel_upk 1 hb_ rfl rfl rfl), Q_E⟩
          refine steps_cons ?_ ?_
          · rintro b a w' ⟨ha, Q_E⟩ hb_ hon hoff
            refine ⟨_, rfl, fun K hK => ?_⟩
            have e60 : a.tmps[60]? = some (.pointer (some (adP.add (ii.toNat * 4)))) := by rw [ha]; exact putSel_on (e := (3, 60, .pointer (some (adP.add (ii.toNat * 4))))) 1 rfl rfl (hon 3 (by kernel_rfl)) rfl
            replace ha := Aside0.mk ha
            have E := Aside0.mk Q_E
            have hc0_ := pw_cell_below E.out hP0
            have hc1_ := pw_cell_below E.out hP1
            have hc2_ := pw_cell_below E.out hP2
            have hc3_ := pw_cell_below E.out hP3
            refine value_ (w1 := w') (v := (.agg #[.int .i64 y.f0, .string y.f1, .string y.f2, .slice P3 y.f3.length p3] : Value)) (by rfl) rfl ?_ ?_
            · go_simp
              (try simp only [i64_w])
              try rfl
            refine hK.out _ _ ⟨(by rw [ha.out]; exact putSel_upk 2 hb_ rfl rfl rfl), Q_E⟩
          refine steps_cons ?_ ?_
          · rintro b a w' ⟨ha, Q_E⟩ hb_ hon hoff
            refine ⟨_, rfl, fun K hK => ?_⟩
            have e62 : a.tmps[62]? = some (.pointer (some ⟨g4, 0, none⟩)) := by rw [ha]; exact (putSel_off rfl).trans rfl
            replace ha := Aside0.mk ha
            have E := Aside0.mk Q_E
            have hc0_ := pw_cell_below E.out hg40
            refine value_ (w1 := w') (v := .slice (some adQ) s.N.length dn) (by rfl) rfl ?_ ?_
            · go_simp
              (try simp only [i64_w])
              try rfl
            refine hK.out _ _ ⟨(by rw [ha.out]; exact putSel_upk 3 hb_ rfl rfl rfl), Q_E⟩
          refine steps_cons ?_ ?_
          · rintro b a w' ⟨ha, Q_E⟩ hb_ hon hoff
            refine ⟨_, rfl, fun K hK => ?_⟩
            have e63 : a.tmps[63]? = some (.slice (some adQ) s.N.length dn) := by rw [ha]; exact putSel_on (e := (6, 63, .slice (some adQ) s.N.length dn)) 3 rfl rfl (hon 6 (by kernel_rfl)) rfl
            have e64 : a.tmps[64]? = some (.int .i64 ii) := by rw [ha]; exact (putSel_off rfl).trans rfl
            replace ha := Aside0.mk ha
            have E := Aside0.mk Q_E
            refine value_ (w1 := w') (v := .pointer (some (adQ.add (ii.toNat * 4)))) (by rfl) rfl ?_ ?_
            · go_simp
              (try simp only [i64_w])
              try rfl
            refine hK.out _ _ ⟨(by rw [ha.out]; exact putSel_upk 4 hb_ rfl rfl rfl), Q_E⟩
          refine steps_cons ?_ ?_
          · rintro b a w' ⟨ha, Q_E⟩ hb_ hon hoff
            refine ⟨_, rfl, fun K hK => ?_⟩
            have e65 : a.tmps[65]? = some (.pointer (some (adQ.add (ii.toNat * 4)))) := by rw [ha]; exact putSel_on (e := (8, 65, .pointer (some (adQ.add (ii.toNat * 4))))) 4 rfl rfl (hon 8 (by kernel_rfl)) rfl
            replace ha := Aside0.mk ha
            have E := Aside0.mk Q_E
            have hc0_ := pw_cell_below E.out hQ0
            have hc1_ := pw_cell_below E.out hQ1
            have hc2_ := pw_cell_below E.out hQ2
            have hc3_ := pw_cell_below E.out hQ3
            refine value_ (w1 := w') (v := (.agg #[.int .i64 y.f0, .string y.f1, .string y.f2, .slice Q3 y.f3.length q3] : Value)) (by rfl) rfl ?_ ?_
            · go_simp
              (try simp only [i64_w])
              try rfl
            refine hK.out _ _ ⟨(by rw [ha.out]; exact putSel_upk 5 hb_ rfl rfl rfl), Q_E⟩
          refine steps_cons ?_ ?_
          · rintro b a w' ⟨ha, Q_E⟩ hb_ hon hoff
            refine ⟨_, rfl, fun K hK => ?_⟩
            have e61 : a.tmps[61]? = some ((.agg #[.int .i64 y.f0, .string y.f1, .string y.f2, .slice P3 y.f3.length p3] : Value)) := by rw [ha]; exact putSel_on (e := (4, 61, (.agg #[.int .i64 y.f0, .string y.f1, .string y.f2, .slice P3 y.f3.length p3] : Value))) 2 rfl rfl (hon 4 (by kernel_rfl)) rfl
            have e66 : a.tmps[66]? = some ((.agg #[.int .i64 y.f0, .string y.f1, .string y.f2, .slice Q3 y.f3.length q3] : Value)) := by rw [ha]; exact putSel_on (e := (9, 66, (.agg #[.int .i64 y.f0, .string y.f1, .string y.f2, .slice Q3 y.f3.length q3] : Value))) 5 rfl rfl (hon 9 (by kernel_rfl)) rfl
            replace ha := Aside0.mk ha
            have E := Aside0.mk Q_E
            refine goes_ Tryd.func13 (by kernel_rfl) rfl #[(.agg #[.int .i64 y.f0, .string y.f1, .string y.f2, .slice P3 y.f3.length p3] : Value), (.agg #[.int .i64 y.f0, .string y.f1, .string y.f2, .slice Q3 y.f3.length q3] : Value)] (by rfl) rfl rfl (by first | (simp only [List.map_toArray, List.map_cons, List.map_nil, Act.eval, Array.getD_eq_getD_getElem?, Option.getD_some, e61, e66]; done) | (simp only [List.map_toArray, List.map_cons, List.map_nil, Act.eval, Array.getD_eq_getD_getElem?, Option.getD_some, e61, e66]; rfl)) ?_
            refine (scarfref05_Same.calls kS y.f0 y.f1 y.f2 P3 p3 y.f3 y.f0 y.f1 y.f2 Q3 q3 y.f3 true _ (Kd.C_below hPC.out E.out) hPl3 (Kd.C_below hQC.out E.out) hQl3 hkS.out).mono ?_
            rintro e w20 ⟨rfl, hb⟩
            refine ⟨_, rfl, ?_⟩
            have E3_ := below_step E.out hb
            refine hK.out _ _ ⟨(by rw [ha.out]; exact putSel_upk 6 hb_ rfl rfl rfl), E3_⟩
          refine steps_cons ?_ ?_
          · rintro b a w' ⟨ha, Q_E⟩ hb_ hon hoff
            refine ⟨_, rfl, fun K hK => ?_⟩
            have e67 : a.tmps[67]? = some (.bool true) := by rw [ha]; exact putSel_on (e := (10, 67, .bool true)) 6 rfl rfl (hon 10 (by kernel_rfl)) rfl
            replace ha := Aside0.mk ha
            have E := Aside0.mk Q_E
            refine value_ (w1 := w') (v := .bool false) (by rfl) rfl ?_ ?_
            · go_simp
              (try simp only [i64_w])
              try rfl
            refine hK.out _ _ ⟨(by rw [ha.out]; exact putSel_upk 7 hb_ rfl rfl rfl), Q_E⟩
          refine steps_cons ?_ ?_
          · rintro b a w' ⟨ha, Q_E⟩ hb_ hon hoff
            refine ⟨_, rfl, fun K hK => ?_⟩
            have e68 : a.tmps[68]? = some (.bool false) := by rw [ha]; exact putSel_on (e := (11, 68, .bool false)) 7 rfl rfl (hon 11 (by kernel_rfl)) rfl
            replace ha := Aside0.mk ha
            have E := Aside0.mk Q_E
            refine value_ (w1 := w') (v := .bool false) (by rfl) rfl ?_ ?_
            · go_simp
              (try simp only [i64_w])
              try rfl
            refine hK.out _ _ ⟨(by rw [ha.out]; exact putSel_upk 8 hb_ rfl rfl rfl), Q_E⟩
          refine steps_cons ?_ ?_
          · rintro b a w' ⟨ha, Q_E⟩ hb_ hon hoff
            refine ⟨_, rfl, fun K hK => ?_⟩
            have e3 : a.tmps[3]? = some (.pointer (some ⟨g3, 0, none⟩)) := by rw [ha]; exact (putSel_off rfl).trans rfl
            have e69 : a.tmps[69]? = some (.bool false) := by rw [ha]; exact putSel_on (e := (12, 69, .bool false)) 8 rfl rfl (hon 12 (by kernel_rfl)) rfl
            replace ha := Aside0.mk ha
            have E := Aside0.mk Q_E
            refine value_ (w1 := w') (v := .pointer (some ⟨g3, 3, none⟩)) (wantedOn_ rfl rfl rfl (e69.trans (by first | rfl | (simp [*]; done)))) rfl ?_ ?_
            · go_simp
              (try simp only [i64_w])
              try rfl
            refine hK.out _ _ ⟨(by rw [ha.out]; exact putSel_upk 9 hb_ rfl rfl rfl), Q_E⟩
          refine steps_cons ?_ ?_
          · rintro b a w' ⟨ha, Q_E⟩ hb_ hon hoff
            refine ⟨_, rfl, fun K hK => ?_⟩
            have e70 : a.tmps[70]? = some (.pointer (some ⟨g3, 3, none⟩)) := by rw [ha]; exact putSel_on (e := (13, 70, .pointer (some ⟨g3, 3, none⟩))) 9 rfl rfl (hon 13 (by kernel_rfl)) rfl
            have e69 : a.tmps[69]? = some (.bool false) := by rw [ha]; exact putSel_on (e := (12, 69, .bool false)) 8 rfl rfl (hon 12 (by kernel_rfl)) rfl
            replace ha := Aside0.mk ha
            have E := Aside0.mk Q_E
            have hc0_ := pw_cell_below E.out hg33
            refine value_ (w1 := w') (v := .slice (some adR) s.K.length ck) (wantedOn_ rfl rfl rfl (e69.trans (by first | rfl | (simp [*]; done)))) rfl ?_ ?_
            · go_simp
              (try simp only [i64_w])
              try rfl
            refine hK.out _ _ ⟨(by rw [ha.out]; exact putSel_upk 10 hb_ rfl rfl rfl), Q_E⟩
          refine steps_cons ?_ ?_
          · rintro b a w' ⟨ha, Q_E⟩ hb_ hon hoff
            refine ⟨_, rfl, fun K hK => ?_⟩
            have e5 : a.tmps[5]? = some (.int .i64 ii) := by rw [ha]; exact (putSel_off rfl).trans rfl
            have e69 : a.tmps[69]? = some (.bool false) := by rw [ha]; exact putSel_on (e := (12, 69, .bool false)) 8 rfl rfl (hon 12 (by kernel_rfl)) rfl
            replace ha := Aside0.mk ha
            have E := Aside0.mk Q_E
            refine value_ (w1 := w') (v := .int .i64 ii) (wantedOn_ rfl rfl rfl (e69.trans (by first | rfl | (simp [*]; done)))) rfl ?_ ?_
            · go_simp
              (try simp only [i64_w])
              try rfl
            refine hK.out _ _ ⟨(by rw [ha.out]; exact putSel_upk 11 hb_ rfl rfl rfl), Q_E⟩
          refine steps_cons ?_ ?_
          · rintro b a w' ⟨ha, Q_E⟩ hb_ hon hoff
            refine ⟨_, rfl, fun K hK => ?_⟩
            have e71 : a.tmps[71]? = some (.slice (some adR) s.K.length ck) := by rw [ha]; exact putSel_on (e := (14, 71, .slice (some adR) s.K.length ck)) 10 rfl rfl (hon 14 (by kernel_rfl)) rfl
            have e72 : a.tmps[72]? = some (.int .i64 ii) := by rw [ha]; exact putSel_on (e := (15, 72, .int .i64 ii)) 11 rfl rfl (hon 15 (by kernel_rfl)) rfl
            have e69 : a.tmps[69]? = some (.bool false) := by rw [ha]; exact putSel_on (e := (12, 69, .bool false)) 8 rfl rfl (hon 12 (by kernel_rfl)) rfl
            replace ha := Aside0.mk ha
            have E := Aside0.mk Q_E
            refine value_ (w1 := w') (v := .pointer (some (adR.add ii.toNat))) (wantedOn_ rfl rfl rfl (e69.trans (by first | rfl | (simp [*]; done)))) rfl ?_ ?_
            · go_simp
              (try simp only [i64_w])
              try rfl
            refine hK.out _ _ ⟨(by rw [ha.out]; exact putSel_upk 12 hb_ rfl rfl rfl), Q_E⟩
          refine steps_cons ?_ ?_
          · rintro b a w' ⟨ha, Q_E⟩ hb_ hon hoff
            refine ⟨_, rfl, fun K hK => ?_⟩
            have e73 : a.tmps[73]? = some (.pointer (some (adR.add ii.toNat))) := by rw [ha]; exact putSel_on (e := (16, 73, .pointer (some (adR.add ii.toNat)))) 12 rfl rfl (hon 16 (by kernel_rfl)) rfl
            have e69 : a.tmps[69]? = some (.bool false) := by rw [ha]; exact putSel_on (e := (12, 69, .bool false)) 8 rfl rfl (hon 12 (by kernel_rfl)) rfl
            replace ha := Aside0.mk ha
            have E := Aside0.mk Q_E
            have hc0_ := pw_cell_below E.out hR0
            refine value_ (w1 := w') (v := .slice R3 kl.length r3) (wantedOn_ rfl rfl rfl (e69.trans (by first | rfl | (simp [*]; done)))) rfl ?_ ?_
            · go_simp
              (try simp only [i64_w])
              try rfl
            refine hK.out _ _ ⟨(by rw [ha.out]; exact putSel_upk 13 hb_ rfl rfl rfl), Q_E⟩
          refine steps_cons ?_ ?_
          · rintro b a w' ⟨ha, Q_E⟩ hb_ hon hoff
            refine ⟨_, rfl, fun K hK => ?_⟩
            have e4 : a.tmps[4]? = some (.pointer (some ⟨g4, 0, none⟩)) := by rw [ha]; exact (putSel_off rfl).trans rfl
            have e69 : a.tmps[69]? = some (.bool false) := by rw [ha]; exact putSel_on (e := (12, 69, .bool false)) 8 rfl rfl (hon 12 (by kernel_rfl)) rfl
            replace ha := Aside0.mk ha
            have E := Aside0.mk Q_E
            refine value_ (w1 := w') (v := .pointer (some ⟨g4, 3, none⟩)) (wantedOn_ rfl rfl rfl (e69.trans (by first | rfl | (simp [*]; done)))) rfl ?_ ?_
            · go_simp
              (try simp only [i64_w])
              try rfl
            refine hK.out _ _ ⟨(by rw [ha.out]; exact putSel_upk 14 hb_ rfl rfl rfl), Q_E⟩
          refine steps_cons ?_ ?_
          · rintro b a w' ⟨ha, Q_E⟩ hb_ hon hoff
            refine ⟨_, rfl, fun K hK => ?_⟩
            have e75 : a.tmps[75]? = some (.pointer (some ⟨g4, 3, none⟩)) := by rw [ha]; exact putSel_on (e := (18, 75, .pointer (some ⟨g4, 3, none⟩))) 14 rfl rfl (hon 18 (by kernel_rfl)) rfl
            have e69 : a.tmps[69]? = some (.bool false) := by rw [ha]; exact putSel_on (e := (12, 69, .bool false)) 8 rfl rfl (hon 12 (by kernel_rfl)) rfl
            replace ha := Aside0.mk ha
            have E := Aside0.mk Q_E
            have hc0_ := pw_cell_below E.out hg43
            refine value_ (w1 := w') (v := .slice (some adT) s.K.length dk) (wantedOn_ rfl rfl rfl (e69.trans (by first | rfl | (simp [*]; done)))) rfl ?_ ?_
            · go_simp
              (try simp only [i64_w])
              try rfl
            refine hK.out _ _ ⟨(by rw [ha.out]; exact putSel_upk 15 hb_ rfl rfl rfl), Q_E⟩
          refine steps_cons ?_ ?_
          · rintro b a w' ⟨ha, Q_E⟩ hb_ hon hoff
            refine ⟨_, rfl, fun K hK => ?_⟩
            have e5 : a.tmps[5]? = some (.int .i64 ii) := by rw [ha]; exact (putSel_off rfl).trans rfl
            have e69 : a.tmps[69]? = some (.bool false) := by rw [ha]; exact putSel_on (e := (12, 69, .bool false)) 8 rfl rfl (hon 12 (by kernel_rfl)) rfl
            replace ha := Aside0.mk ha
            have E := Aside0.mk Q_E
            refine value_ (w1 := w') (v := .int .i64 ii) (wantedOn_ rfl rfl rfl (e69.trans (by first | rfl | (simp [*]; done)))) rfl ?_ ?_
            · go_simp
              (try simp only [i64_w])
              try rfl
            refine hK.out _ _ ⟨(by rw [ha.out]; exact putSel_upk 16 hb_ rfl rfl rfl), Q_E⟩
          refine steps_cons ?_ ?_
          · rintro b a w' ⟨ha, Q_E⟩ hb_ hon hoff
            refine ⟨_, rfl, fun K hK => ?_⟩
            have e76 : a.tmps[76]? = some (.slice (some adT) s.K.length dk) := by rw [ha]; exact putSel_on (e := (19, 76, .slice (some adT) s.K.length dk)) 15 rfl rfl (hon 19 (by kernel_rfl)) rfl
            have e77 : a.tmps[77]? = some (.int .i64 ii) := by rw [ha]; exact putSel_on (e := (20, 77, .int .i64 ii)) 16 rfl rfl (hon 20 (by kernel_rfl)) rfl
            have e69 : a.tmps[69]? = some (.bool false) := by rw [ha]; exact putSel_on (e := (12, 69, .bool false)) 8 rfl rfl (hon 12 (by kernel_rfl)) rfl
            replace ha := Aside0.mk ha
            have E := Aside0.mk Q_E
            refine value_ (w1 := w') (v := .pointer (some (adT.add ii.toNat))) (wantedOn_ rfl rfl rfl (e69.trans (by first | rfl | (simp [*]; done)))) rfl ?_ ?_
            · go_simp
              (try simp only [i64_w])
              try rfl
            refine hK.out _ _ ⟨(by rw [ha.out]; exact putSel_upk 17 hb_ rfl rfl rfl), Q_E⟩
          refine steps_cons ?_ ?_
          · rintro b a w' ⟨ha, Q_E⟩ hb_ hon hoff
            refine ⟨_, rfl, fun K hK => ?_⟩
            have e78 : a.tmps[78]? = some (.pointer (some (adT.add ii.toNat))) := by rw [ha]; exact putSel_on (e := (21, 78, .pointer (some (adT.add ii.toNat)))) 17 rfl rfl (hon 21 (by kernel_rfl)) rfl
            have e69 : a.tmps[69]? = some (.bool false) := by rw [ha]; exact putSel_on (e := (12, 69, .bool false)) 8 rfl rfl (hon 12 (by kernel_rfl)) rfl
            replace ha := Aside0.mk ha
            have E := Aside0.mk Q_E
            have hc0_ := pw_cell_below E.out hT0
            refine value_ (w1 := w') (v := .slice T3 kl.length t3) (wantedOn_ rfl rfl rfl (e69.trans (by first | rfl | (simp [*]; done)))) rfl ?_ ?_
            · go_simp
              (try simp only [i64_w])
              try rfl
            refine hK.out _ _ ⟨(by rw [ha.out]; exact putSel_upk 18 hb_ rfl rfl rfl), Q_E⟩
          refine steps_cons ?_ ?_
          · rintro b a w' ⟨ha, Q_E⟩ hb_ hon hoff
            refine ⟨_, rfl, fun K hK => ?_⟩
            have e74 : a.tmps[74]? = some (.slice R3 kl.length r3) := by rw [ha]; exact putSel_on (e := (17, 74, .slice R3 kl.length r3)) 13 rfl rfl (hon 17 (by kernel_rfl)) rfl
            have e79 : a.tmps[79]? = some (.slice T3 kl.length t3) := by rw [ha]; exact putSel_on (e := (22, 79, .slice T3 kl.length t3)) 18 rfl rfl (hon 22 (by kernel_rfl)) rfl
            have e69 : a.tmps[69]? = some (.bool false) := by rw [ha]; exact putSel_on (e := (12, 69, .bool false)) 8 rfl rfl (hon 12 (by kernel_rfl)) rfl
            replace ha := Aside0.mk ha
            have E := Aside0.mk Q_E
            refine goes_ Tryd.func12 (by kernel_rfl) rfl #[.slice R3 kl.length r3, .slice T3 kl.length t3] (wantedOn_ rfl rfl rfl (e69.trans (by first | rfl | (simp [*]; done)))) rfl rfl (by first | (simp only [List.map_toArray, List.map_cons, List.map_nil, Act.eval, Array.getD_eq_getD_getElem?, Option.getD_some, e74, e79, e69]; done) | (simp only [List.map_toArray, List.map_cons, List.map_nil, Act.eval, Array.getD_eq_getD_getElem?, Option.getD_some, e74, e79, e69]; rfl)) ?_
            refine (scarfref03_Same.calls kI R3 r3 kl T3 t3 kl true _ (Kd.C_below hRC.out E.out) hRl (Kd.C_below hTC.out E.out) hTl hkI.out).mono ?_
            rintro e w20 ⟨rfl, hd_⟩
            refine ⟨_, rfl, ?_⟩
            have E3_ := below_step E.out hd_.below
            refine hK.out _ _ ⟨(by rw [ha.out]; exact putSel_upk 19 hb_ rfl rfl rfl), E3_⟩
          refine steps_cons ?_ ?_
          · rintro b a w' ⟨ha, Q_E⟩ hb_ hon hoff
            refine ⟨_, rfl, fun K hK => ?_⟩
            have e80 : a.tmps[80]? = some (.bool true) := by rw [ha]; exact putSel_on (e := (23, 80, .bool true)) 19 rfl rfl (hon 23 (by kernel_rfl)) rfl
            have e69 : a.tmps[69]? = some (.bool false) := by rw [ha]; exact putSel_on (e := (12, 69, .bool false)) 8 rfl rfl (hon 12 (by kernel_rfl)) rfl
            replace ha := Aside0.mk ha
            have E := Aside0.mk Q_E
            refine value_ (w1 := w') (v := .bool false) (wantedOn_ rfl rfl rfl (e69.trans (by first | rfl | (simp [*]; done)))) rfl ?_ ?_
            · go_simp
              (try simp only [i64_w])
              try rfl
            refine hK.out _ _ ⟨(by rw [ha.out]; exact putSel_upk 20 hb_ rfl rfl rfl), Q_E⟩
          refine steps_cons ?_ ?_
          · rintro b a w' ⟨ha, Q_E⟩ hb_ hon hoff
            refine ⟨_, rfl, fun K hK => ?_⟩
            have e69 : a.tmps[69]? = some (.bool false) := by rw [ha]; exact putSel_on (e := (12, 69, .bool false)) 8 rfl rfl (hon 12 (by kernel_rfl)) rfl
            have e81 : a.tmps[81]? = some (.bool false) := by rw [ha]; exact putSel_on (e := (24, 81, .bool false)) 20 rfl rfl (hon 24 (by kernel_rfl)) rfl
            replace ha := Aside0.mk ha
            have E := Aside0.mk Q_E
            refine value_ (w1 := w') (v := .bool false) (by rfl) rfl ?_ ?_
            · go_simp
              (try simp only [i64_w])
              try rfl
            refine hK.out _ _ ⟨(by rw [ha.out]; exact putSel_upk 21 hb_ rfl rfl rfl), Q_E⟩
          exact steps_nil
        · rintro b a w' hall ⟨ha, Q_E⟩
          clear E
          have hb1_ := hall 1 (by kernel_rfl)
          have hb3_ := hall 3 (by kernel_rfl)
          have hb4_ := hall 4 (by kernel_rfl)
          have hb6_ := hall 6 (by kernel_rfl)
          have hb8_ := hall 8 (by kernel_rfl)
          have hb9_ := hall 9 (by kernel_rfl)
          have hb10_ := hall 10 (by kernel_rfl)
          have hb11_ := hall 11 (by kernel_rfl)
          have hb12_ := hall 12 (by kernel_rfl)
          have hb13_ := hall 13 (by kernel_rfl)
          have hb14_ := hall 14 (by kernel_rfl)
          have hb15_ := hall 15 (by kernel_rfl)
          have hb16_ := hall 16 (by kernel_rfl)
          have hb17_ := hall 17 (by kernel_rfl)
          have hb18_ := hall 18 (by kernel_rfl)
          have hb19_ := hall 19 (by kernel_rfl)
          have hb20_ := hall 20 (by kernel_rfl)
          have hb21_ := hall 21 (by kernel_rfl)
          have hb22_ := hall 22 (by kernel_rfl)
          have hb23_ := hall 23 (by kernel_rfl)
          have hb24_ := hall 24 (by kernel_rfl)
          have hb25_ := hall 25 (by kernel_rfl)
          subst ha
          simp only [putSel, hb1_, hb3_, hb4_, hb6_, hb8_, hb9_, hb10_, hb11_, hb12_, hb13_, hb14_, hb15_, hb16_, hb17_, hb18_, hb19_, hb20_, hb21_, hb22_, hb23_, hb24_, hb25_, if_true, Act.put, List.setIfInBounds_toArray, List.set_cons_zero, List.set_cons_succ]
          have E := Aside0.mk Q_E
          clear Q_E
          have hE := E.out
          clear hall hb1_ hb3_ hb4_ hb6_ hb8_ hb9_ hb10_ hb11_ hb12_ hb13_ hb14_ hb15_ hb16_ hb17_ hb18_ hb19_ hb20_ hb21_ hb22_ hb23_ hb24_ hb25_
          have S := Sd.keep hE
          have hiw : wrap64 (ii + 1) = ((i + 1 : Nat) : Int) := by have := hii.out; have := hiP.out; unfold wrap64; omega
          replace hiw := Aside0.mk hiw
          clear hP0 hP1 hP2 hP3 hQ0 hQ1 hQ2 hQ3 hR0 hT0 hg30 hg33 hg40 hg43 hE hdr Sd
          go_wp2
          go_roundg (n - (i + 1))
          case measure => have := hgk; have := hiP.out; omega
          case rel => exact ⟨wrap64 (ii + 1), i + 1, by first | rfl | (simp; done), ⟨hiw.out⟩, by have := hiP.out; omega, rfl, S⟩
      · have hib := decide_eq_false hin
        clear hi hgk hii hin
        go_wp2
        have hdr := below_drew1 (Below.refl wb.heap.size wb)
        have hg3a := pw_cell_below hdr g3_0
        have hg3b := pw_cell_below hdr g3_1
        have hg3c := pw_cell_below hdr g3_2
        have hg3d := pw_cell_below hdr g3_3
        have hg1a := pw_cell_below hdr g1_0
        have hg1b := pw_cell_below hdr g1_1
        have hg1c := pw_cell_below hdr g1_2
        have hg1d := pw_cell_below hdr g1_3
        have hCN := Kd.C_below (S.rdC 4 rfl) hdr
        have hCP := Kd.C_below (S.rdC 5 rfl) hdr
        have hCZ := Kd.C_below (S.rdC 6 rfl) hdr
        have hCK := Kd.C_below (S.rdC 7 rfl) hdr
        have hCX := Kd.C_below (S.rdC 8 rfl) hdr
        have hlN := S.rdL 4 rfl
        have hlP := S.rdL 5 rfl
        have hlZ := S.rdL 6 rfl
        have hlK := S.rdL 7 rfl
        have hlX := S.rdL 8 rfl
        obtain ⟨k0, hk0⟩ := trees_eq (⟨0, ⟨#[]⟩, ⟨#[]⟩, []⟩ : S24) (by decide)
        have Sd := S.keep hdr
        replace hCN := Aside0.mk hCN
        replace hCP := Aside0.mk hCP
        replace hCZ := Aside0.mk hCZ
        replace hCK := Aside0.mk hCK
        replace hCX := Aside0.mk hCX
        replace hlN := Aside0.mk hlN
        replace hlP := Aside0.mk hlP
        replace hlZ := Aside0.mk hlZ
        replace hlK := Aside0.mk hlK
        replace hlX := Aside0.mk hlX
        replace hk0 := Aside0.mk hk0
        have E : Below wb.drew.heap.size wb.drew wb.drew := Below.refl _ _
        have U := trivial
        clear S g3_0 g3_1 g3_2 g3_3 g3_4 g3_5 g3_6 g3_7 g4_0 g4_1 g4_2 g4_3 g4_4 g4_5 g4_6 g4_7 g1_0 g1_1 g1_2 g1_3 g1_4 g1_5 g1_6 g1_7
        refine start_ (n := 11) (S := fun w' => True) (ds := []) #[false, false, false, false, false, false, false, false, false, false, false] (by kernel_rfl) rfl rfl trivial (fun hHeld => ?_)
        refine with_tabW plans.tab11 plans.bits11 (fun HT_ HW_ => ?_)
        generalize wb.drew = w11 at E Sd hg3a hg3b hg3c hg3d hg1a hg1b hg1c hg1d hCN hCP hCZ hCK hCX hHeld hdr ⊢
        refine inv_at [0, 1, 2, 3, 4, 5, 6, 7, 8, 9, 10] (fun a0_ b a w' => ∃ (AU : Option Addr) (cU : Nat) (AV : Option Addr) (cV : Nat) (m1_ : Value) (m6_ : Value), a = putSel a0_ b [(0, 83, (.agg #[.slice An s.N.length cn, .slice Ap s.P.length cp, .slice Az s.Z.length cz, .slice Ak s.K.length ck] : Value)), (1, 84, m1_), (2, 85, (.agg #[.int .i64 x.f0, .string x.f1, .string x.f2, .slice A0 x.f3.length c0] : Value)), (3, 86, .bool true), (4, 87, .bool true), (5, 88, (.agg #[.slice none 0 0, .slice none 0 0, .slice none 0 0, .slice none 0 0] : Value)), (6, 89, m6_), (7, 90, (.agg #[.int .i64 0, .string ⟨#[]⟩, .string ⟨#[]⟩, .slice none 0 0] : Value)), (8, 91, .bool true), (9, 92, .bool true), (10, 2, .bool true)] ∧ (Below w11.heap.size w11 w') ∧ (b 1 = true → (x.f3.length ≤ cU ∧ Kd.C k24 w' AU x.f3.length x.f3)) ∧ (b 1 = true → (m1_ : Value) = (.agg #[.int .i64 x.f0, .string x.f1, .string x.f2, .slice AU x.f3.length cU] : Value)) ∧ (b 6 = true → (m6_ : Value) = (.agg #[.int .i64 0, .string ⟨#[]⟩, .string ⟨#[]⟩, .slice AV 0 cV] : Value))) HT_.out HW_.out (by kernel_rfl) (by kernel_rfl) ?_ ?_ ?_
        · exact ⟨none, 0, none, 0, .bool false, .bool false, by simp only [putSel, Bool.false_eq_true, if_false], E, fun h_ => absurd h_ (by decide), fun h_ => absurd h_ (by decide), fun h_ => absurd h_ (by decide)⟩
        · skip
          clear E
          refine steps_cons ?_ ?_
          · rintro b a w' ⟨AU, cU, AV, cV, m1_, m6_, ha, Q_E, Q_U, Q_X1_, Q_X6_⟩ hb_ hon hoff
            refine ⟨_, rfl, fun K hK => ?_⟩
            have e3 : a.tmps[3]? = some (.pointer (some ⟨g3, 0, none⟩)) := by rw [ha]; exact (putSel_off rfl).trans rfl
            replace ha := Aside0.mk ha
            have E := Aside0.mk Q_E
            have hc0_ := pw_cell_below E.out hg3a
            have hc1_ := pw_cell_below E.out hg3b
            have hc2_ := pw_cell_below E.out hg3c
            have hc3_ := pw_cell_below E.out hg3d
            refine value_ (w1 := w') (v := (.agg #[.slice An s.N.length cn, .slice Ap s.P.length cp, .slice Az s.Z.length cz, .slice Ak s.K.length ck] : Value)) (by rfl) rfl ?_ ?_
            · go_simp
              (try simp only [i64_w])
              try rfl
            refine hK.out _ _ ⟨AU, cU, AV, cV, m1_, m6_, (by rw [ha.out]; exact putSel_upk 0 hb_ rfl rfl rfl), Q_E, fun h0_ => absurd ((hoff 1 (by kernel_rfl)).symm.trans h0_) (by decide), fun h0_ => absurd ((hoff 1 (by kernel_rfl)).symm.trans h0_) (by decide), fun h0_ => absurd ((hoff 6 (by kernel_rfl)).symm.trans h0_) (by decide)⟩
          refine steps_cons ?_ ?_
          · rintro b a w' ⟨AU, cU, AV, cV, m1_, m6_, ha, Q_E, Q_U, Q_X1_, Q_X6_⟩ hb_ hon hoff
            refine ⟨_, rfl, fun K hK => ?_⟩
            have e83 : a.tmps[83]? = some ((.agg #[.slice An s.N.length cn, .slice Ap s.P.length cp, .slice Az s.Z.length cz, .slice Ak s.K.length ck] : Value)) := by rw [ha]; exact putSel_on (e := (0, 83, (.agg #[.slice An s.N.length cn, .slice Ap s.P.length cp, .slice Az s.Z.length cz, .slice Ak s.K.length ck] : Value))) 0 rfl rfl (hon 0 (by kernel_rfl)) rfl
            replace ha := Aside0.mk ha
            have E := Aside0.mk Q_E
            refine goes_ Tryd.func14 (by kernel_rfl) rfl #[(.agg #[.slice An s.N.length cn, .slice Ap s.P.length cp, .slice Az s.Z.length cz, .slice Ak s.K.length ck] : Value)] (by rfl) rfl rfl (by first | (simp only [List.map_toArray, List.map_cons, List.map_nil, Act.eval, Array.getD_eq_getD_getElem?, Option.getD_some, e83]; done) | (simp only [List.map_toArray, List.map_cons, List.map_nil, Act.eval, Array.getD_eq_getD_getElem?, Option.getD_some, e83]; rfl)) ?_
            refine (shape_Tree.calls kt An cn s.N Ap cp s.P Az cz s.Z Ak ck s.K _ _ _ _ _ (Kd.C_below hCN.out E.out) hlN.out (Kd.C_below hCP.out E.out) hlP.out (Kd.C_below hCZ.out E.out) hlZ.out (Kd.C_below hCK.out E.out) hlK.out hkt.out).mono ?_
            rintro e w20 ⟨vu, rfl, hru, hb⟩
            obtain ⟨AU_, cU_, rfl, hu_⟩ := rd_R hru
            refine ⟨_, rfl, ?_⟩
            have E3_ := below_step E.out hb
            have U3_ : x.f3.length ≤ cU_ ∧ Kd.C k24 w20 AU_ x.f3.length x.f3 := ⟨hu_.1, Kd.F_now hu_.2⟩
            refine hK.out _ _ ⟨AU_, cU_, AV, cV, ((.agg #[.int .i64 x.f0, .string x.f1, .string x.f2, .slice AU_ x.f3.length cU_] : Value)), m6_, (by rw [ha.out]; exact putSel_upk 1 hb_ rfl rfl rfl), E3_, fun _ => U3_, fun _ => rfl, fun h0_ => absurd ((hoff 6 (by kernel_rfl)).symm.trans h0_) (by decide)⟩
          refine steps_cons ?_ ?_
          · rintro b a w' ⟨AU, cU, AV, cV, m1_, m6_, ha, Q_E, Q_U, Q_X1_, Q_X6_⟩ hb_ hon hoff
            refine ⟨_, rfl, fun K hK => ?_⟩
            have e1 : a.tmps[1]? = some (.pointer (some ⟨g1, 0, none⟩)) := by rw [ha]; exact (putSel_off rfl).trans rfl
            replace ha := Aside0.mk ha
            have E := Aside0.mk Q_E
            have hc0_ := pw_cell_below E.out hg1a
            have hc1_ := pw_cell_below E.out hg1b
            have hc2_ := pw_cell_below E.out hg1c
            have hc3_ := pw_cell_below E.out hg1d
            refine value_ (w1 := w') (v := (.agg #[.int .i64 x.f0, .string x.f1, .string x.f2, .slice A0 x.f3.length c0] : Value)) (by rfl) rfl ?_ ?_
            · go_simp
              (try simp only [i64_w])
              try rfl
            refine hK.out _ _ ⟨AU, cU, AV, cV, m1_, m6_, (by rw [ha.out]; exact putSel_upk 2 hb_ rfl rfl rfl), Q_E, Q_U, Q_X1_, fun h0_ => absurd ((hoff 6 (by kernel_rfl)).symm.trans h0_) (by decide)⟩
          refine steps_cons ?_ ?_
          · rintro b a w' ⟨AU, cU, AV, cV, m1_, m6_, ha, Q_E, Q_U, Q_X1_, Q_X6_⟩ hb_ hon hoff
            refine ⟨_, rfl, fun K hK => ?_⟩
            have e84 : a.tmps[84]? = some (m1_) := by rw [ha]; exact putSel_on (e := (1, 84, m1_)) 1 rfl rfl (hon 1 (by kernel_rfl)) rfl
            rw [Q_X1_ (hon 1 (by kernel_rfl))] at e84
            have e85 : a.tmps[85]? = some ((.agg #[.int .i64 x.f0, .string x.f1, .string x.f2, .slice A0 x.f3.length c0] : Value)) := by rw [ha]; exact putSel_on (e := (2, 85, (.agg #[.int .i64 x.f0, .string x.f1, .string x.f2, .slice A0 x.f3.length c0] : Value))) 2 rfl rfl (hon 2 (by kernel_rfl)) rfl
            replace ha := Aside0.mk ha
            have E := Aside0.mk Q_E
            have U := Aside0.mk (Q_U (hon 1 (by kernel_rfl)))
            refine goes_ Tryd.func13 (by kernel_rfl) rfl #[(.agg #[.int .i64 x.f0, .string x.f1, .string x.f2, .slice AU x.f3.length cU] : Value), (.agg #[.int .i64 x.f0, .string x.f1, .string x.f2, .slice A0 x.f3.length c0] : Value)] (by rfl) rfl rfl (by first | (simp only [List.map_toArray, List.map_cons, List.map_nil, Act.eval, Array.getD_eq_getD_getElem?, Option.getD_some, e84, e85]; done) | (simp only [List.map_toArray, List.map_cons, List.map_nil, Act.eval, Array.getD_eq_getD_getElem?, Option.getD_some, e84, e85]; rfl)) ?_
            refine (scarfref05_Same.calls ks x.f0 x.f1 x.f2 AU cU x.f3 x.f0 x.f1 x.f2 A0 c0 x.f3 true _ U.out.2 U.out.1 (Kd.C_below hCX.out E.out) hlX.out hks.out).mono ?_
            rintro e w20 ⟨rfl, hb⟩
            refine ⟨_, rfl, ?_⟩
            have E3_ := below_step E.out hb
            have U3_ := And.intro U.out.1 (Kd.C_below U.out.2 hb)
            refine hK.out _ _ ⟨AU, cU, AV, cV, m1_, m6_, (by rw [ha.out]; exact putSel_upk 3 hb_ rfl rfl rfl), E3_, fun _ => U3_, Q_X1_, fun h0_ => absurd ((hoff 6 (by kernel_rfl)).symm.trans h0_) (by decide)⟩
          refine steps_cons ?_ ?_
          · rintro b a w' ⟨AU, cU, AV, cV, m1_, m6_, ha, Q_E, Q_U, Q_X1_, Q_X6_⟩ hb_ hon hoff
            refine ⟨_, rfl, fun K hK => ?_⟩
            have e86 : a.tmps[86]? = some (.bool true) := by rw [ha]; exact putSel_on (e := (3, 86, .bool true)) 3 rfl rfl (hon 3 (by kernel_rfl)) rfl
            replace ha := Aside0.mk ha
            have E := Aside0.mk Q_E
            have U := Aside0.mk (Q_U (hon 1 (by kernel_rfl)))
            refine value_ (w1 := w') (v := .bool true) (by rfl) rfl ?_ ?_
            · go_simp
              (try simp only [i64_w])
              try rfl
            refine hK.out _ _ ⟨AU, cU, AV, cV, m1_, m6_, (by rw [ha.out]; exact putSel_upk 4 hb_ rfl rfl rfl), Q_E, Q_U, Q_X1_, fun h0_ => absurd ((hoff 6 (by kernel_rfl)).symm.trans h0_) (by decide)⟩
          refine steps_cons ?_ ?_
          · rintro b a w' ⟨AU, cU, AV, cV, m1_, m6_, ha, Q_E, Q_U, Q_X1_, Q_X6_⟩ hb_ hon hoff
            refine ⟨_, rfl, fun K hK => ?_⟩
            have e87 : a.tmps[87]? = some (.bool true) := by rw [ha]; exact putSel_on (e := (4, 87, .bool true)) 4 rfl rfl (hon 4 (by kernel_rfl)) rfl
            replace ha := Aside0.mk ha
            have E := Aside0.mk Q_E
            have U := Aside0.mk (Q_U (hon 1 (by kernel_rfl)))
            refine value_ (w1 := w') (v := (.agg #[.slice none 0 0, .slice none 0 0, .slice none 0 0, .slice none 0 0] : Value)) (wantedOn_ rfl rfl rfl (e87.trans (by first | rfl | (simp [*]; done)))) rfl ?_ ?_
            · go_simp
              (try simp only [i64_w])
              try rfl
            refine hK.out _ _ ⟨AU, cU, AV, cV, m1_, m6_, (by rw [ha.out]; exact putSel_upk 5 hb_ rfl rfl rfl), Q_E, Q_U, Q_X1_, fun h0_ => absurd ((hoff 6 (by kernel_rfl)).symm.trans h0_) (by decide)⟩
          refine steps_cons ?_ ?_
          · rintro b a w' ⟨AU, cU, AV, cV, m1_, m6_, ha, Q_E, Q_U, Q_X1_, Q_X6_⟩ hb_ hon hoff
            refine ⟨_, rfl, fun K hK => ?_⟩
            have e88 : a.tmps[88]? = some ((.agg #[.slice none 0 0, .slice none 0 0, .slice none 0 0, .slice none 0 0] : Value)) := by rw [ha]; exact putSel_on (e := (5, 88, (.agg #[.slice none 0 0, .slice none 0 0, .slice none 0 0, .slice none 0 0] : Value))) 5 rfl rfl (hon 5 (by kernel_rfl)) rfl
            have e87 : a.tmps[87]? = some (.bool true) := by rw [ha]; exact putSel_on (e := (4, 87, .bool true)) 4 rfl rfl (hon 4 (by kernel_rfl)) rfl
            replace ha := Aside0.mk ha
            have E := Aside0.mk Q_E
            have U := Aside0.mk (Q_U (hon 1 (by kernel_rfl)))
            refine goes_ Tryd.func14 (by kernel_rfl) rfl #[(.agg #[.slice none 0 0, .slice none 0 0, .slice none 0 0, .slice none 0 0] : Value)] (wantedOn_ rfl rfl rfl (e87.trans (by first | rfl | (simp [*]; done)))) rfl rfl (by first | (simp only [List.map_toArray, List.map_cons, List.map_nil, Act.eval, Array.getD_eq_getD_getElem?, Option.getD_some, e88, e87]; done) | (simp only [List.map_toArray, List.map_cons, List.map_nil, Act.eval, Array.getD_eq_getD_getElem?, Option.getD_some, e88, e87]; rfl)) ?_
            refine (shape_Tree.calls 0 none 0 [] none 0 [] none 0 [] none 0 [] _ _ _ _ _ (C_zero _ _ _) (Nat.le_refl _) (C_zero _ _ _) (Nat.le_refl _) (C_zero _ _ _) (Nat.le_refl _) (C_zero _ _ _) (Nat.le_refl _) tree_nil).mono ?_
            rintro e w20 ⟨vu, rfl, hru, hb⟩
            obtain ⟨AV_, cV_, rfl, _⟩ := rd_R hru
            refine ⟨_, rfl, ?_⟩
            have E3_ := below_step E.out hb
            have U3_ := And.intro U.out.1 (Kd.C_below U.out.2 hb)
            refine hK.out _ _ ⟨AU, cU, AV_, cV_, m1_, ((.agg #[.int .i64 0, .string ⟨#[]⟩, .string ⟨#[]⟩, .slice AV_ 0 cV_] : Value)), (by rw [ha.out]; exact putSel_upk 6 hb_ rfl rfl rfl), E3_, fun _ => U3_, Q_X1_, fun _ => rfl⟩
          refine steps_cons ?_ ?_
          · rintro b a w' ⟨AU, cU, AV, cV, m1_, m6_, ha, Q_E, Q_U, Q_X1_, Q_X6_⟩ hb_ hon hoff
            refine ⟨_, rfl, fun K hK => ?_⟩
            have e87 : a.tmps[87]? = some (.bool true) := by rw [ha]; exact putSel_on (e := (4, 87, .bool true)) 4 rfl rfl (hon 4 (by kernel_rfl)) rfl
            replace ha := Aside0.mk ha
            have E := Aside0.mk Q_E
            have U := Aside0.mk (Q_U (hon 1 (by kernel_rfl)))
            refine value_ (w1 := w') (v := (.agg #[.int .i64 0, .string ⟨#[]⟩, .string ⟨#[]⟩, .slice none 0 0] : Value)) (wantedOn_ rfl rfl rfl (e87.trans (by first | rfl | (simp [*]; done)))) rfl ?_ ?_
            · go_simp
              (try simp only [i64_w])
              try rfl
            refine hK.out _ _ ⟨AU, cU, AV, cV, m1_, m6_, (by rw [ha.out]; exact putSel_upk 7 hb_ rfl rfl rfl), Q_E, Q_U, Q_X1_, Q_X6_⟩
          refine steps_cons ?_ ?_
          · rintro b a w' ⟨AU, cU, AV, cV, m1_, m6_, ha, Q_E, Q_U, Q_X1_, Q_X6_⟩ hb_ hon hoff
            refine ⟨_, rfl, fun K hK => ?_⟩
            have e89 : a.tmps[89]? = some (m6_) := by rw [ha]; exact putSel_on (e := (6, 89, m6_)) 6 rfl rfl (hon 6 (by kernel_rfl)) rfl
            rw [Q_X6_ (hon 6 (by kernel_rfl))] at e89
            have e90 : a.tmps[90]? = some ((.agg #[.int .i64 0, .string ⟨#[]⟩, .string ⟨#[]⟩, .slice none 0 0] : Value)) := by rw [ha]; exact putSel_on (e := (7, 90, (.agg #[.int .i64 0, .string ⟨#[]⟩, .string ⟨#[]⟩, .slice none 0 0] : Value))) 7 rfl rfl (hon 7 (by kernel_rfl)) rfl
            have e87 : a.tmps[87]? = some (.bool true) := by rw [ha]; exact putSel_on (e := (4, 87, .bool true)) 4 rfl rfl (hon 4 (by kernel_rfl)) rfl
            replace ha := Aside0.mk ha
            have E := Aside0.mk Q_E
            have U := Aside0.mk (Q_U (hon 1 (by kernel_rfl)))
            refine goes_ Tryd.func13 (by kernel_rfl) rfl #[(.agg #[.int .i64 0, .string ⟨#[]⟩, .string ⟨#[]⟩, .slice AV 0 cV] : Value), (.agg #[.int .i64 0, .string ⟨#[]⟩, .string ⟨#[]⟩, .slice none 0 0] : Value)] (wantedOn_ rfl rfl rfl (e87.trans (by first | rfl | (simp [*]; done)))) rfl rfl (by first | (simp only [List.map_toArray, List.map_cons, List.map_nil, Act.eval, Array.getD_eq_getD_getElem?, Option.getD_some, e89, e90, e87]; done) | (simp only [List.map_toArray, List.map_cons, List.map_nil, Act.eval, Array.getD_eq_getD_getElem?, Option.getD_some, e89, e90, e87]; rfl)) ?_
            refine (scarfref05_Same.calls k0 0 ⟨#[]⟩ ⟨#[]⟩ AV cV [] 0 ⟨#[]⟩ ⟨#[]⟩ none 0 [] true _ (C_zero _ _ _) (Nat.zero_le _) (C_zero _ _ _) (Nat.zero_le _) hk0.out).mono ?_
            rintro e w20 ⟨rfl, hb⟩
            refine ⟨_, rfl, ?_⟩
            have E3_ := below_step E.out hb
            have U3_ := And.intro U.out.1 (Kd.C_below U.out.2 hb)
            refine hK.out _ _ ⟨AU, cU, AV, cV, m1_, m6_, (by rw [ha.out]; exact putSel_upk 8 hb_ rfl rfl rfl), E3_, fun _ => U3_, Q_X1_, Q_X6_⟩
          refine steps_cons ?_ ?_
          · rintro b a w' ⟨AU, cU, AV, cV, m1_, m6_, ha, Q_E, Q_U, Q_X1_, Q_X6_⟩ hb_ hon hoff
            refine ⟨_, rfl, fun K hK => ?_⟩
            have e87 : a.tmps[87]? = some (.bool true) := by rw [ha]; exact putSel_on (e := (4, 87, .bool true)) 4 rfl rfl (hon 4 (by kernel_rfl)) rfl
            have e91 : a.tmps[91]? = some (.bool true) := by rw [ha]; exact putSel_on (e := (8, 91, .bool true)) 8 rfl rfl (hon 8 (by kernel_rfl)) rfl
            replace ha := Aside0.mk ha
            have E := Aside0.mk Q_E
            have U := Aside0.mk (Q_U (hon 1 (by kernel_rfl)))
            refine value_ (w1 := w') (v := .bool true) (by rfl) rfl ?_ ?_
            · go_simp
              (try simp only [i64_w])
              try rfl
            refine hK.out _ _ ⟨AU, cU, AV, cV, m1_, m6_, (by rw [ha.out]; exact putSel_upk 9 hb_ rfl rfl rfl), Q_E, Q_U, Q_X1_, Q_X6_⟩
          refine steps_cons ?_ ?_
          · rintro b a w' ⟨AU, cU, AV, cV, m1_, m6_, ha, Q_E, Q_U, Q_X1_, Q_X6_⟩ hb_ hon hoff
            refine ⟨_, rfl, fun K hK => ?_⟩
            have e92 : a.tmps[92]? = some (.bool true) := by rw [ha]; exact putSel_on (e := (9, 92, .bool true)) 9 rfl rfl (hon 9 (by kernel_rfl)) rfl
            replace ha := Aside0.mk ha
            have E := Aside0.mk Q_E
            have U := Aside0.mk (Q_U (hon 1 (by kernel_rfl)))
            refine value_ (w1 := w') (v := .bool true) (by rfl) rfl ?_ ?_
            · go_simp
              (try simp only [i64_w])
              try rfl
            refine hK.out _ _ ⟨AU, cU, AV, cV, m1_, m6_, (by rw [ha.out]; exact putSel_upk 10 hb_ rfl rfl rfl), Q_E, Q_U, Q_X1_, Q_X6_⟩
          exact steps_nil
        · rintro b a w' hall ⟨AU, cU, AV, cV, m1_, m6_, ha, Q_E, Q_U, Q_X1_, Q_X6_⟩
          clear E
          have hb0_ := hall 0 (by kernel_rfl)
          have hb1_ := hall 1 (by kernel_rfl)
          have hb2_ := hall 2 (by kernel_rfl)
          have hb3_ := hall 3 (by kernel_rfl)
          have hb4_ := hall 4 (by kernel_rfl)
          have hb5_ := hall 5 (by kernel_rfl)
          have hb6_ := hall 6 (by kernel_rfl)
          have hb7_ := hall 7 (by kernel_rfl)
          have hb8_ := hall 8 (by kernel_rfl)
          have hb9_ := hall 9 (by kernel_rfl)
          have hb10_ := hall 10 (by kernel_rfl)
          subst ha
          obtain rfl := Q_X1_ hb1_
          obtain rfl := Q_X6_ hb6_
          simp only [putSel, hb0_, hb1_, hb2_, hb3_, hb4_, hb5_, hb6_, hb7_, hb8_, hb9_, hb10_, if_true, Act.put, List.setIfInBounds_toArray, List.set_cons_zero, List.set_cons_succ]
          have E := Aside0.mk Q_E
          clear Q_E
          have U := Aside0.mk (Q_U hb1_)
          clear Q_U
          have hE := E.out
          clear hall hb0_ hb1_ hb2_ hb3_ hb4_ hb5_ hb6_ hb7_ hb8_ hb9_ hb10_
          have S := Sd.keep hE
          clear hg3a hg3b hg3c hg3d hg1a hg1b hg1c hg1d hE hdr Sd
          go_wp2
          refine bodyPost_ret (results_tmp (t := 2) rfl _ _ _) rfl ?_
          exact ⟨rfl, S.below⟩
end Go.Proofs.YtfmlpkeaiohknaaDoor.Q
