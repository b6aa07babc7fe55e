/- The texts of this claim that lie below its row, in their order: GO. -/
import Derived.Test.YtfmlpkeaiohknaaZP11
/-! script.Of. -/
set_option linter.unusedVariables false
set_option linter.unusedSimpArgs false
namespace Go.Proofs.Ytfmlpkeaiohknaa.Q
open Go Go.RowKit Go.Lib Go.Sort Go.Proofs.YtfmlpkeaiohknaaW.PrintWords Go.Proofs.YtfmlpkeaiohknaaW.PrintLast Go.Proofs.YtfmlpkeaiohknaaW.PrintMore Go.Proofs.YtfmlpkeaiohknaaW.SL
attribute [local go_sem] max2_int min2_int max_two min_two max_three min_three max_four min_four
set_option maxHeartbeats 16000000 in
set_option maxRecDepth 100000 in
theorem sof_calls (xa xb : S24) {A B P : Option Addr} {c d e : Nat} (prs : List (Int × Int)) (w : World) (ha : Kd.C k24 w A xa.f3.length xa.f3) (hca : xa.f3.length ≤ c) (hb : Kd.C k24 w B xb.f3.length xb.f3) (hcb : xb.f3.length ≤ d) (hp : Kd.C kP w P prs.length prs) (hcp : prs.length ≤ e)
    (na : PlanOk xa) (nb : nsz xb ≤ 1000) (np : prs.length ≤ 1000) (hpb : PlanB (ofP xb)) (sF : Os) (hF : rightK (ofP xa).N (ofP xb).N prs = true → ofK (ofP xa).N (ofP xa).P (ofP xb).N (ofP xb).K prs = some sF) :
    Calls Try.prog 15 #[nodeV xa A c, nodeV xb B d, .slice P prs.length e] w fun e w' => Below w.heap.size w w' ∧ OfPost w (rightK (ofP xa).N (ofP xb).N prs) sF.ed e w' := by
  have S : Stt w (fun k => k < w.heap.size) [] [rdV kP P e prs, rdV k24 B d xb.f3, rdV k24 A c xa.f3] w := Stt.start w (by intro a ha'; simp only [List.mem_cons, List.not_mem_nil, or_false] at ha'; rcases ha' with rfl | rfl | rfl; exact ⟨hcp, Kd.C_F kP_heap hp⟩; exact ⟨hcb, Kd.C_F k24_heap hb⟩; exact ⟨hca, Kd.C_F k24_heap ha⟩)
  have HOa : ∀ {Z : Nat → Prop} {l : List Asr} {F : List FA} {W : World}, Stt w Z l F W → Kd.C k24 W A xa.f3.length xa.f3 → xa.f3.length ≤ c → Calls Try.prog 27 #[.agg #[.int .i64 xa.f0, .string xa.f1, .string xa.f2, .slice A xa.f3.length c]] W fun e w' => ∃ q : A8, e = .returned (.agg (q.u (ofP xa))) ∧ Below W.heap.size W w' ∧ Stt w (fun k => Z k ∨ (W.heap.size ≤ k ∧ k < w'.heap.size)) l (q.F (ofP xa) ++ F) w' := fun SW h1 h2 => of_calls SW xa (by have := na.sz; omega) h1 h2
  have HOb : ∀ {Z : Nat → Prop} {l : List Asr} {F : List FA} {W : World}, Stt w Z l F W → Kd.C k24 W B xb.f3.length xb.f3 → xb.f3.length ≤ d → Calls Try.prog 27 #[.agg #[.int .i64 xb.f0, .string xb.f1, .string xb.f2, .slice B xb.f3.length d]] W fun e w' => ∃ q : A8, e = .returned (.agg (q.u (ofP xb))) ∧ Below W.heap.size W w' ∧ Stt w (fun k => Z k ∨ (W.heap.size ≤ k ∧ k < w'.heap.size)) l (q.F (ofP xb) ++ F) w' := fun SW h1 h2 => of_calls SW xb (by omega) h1 h2
  have HRt : ∀ {Z : Nat → Prop} {l : List Asr} {W : World}, Stt w Z l [rdV kP P e prs, rdV k24 B d xb.f3, rdV k24 A c xa.f3] W → Calls Try.prog 26 #[.agg #[.int .i64 xa.f0, .string xa.f1, .string xa.f2, .slice A xa.f3.length c], .agg #[.int .i64 xb.f0, .string xb.f1, .string xb.f2, .slice B xb.f3.length d], .slice P prs.length e] W fun e w' => e = .returned (.bool (rightK (ofP xa).N (ofP xb).N prs)) ∧ Below W.heap.size W w' := fun SW => right_calls xa xb prs _ (SW.rdC 2 rfl) (SW.rdL 2 rfl) (SW.rdC 1 rfl) (SW.rdL 1 rfl) (SW.rdC 0 rfl) (SW.rdL 0 rfl) na.sz nb (by omega)
  have HG : ∀ {Z : Nat → Prop} {l : List Asr} {F : List FA} {W : World}, Stt w Z l F W → F[10]? = some (rdV k24 A c xa.f3) → Calls Try.prog 20 #[.agg #[.int .i64 xa.f0, .string xa.f1, .string xa.f2, .slice A xa.f3.length c]] W fun e w' => ∃ (gg bm : Nat) (Z' : Nat → Prop) (ad : Int → Nat), e = .returned (.pointer (some ⟨gg, 0, none⟩)) ∧ Grove w Z' F gg bm [] l 1000 ad (groveP (ofP xa).N (ofP xa).P (ofP xa).N.length) w' := fun SW h =>
    (grove_calls SW xa (by have := na.sz; omega) 10 h na.up na.plen (by have := na.len; have := na.sz; omega)).mono (by rintro e w' ⟨gb, bm, Z', ad, rfl, _, H⟩; exact ⟨gb, bm, Z', ad, rfl, H.up (by have := na.len; have := na.sz; omega)⟩)
  have hok0 : OsOk (ofP xb).N.length ⟨List.replicate (ofP xb).N.length (-1), ((ofP xa).N.length : Int), groveP (ofP xa).N (ofP xa).P (ofP xa).N.length, []⟩ := ⟨groveX_inv na, by have h1 := groveX_len xa; have := na.sz; have := na.len; unfold groveX at h1; rw [h1]; simp; omega, by simp⟩
  have hlen6 : (ofP xa).N.length ≤ 1000 ∧ (ofP xb).N.length ≤ 1000 := ⟨by have := na.sz; have := na.len; omega, by rw [ofP_len]; exact nb⟩
  obtain ⟨sa, hsa⟩ : ∃ s, s = ofP xa := ⟨_, rfl⟩
  obtain ⟨sb, hsb⟩ : ∃ s, s = ofP xb := ⟨_, rfl⟩
  rw [← hsa] at HOa HG hF HRt hlen6 hok0 ⊢
  rw [← hsb] at HOb hF HRt hpb hlen6 hok0 ⊢
  replace HOa := Aside0.mk @HOa
  replace HOb := Aside0.mk @HOb
  replace HRt := Aside0.mk @HRt
  replace HG := Aside0.mk @HG
  obtain ⟨nP, hnP⟩ : ∃ nP, prs.length = nP := ⟨_, rfl⟩
  have hB := Aside0.mk (⟨hnP, np, hpb, hlen6, hok0⟩ : _ ∧ _ ∧ _ ∧ _ ∧ _)
  rw [hnP] at HRt ⊢
  obtain ⟨R, hR⟩ : ∃ R, rightK sa.N sb.N prs = R := ⟨_, rfl⟩
  rw [hR] at HRt hF ⊢
  replace hR := Aside0.mk hR
  replace hF := Aside0.mk hF
  clear ha hca hb hcb hp hcp na nb np hsa hsb hnP hpb hlen6 hok0
  unfold nodeV
  have hmm := @run_makeMap Try.prog
  have hu24 := Try.underlying24
  have hu71 := Try.underlying71
  cases R with
  | false =>
    go_enter Try.func15, Try.ntmps15
    go_wp2_with (first | ((with_reducible refine gate_dst (N := 3) rfl ?_); refine box_event ?hg (N := 3) ?hd (cs := #[.int .i64 xa.f0, .string xa.f1, .string xa.f2, .slice A xa.f3.length c]) (t := 24) ?hr ?_; (case hd => rfl); (case hg => rfl); (case hr => first | (go_simp; done) | (go_simp; rfl)); intro ga hg_ w1 hbox hb; replace S := S.box hg_ hbox hb; clear hbox hb hg_; obtain ⟨⟨t0, t1, t2, t3⟩, t4, t5, t6, t7⟩ := box4 (S.at_blk 0 rfl)) | ((with_reducible refine gate_dst (N := 4) rfl ?_); refine box_event ?hg (N := 4) ?hd (cs := #[.int .i64 xb.f0, .string xb.f1, .string xb.f2, .slice B xb.f3.length d]) (t := 24) ?hr ?_; (case hd => rfl); (case hg => rfl); (case hr => first | (go_simp; done) | (go_simp; rfl)); intro gb hg_ w2 hbox hb; replace S := S.box hg_ hbox hb; clear hbox hb hg_; clear t0 t1 t2 t3 t4 t5 t6 t7; obtain ⟨⟨t0, t1, t2, t3⟩, t4, t5, t6, t7⟩ := box4 (S.at_blk 1 rfl); obtain ⟨⟨u0, u1, u2, u3⟩, u4, u5, u6, u7⟩ := box4 (S.at_blk 0 rfl)) | (go_at_call 26; refine (HRt.out S).mono ?_; rintro e_ w3 ⟨rfl, hb⟩; replace S := S.keep hb; clear hb))
    refine bodyPost_ret (results_tmp2 (t := 6) (u := 7) rfl _ _ _) rfl ?_
    exact ⟨S.below, rfl⟩
  | true =>
  replace hF := Aside0.mk (hF.out rfl)
  go_enter Try.func15, Try.ntmps15
  go_wp2_with (first | ((with_reducible refine gate_dst (N := 3) rfl ?_); refine box_event ?hg (N := 3) ?hd (cs := #[.int .i64 xa.f0, .string xa.f1, .string xa.f2, .slice A xa.f3.length c]) (t := 24) ?hr ?_; (case hd => rfl); (case hg => rfl); (case hr => first | (go_simp; done) | (go_simp; rfl)); intro ga hg_ w1 hbox hb; replace S := S.box hg_ hbox hb; clear hbox hb hg_; obtain ⟨⟨t0, t1, t2, t3⟩, t4, t5, t6, t7⟩ := box4 (S.at_blk 0 rfl)) | ((with_reducible refine gate_dst (N := 4) rfl ?_); refine box_event ?hg (N := 4) ?hd (cs := #[.int .i64 xb.f0, .string xb.f1, .string xb.f2, .slice B xb.f3.length d]) (t := 24) ?hr ?_; (case hd => rfl); (case hg => rfl); (case hr => first | (go_simp; done) | (go_simp; rfl)); intro gb hg_ w2 hbox hb; replace S := S.box hg_ hbox hb; clear hbox hb hg_; clear t0 t1 t2 t3 t4 t5 t6 t7; obtain ⟨⟨t0, t1, t2, t3⟩, t4, t5, t6, t7⟩ := box4 (S.at_blk 1 rfl); obtain ⟨⟨u0, u1, u2, u3⟩, u4, u5, u6, u7⟩ := box4 (S.at_blk 0 rfl)) | (go_at_call 26; refine (HRt.out S).mono ?_; rintro e_ w3 ⟨rfl, hb⟩; replace S := S.keep hb; clear hb; clear t0 t1 t2 t3 t4 t5 t6 t7; clear u0 u1 u2 u3 u4 u5 u6 u7))
  replace S := S.keep (below_drew1 (Below.refl w3.heap.size w3))
  have E : (Stt w (fun k => k < w.heap.size) (tpL 0 0 ga gb #[.int .i64 xa.f0, .string xa.f1, .string xa.f2, .slice A xa.f3.length c] #[.int .i64 xb.f0, .string xb.f1, .string xb.f2, .slice B xb.f3.length d] (A8.u ⟨none, 0, none, 0, none, 0, none, 0⟩ sa) (A8.u ⟨none, 0, none, 0, none, 0, none, 0⟩ sb) [] (fun _ => false)) (tpF [rdV kP P e prs, rdV k24 B d xb.f3, rdV k24 A c xa.f3] sa sb ⟨none, 0, none, 0, none, 0, none, 0⟩ ⟨none, 0, none, 0, none, 0, none, 0⟩ (fun _ => false)) w3.drew) := S.with (S.st.emp_new.emp_new)
  clear S
  refine start_ (n := 8) (S := fun w' => True) (ds := []) #[false, false, false, false, false, false, false, false] (by kernel_rfl) rfl rfl trivial (fun hHeld => ?_)
  refine with_tabW sof.tab3 sof.bits3 (fun HT_ HW_ => ?_)
  generalize w3.drew = w3_ at E hHeld ⊢
  refine inv_at [0, 1, 2, 3, 4, 5, 6, 7] (fun a0_ b a w' => ∃ (ZZ : Nat → Prop) (g3 : Nat) (g4 : Nat) (p8 : A8) (q8 : A8) (m1_ : Value) (m3_ : Value) (m4_ : Value) (m5_ : Value), a = putSel a0_ b [(0, 39, (.agg #[.int .i64 xa.f0, .string xa.f1, .string xa.f2, .slice A xa.f3.length c] : Value)), (1, 40, m1_), (2, 41, (.agg #[.int .i64 xb.f0, .string xb.f1, .string xb.f2, .slice B xb.f3.length d] : Value)), (3, 42, m3_), (4, 8, m4_), (5, 9, m5_)] ∧ ((Stt w ZZ (tpL g3 g4 ga gb #[.int .i64 xa.f0, .string xa.f1, .string xa.f2, .slice A xa.f3.length c] #[.int .i64 xb.f0, .string xb.f1, .string xb.f2, .slice B xb.f3.length d] (A8.u p8 sa) (A8.u q8 sb) [] b) (tpF [rdV kP P e prs, rdV k24 B d xb.f3, rdV k24 A c xa.f3] sa sb p8 q8 b) w')) ∧ (b 1 = true → (m1_ : Value) = (.agg (A8.u p8 sa))) ∧ (b 3 = true → (m3_ : Value) = (.agg (A8.u q8 sb))) ∧ (b 4 = true → (m4_ : Value) = .pointer (some ⟨g3, 0, none⟩)) ∧ (b 5 = true → (m5_ : Value) = .pointer (some ⟨g4, 0, none⟩))) HT_.out HW_.out (by kernel_rfl) (by kernel_rfl) ?_ ?_ ?_
  · exact ⟨(fun k => k < w.heap.size), 0, 0, ⟨none, 0, none, 0, none, 0, none, 0⟩, ⟨none, 0, none, 0, none, 0, none, 0⟩, .bool false, .bool false, .bool false, .bool false, by simp only [putSel, Bool.false_eq_true, if_false], E, fun h_ => absurd h_ (by decide), fun h_ => absurd h_ (by decide), fun h_ => absurd h_ (by decide), fun h_ => absurd h_ (by decide)⟩
  · skip
    clear E
    refine steps_cons ?_ ?_
    · rintro b a w' ⟨ZZ, g3, g4, p8, q8, m1_, m3_, m4_, m5_, ha, Q_E, Q_X1_, Q_X3_, Q_X4_, Q_X5_⟩ hb_ hon hoff
      refine ⟨_, rfl, fun K hK => ?_⟩
      have e3 : a.tmps[3]? = some (.pointer (some ⟨ga, 0, none⟩)) := by rw [ha]; exact (putSel_off rfl).trans rfl
      replace ha := Aside0.mk ha
      have E := Aside0.mk Q_E
      obtain ⟨⟨hc0_, hc1_, hc2_, hc3_⟩, _⟩ := box4 (E.out.at_blk 3 rfl)
      refine value_ (w1 := w') (v := (.agg #[.int .i64 xa.f0, .string xa.f1, .string xa.f2, .slice A xa.f3.length c] : Value)) (by rfl) rfl ?_ ?_
      · go_simp
        (try simp only [i64_w])
        try rfl
      refine hK.out _ _ ⟨ZZ, g3, g4, p8, q8, m1_, m3_, m4_, m5_, (by rw [ha.out]; exact putSel_upk 0 hb_ rfl rfl rfl), Q_E, fun h0_ => absurd ((hoff 1 (by kernel_rfl)).symm.trans h0_) (by decide), fun h0_ => absurd ((hoff 3 (by kernel_rfl)).symm.trans h0_) (by decide), Q_X4_, Q_X5_⟩
    refine steps_cons ?_ ?_
    · rintro b a w' ⟨ZZ, g3, g4, p8, q8, m1_, m3_, m4_, m5_, ha, Q_E, Q_X1_, Q_X3_, Q_X4_, Q_X5_⟩ hb_ hon hoff
      refine ⟨_, rfl, fun K hK => ?_⟩
      have e39 : a.tmps[39]? = some ((.agg #[.int .i64 xa.f0, .string xa.f1, .string xa.f2, .slice A xa.f3.length c] : Value)) := by rw [ha]; exact putSel_on (e := (0, 39, (.agg #[.int .i64 xa.f0, .string xa.f1, .string xa.f2, .slice A xa.f3.length c] : Value))) 0 rfl rfl (hon 0 (by kernel_rfl)) rfl
      replace ha := Aside0.mk ha
      have E := Aside0.mk Q_E
      refine goes_ Try.func27 (by kernel_rfl) rfl #[.agg #[.int .i64 xa.f0, .string xa.f1, .string xa.f2, .slice A xa.f3.length c]] (by rfl) rfl rfl (by first | (simp only [List.map_toArray, List.map_cons, List.map_nil, Act.eval, Array.getD_eq_getD_getElem?, Option.getD_some, e39]; done) | (simp only [List.map_toArray, List.map_cons, List.map_nil, Act.eval, Array.getD_eq_getD_getElem?, Option.getD_some, e39]; rfl)) ?_
      refine (HOa.out E.out (E.out.rdC 2 (by simp only [tpF, hb_, (hoff 3 (by kernel_rfl))]; rfl)) (E.out.rdL 2 (by simp only [tpF, hb_, (hoff 3 (by kernel_rfl))]; rfl))).mono ?_
      rintro e w20 ⟨p_, rfl, hb, E2_⟩
      refine ⟨_, rfl, ?_⟩
      have E3_ : (Stt w (fun k => ZZ k ∨ (w'.heap.size ≤ k ∧ k < w20.heap.size)) (tpL g3 g4 ga gb #[.int .i64 xa.f0, .string xa.f1, .string xa.f2, .slice A xa.f3.length c] #[.int .i64 xb.f0, .string xb.f1, .string xb.f2, .slice B xb.f3.length d] (A8.u p_ sa) (A8.u q8 sb) [] (up b 1)) (tpF [rdV kP P e prs, rdV k24 B d xb.f3, rdV k24 A c xa.f3] sa sb p_ q8 (up b 1)) w20) := by have h_ := E2_; simp only [tpF, tpL, List.cons_append, List.nil_append, List.append_nil, List.set_cons_zero, List.set_cons_succ, List.setIfInBounds_toArray, up, Nat.reduceEqDiff, reduceIte, cond_true, cond_false, hb_, (hoff 3 (by kernel_rfl)), (hoff 6 (by kernel_rfl)), (hoff 7 (by kernel_rfl))] at h_ ⊢; exact h_
      refine hK.out _ _ ⟨(fun k => ZZ k ∨ (w'.heap.size ≤ k ∧ k < w20.heap.size)), g3, g4, p_, q8, ((.agg (A8.u p_ sa))), m3_, m4_, m5_, (by rw [ha.out]; exact putSel_upk 1 hb_ rfl rfl rfl), E3_, fun _ => rfl, fun h0_ => absurd ((hoff 3 (by kernel_rfl)).symm.trans h0_) (by decide), Q_X4_, Q_X5_⟩
    refine steps_cons ?_ ?_
    · rintro b a w' ⟨ZZ, g3, g4, p8, q8, m1_, m3_, m4_, m5_, ha, Q_E, Q_X1_, Q_X3_, Q_X4_, Q_X5_⟩ hb_ hon hoff
      refine ⟨_, rfl, fun K hK => ?_⟩
      have e4 : a.tmps[4]? = some (.pointer (some ⟨gb, 0, none⟩)) := by rw [ha]; exact (putSel_off rfl).trans rfl
      replace ha := Aside0.mk ha
      have E := Aside0.mk Q_E
      obtain ⟨⟨hc0_, hc1_, hc2_, hc3_⟩, _⟩ := box4 (E.out.at_blk 2 rfl)
      refine value_ (w1 := w') (v := (.agg #[.int .i64 xb.f0, .string xb.f1, .string xb.f2, .slice B xb.f3.length d] : Value)) (by rfl) rfl ?_ ?_
      · go_simp
        (try simp only [i64_w])
        try rfl
      refine hK.out _ _ ⟨ZZ, g3, g4, p8, q8, m1_, m3_, m4_, m5_, (by rw [ha.out]; exact putSel_upk 2 hb_ rfl rfl rfl), Q_E, Q_X1_, fun h0_ => absurd ((hoff 3 (by kernel_rfl)).symm.trans h0_) (by decide), Q_X4_, Q_X5_⟩
    refine steps_cons ?_ ?_
    · rintro b a w' ⟨ZZ, g3, g4, p8, q8, m1_, m3_, m4_, m5_, ha, Q_E, Q_X1_, Q_X3_, Q_X4_, Q_X5_⟩ hb_ hon hoff
      refine ⟨_, rfl, fun K hK => ?_⟩
      have e41 : a.tmps[41]? = some ((.agg #[.int .i64 xb.f0, .string xb.f1, .string xb.f2, .slice B xb.f3.length d] : Value)) := by rw [ha]; exact putSel_on (e := (2, 41, (.agg #[.int .i64 xb.f0, .string xb.f1, .string xb.f2, .slice B xb.f3.length d] : Value))) 2 rfl rfl (hon 2 (by kernel_rfl)) rfl
      replace ha := Aside0.mk ha
      have E := Aside0.mk Q_E
      refine goes_ Try.func27 (by kernel_rfl) rfl #[.agg #[.int .i64 xb.f0, .string xb.f1, .string xb.f2, .slice B xb.f3.length d]] (by rfl) rfl rfl (by first | (simp only [List.map_toArray, List.map_cons, List.map_nil, Act.eval, Array.getD_eq_getD_getElem?, Option.getD_some, e41]; done) | (simp only [List.map_toArray, List.map_cons, List.map_nil, Act.eval, Array.getD_eq_getD_getElem?, Option.getD_some, e41]; rfl)) ?_
      refine (HOb.out E.out (E.out.rdC 5 (by simp only [tpF, hb_, (hon 1 (by kernel_rfl)), cond_true]; rfl)) (E.out.rdL 5 (by simp only [tpF, hb_, (hon 1 (by kernel_rfl)), cond_true]; rfl))).mono ?_
      rintro e w20 ⟨p_, rfl, hb, E2_⟩
      refine ⟨_, rfl, ?_⟩
      have E3_ : (Stt w (fun k => ZZ k ∨ (w'.heap.size ≤ k ∧ k < w20.heap.size)) (tpL g3 g4 ga gb #[.int .i64 xa.f0, .string xa.f1, .string xa.f2, .slice A xa.f3.length c] #[.int .i64 xb.f0, .string xb.f1, .string xb.f2, .slice B xb.f3.length d] (A8.u p8 sa) (A8.u p_ sb) [] (up b 3)) (tpF [rdV kP P e prs, rdV k24 B d xb.f3, rdV k24 A c xa.f3] sa sb p8 p_ (up b 3)) w20) := by have h_ := E2_; simp only [tpF, tpL, List.cons_append, List.nil_append, List.append_nil, List.set_cons_zero, List.set_cons_succ, List.setIfInBounds_toArray, up, Nat.reduceEqDiff, reduceIte, cond_true, cond_false, hb_, (hon 1 (by kernel_rfl)), (hoff 6 (by kernel_rfl)), (hoff 7 (by kernel_rfl))] at h_ ⊢; exact h_
      refine hK.out _ _ ⟨(fun k => ZZ k ∨ (w'.heap.size ≤ k ∧ k < w20.heap.size)), g3, g4, p8, p_, m1_, ((.agg (A8.u p_ sb))), m4_, m5_, (by rw [ha.out]; exact putSel_upk 3 hb_ rfl rfl rfl), E3_, Q_X1_, fun _ => rfl, Q_X4_, Q_X5_⟩
    refine steps_cons ?_ ?_
    · rintro b a w' ⟨ZZ, g3, g4, p8, q8, m1_, m3_, m4_, m5_, ha, Q_E, Q_X1_, Q_X3_, Q_X4_, Q_X5_⟩ hb_ hon hoff
      refine ⟨_, rfl, fun K hK => ?_⟩
      replace ha := Aside0.mk ha
      have E := Aside0.mk Q_E
      refine value_ (w1 := w'.alloc (.cells #[.slice none 0 0, .slice none 0 0, .slice none 0 0, .slice none 0 0] 71)) (v := .pointer (some ⟨w'.heap.size, 0, none⟩)) (by rfl) rfl ?_ ?_
      · go_simp
        try rfl
      have E2_ := E.out.newAt 0 (by simp only [tpL, hb_]; rfl) #[.slice none 0 0, .slice none 0 0, .slice none 0 0, .slice none 0 0] 71
      have E3_ : (Stt w ZZ (tpL w'.heap.size g4 ga gb #[.int .i64 xa.f0, .string xa.f1, .string xa.f2, .slice A xa.f3.length c] #[.int .i64 xb.f0, .string xb.f1, .string xb.f2, .slice B xb.f3.length d] (A8.u p8 sa) (A8.u q8 sb) [] (up b 4)) (tpF [rdV kP P e prs, rdV k24 B d xb.f3, rdV k24 A c xa.f3] sa sb p8 q8 (up b 4)) (w'.alloc (.cells #[.slice none 0 0, .slice none 0 0, .slice none 0 0, .slice none 0 0] 71))) := by have h_ := E2_; simp only [tpF, tpL, List.cons_append, List.nil_append, List.append_nil, List.set_cons_zero, List.set_cons_succ, List.setIfInBounds_toArray, up, Nat.reduceEqDiff, reduceIte, cond_true, cond_false, hb_, (hoff 6 (by kernel_rfl))] at h_ ⊢; exact h_
      refine hK.out _ _ ⟨ZZ, w'.heap.size, g4, p8, q8, m1_, m3_, (.pointer (some ⟨w'.heap.size, 0, none⟩)), m5_, (by rw [ha.out]; exact putSel_upk 4 hb_ rfl rfl rfl), E3_, Q_X1_, Q_X3_, fun _ => rfl, Q_X5_⟩
    refine steps_cons ?_ ?_
    · rintro b a w' ⟨ZZ, g3, g4, p8, q8, m1_, m3_, m4_, m5_, ha, Q_E, Q_X1_, Q_X3_, Q_X4_, Q_X5_⟩ hb_ hon hoff
      refine ⟨_, rfl, fun K hK => ?_⟩
      replace ha := Aside0.mk ha
      have E := Aside0.mk Q_E
      refine value_ (w1 := w'.alloc (.cells #[.slice none 0 0, .slice none 0 0, .slice none 0 0, .slice none 0 0] 71)) (v := .pointer (some ⟨w'.heap.size, 0, none⟩)) (by rfl) rfl ?_ ?_
      · go_simp
        try rfl
      have E2_ := E.out.newAt 1 (by simp only [tpL, hb_]; rfl) #[.slice none 0 0, .slice none 0 0, .slice none 0 0, .slice none 0 0] 71
      have E3_ : (Stt w ZZ (tpL g3 w'.heap.size ga gb #[.int .i64 xa.f0, .string xa.f1, .string xa.f2, .slice A xa.f3.length c] #[.int .i64 xb.f0, .string xb.f1, .string xb.f2, .slice B xb.f3.length d] (A8.u p8 sa) (A8.u q8 sb) [] (up b 5)) (tpF [rdV kP P e prs, rdV k24 B d xb.f3, rdV k24 A c xa.f3] sa sb p8 q8 (up b 5)) (w'.alloc (.cells #[.slice none 0 0, .slice none 0 0, .slice none 0 0, .slice none 0 0] 71))) := by have h_ := E2_; simp only [tpF, tpL, List.cons_append, List.nil_append, List.append_nil, List.set_cons_zero, List.set_cons_succ, List.setIfInBounds_toArray, up, Nat.reduceEqDiff, reduceIte, cond_true, cond_false, hb_, (hoff 7 (by kernel_rfl))] at h_ ⊢; exact h_
      refine hK.out _ _ ⟨ZZ, g3, w'.heap.size, p8, q8, m1_, m3_, m4_, (.pointer (some ⟨w'.heap.size, 0, none⟩)), (by rw [ha.out]; exact putSel_upk 5 hb_ rfl rfl rfl), E3_, Q_X1_, Q_X3_, Q_X4_, fun _ => rfl⟩
    refine steps_cons ?_ ?_
    · rintro b a w' ⟨ZZ, g3, g4, p8, q8, m1_, m3_, m4_, m5_, ha, Q_E, Q_X1_, Q_X3_, Q_X4_, Q_X5_⟩ hb_ hon hoff
      refine ⟨_, rfl, fun K hK => ?_⟩
      have e8 : a.tmps[8]? = some (m4_) := by rw [ha]; exact putSel_on (e := (4, 8, m4_)) 4 rfl rfl (hon 4 (by kernel_rfl)) rfl
      rw [Q_X4_ (hon 4 (by kernel_rfl))] at e8
      have e40 : a.tmps[40]? = some (m1_) := by rw [ha]; exact putSel_on (e := (1, 40, m1_)) 1 rfl rfl (hon 1 (by kernel_rfl)) rfl
      rw [Q_X1_ (hon 1 (by kernel_rfl))] at e40
      replace ha := Aside0.mk ha
      have E := Aside0.mk Q_E
      simp only [A8.u] at e40
      obtain ⟨⟨hc0_, hc1_, hc2_, hc3_⟩, hf0_, hf1_, hf2_, hf3_⟩ := box4 (c0 := .slice none 0 0) (c1 := .slice none 0 0) (c2 := .slice none 0 0) (c3 := .slice none 0 0) (E.out.at_blk 0 (by simp only [tpL, (hon 4 (by kernel_rfl)), hb_]; rfl))
      refine skip_ (w1 := ((((w'.setCell ⟨g3, 0, none⟩ (.slice p8.an sa.N.length p8.cn)).setCell ⟨g3, 1, none⟩ (.slice p8.ap sa.P.length p8.cp)).setCell ⟨g3, 2, none⟩ (.slice p8.az sa.Z.length p8.cz)).setCell ⟨g3, 3, none⟩ (.slice p8.ak sa.K.length p8.ck))) (by rfl) rfl ?_ ?_
      · go_simp
        try rfl
      have E2_ := E.out.set4At 0 (c0 := .slice none 0 0) (c1 := .slice none 0 0) (c2 := .slice none 0 0) (c3 := .slice none 0 0) (by simp only [tpL, (hon 4 (by kernel_rfl)), hb_]; rfl) (.slice p8.an sa.N.length p8.cn) (.slice p8.ap sa.P.length p8.cp) (.slice p8.az sa.Z.length p8.cz) (.slice p8.ak sa.K.length p8.ck)
      have E3_ : (Stt w ZZ (tpL g3 g4 ga gb #[.int .i64 xa.f0, .string xa.f1, .string xa.f2, .slice A xa.f3.length c] #[.int .i64 xb.f0, .string xb.f1, .string xb.f2, .slice B xb.f3.length d] (A8.u p8 sa) (A8.u q8 sb) [] (up b 6)) (tpF [rdV kP P e prs, rdV k24 B d xb.f3, rdV k24 A c xa.f3] sa sb p8 q8 (up b 6)) ((((w'.setCell ⟨g3, 0, none⟩ (.slice p8.an sa.N.length p8.cn)).setCell ⟨g3, 1, none⟩ (.slice p8.ap sa.P.length p8.cp)).setCell ⟨g3, 2, none⟩ (.slice p8.az sa.Z.length p8.cz)).setCell ⟨g3, 3, none⟩ (.slice p8.ak sa.K.length p8.ck))) := by have h_ := E2_; simp only [tpF, tpL, List.cons_append, List.nil_append, List.append_nil, List.set_cons_zero, List.set_cons_succ, List.setIfInBounds_toArray, up, Nat.reduceEqDiff, reduceIte, cond_true, cond_false, hb_, (hon 4 (by kernel_rfl)), (hon 1 (by kernel_rfl)), (hon 3 (by kernel_rfl))] at h_ ⊢; exact h_
      refine hK.out _ _ ⟨ZZ, g3, g4, p8, q8, m1_, m3_, m4_, m5_, (by rw [ha.out]; exact putSel_none (v := undef) rfl), E3_, Q_X1_, Q_X3_, Q_X4_, Q_X5_⟩
    refine steps_cons ?_ ?_
    · rintro b a w' ⟨ZZ, g3, g4, p8, q8, m1_, m3_, m4_, m5_, ha, Q_E, Q_X1_, Q_X3_, Q_X4_, Q_X5_⟩ hb_ hon hoff
      refine ⟨_, rfl, fun K hK => ?_⟩
      have e9 : a.tmps[9]? = some (m5_) := by rw [ha]; exact putSel_on (e := (5, 9, m5_)) 5 rfl rfl (hon 5 (by kernel_rfl)) rfl
      rw [Q_X5_ (hon 5 (by kernel_rfl))] at e9
      have e42 : a.tmps[42]? = some (m3_) := by rw [ha]; exact putSel_on (e := (3, 42, m3_)) 3 rfl rfl (hon 3 (by kernel_rfl)) rfl
      rw [Q_X3_ (hon 3 (by kernel_rfl))] at e42
      replace ha := Aside0.mk ha
      have E := Aside0.mk Q_E
      simp only [A8.u] at e42
      obtain ⟨⟨hc0_, hc1_, hc2_, hc3_⟩, hf0_, hf1_, hf2_, hf3_⟩ := box4 (c0 := .slice none 0 0) (c1 := .slice none 0 0) (c2 := .slice none 0 0) (c3 := .slice none 0 0) (E.out.at_blk 1 (by simp only [tpL, (hon 5 (by kernel_rfl)), hb_]; rfl))
      refine skip_ (w1 := ((((w'.setCell ⟨g4, 0, none⟩ (.slice q8.an sb.N.length q8.cn)).setCell ⟨g4, 1, none⟩ (.slice q8.ap sb.P.length q8.cp)).setCell ⟨g4, 2, none⟩ (.slice q8.az sb.Z.length q8.cz)).setCell ⟨g4, 3, none⟩ (.slice q8.ak sb.K.length q8.ck))) (by rfl) rfl ?_ ?_
      · go_simp
        try rfl
      have E2_ := E.out.set4At 1 (c0 := .slice none 0 0) (c1 := .slice none 0 0) (c2 := .slice none 0 0) (c3 := .slice none 0 0) (by simp only [tpL, (hon 5 (by kernel_rfl)), hb_]; rfl) (.slice q8.an sb.N.length q8.cn) (.slice q8.ap sb.P.length q8.cp) (.slice q8.az sb.Z.length q8.cz) (.slice q8.ak sb.K.length q8.ck)
      have E3_ : (Stt w ZZ (tpL g3 g4 ga gb #[.int .i64 xa.f0, .string xa.f1, .string xa.f2, .slice A xa.f3.length c] #[.int .i64 xb.f0, .string xb.f1, .string xb.f2, .slice B xb.f3.length d] (A8.u p8 sa) (A8.u q8 sb) [] (up b 7)) (tpF [rdV kP P e prs, rdV k24 B d xb.f3, rdV k24 A c xa.f3] sa sb p8 q8 (up b 7)) ((((w'.setCell ⟨g4, 0, none⟩ (.slice q8.an sb.N.length q8.cn)).setCell ⟨g4, 1, none⟩ (.slice q8.ap sb.P.length q8.cp)).setCell ⟨g4, 2, none⟩ (.slice q8.az sb.Z.length q8.cz)).setCell ⟨g4, 3, none⟩ (.slice q8.ak sb.K.length q8.ck))) := by have h_ := E2_; simp only [tpF, tpL, List.cons_append, List.nil_append, List.append_nil, List.set_cons_zero, List.set_cons_succ, List.setIfInBounds_toArray, up, Nat.reduceEqDiff, reduceIte, cond_true, cond_false, hb_, (hon 5 (by kernel_rfl)), (hon 3 (by kernel_rfl)), (hon 3 (by kernel_rfl)), (hon 6 (by kernel_rfl))] at h_ ⊢; exact h_
      refine hK.out _ _ ⟨ZZ, g3, g4, p8, q8, m1_, m3_, m4_, m5_, (by rw [ha.out]; exact putSel_none (v := undef) rfl), E3_, Q_X1_, Q_X3_, Q_X4_, Q_X5_⟩
    exact steps_nil
  · rintro b a w' hall ⟨ZZ, g3, g4, p8, q8, m1_, m3_, m4_, m5_, ha, Q_E, Q_X1_, Q_X3_, Q_X4_, Q_X5_⟩
    clear E
    have hb0_ := hall 0 (by kernel_rfl)
    have hb1_ := hall 1 (by kernel_rfl)
    have hb2_ := hall 2 (by kernel_rfl)
    have hb3_ := hall 3 (by kernel_rfl)
    have hb4_ := hall 4 (by kernel_rfl)
    have hb5_ := hall 5 (by kernel_rfl)
    have hb6_ := hall 6 (by kernel_rfl)
    have hb7_ := hall 7 (by kernel_rfl)
    subst ha
    obtain rfl := Q_X1_ hb1_
    obtain rfl := Q_X3_ hb3_
    obtain rfl := Q_X4_ hb4_
    obtain rfl := Q_X5_ hb5_
    simp only [putSel, hb0_, hb1_, hb2_, hb3_, hb4_, hb5_, hb6_, hb7_, if_true, Act.put, List.setIfInBounds_toArray, List.set_cons_zero, List.set_cons_succ]
    have E := Aside0.mk Q_E
    clear Q_E
    have S := E.out; simp only [tpL, tpF, cond_true, hb1_, hb3_, hb4_, hb5_, hb6_, hb7_, A8.u, A8.F, List.cons_append, List.nil_append] at S
    clear hall hb0_ hb1_ hb2_ hb3_ hb4_ hb5_ hb6_ hb7_
    clear E
    obtain ⟨an, cn, ap, cp, az, cz, ak, ck⟩ := p8
    obtain ⟨bn, dn, bp, dp, bz, dz, bk, dk⟩ := q8
    dsimp only at S ⊢
    obtain ⟨nA, hnA⟩ : ∃ nA, sa.N.length = nA := ⟨_, rfl⟩
    obtain ⟨nB, hnB⟩ : ∃ nB, sb.N.length = nB := ⟨_, rfl⟩
    have hkl := hB.out.2.2.1.klen
    rw [hnB] at hkl
    rw [hnA, hnB, hkl] at S
    have hA6 : nA ≤ 1000 := by rw [← hnA]; exact hB.out.2.2.2.1.1
    have hB6 : nB ≤ 1000 := by rw [← hnB]; exact hB.out.2.2.2.1.2
    have hmk := make_ints nB (by omega)
    have HN := Aside0.mk (⟨hnA, hnB, hkl, hA6, hB6⟩ : _ ∧ _ ∧ _ ∧ _ ∧ _)
    clear HOa HOb hHeld HRt hnA hnB hkl hA6 hB6
    obtain ⟨w4, hw4⟩ : ∃ q, q = w' := ⟨_, rfl⟩
    rw [← hw4] at S ⊢
    clear hw4
    obtain ⟨⟨t0, t1, t2, t3⟩, t4, t5, t6, t7⟩ := box4 (S.at_blk 3 rfl)
    go_upto_block 0 with (first | (go_at_call 20; refine (HG.out S rfl).mono ?_; rintro e_ w5 ⟨gg, bm, Z5, ad0, rfl, H⟩; clear S; clear t0 t1 t2 t3 t4 t5 t6 t7) | ((with_reducible refine gate_dst (N := 10) rfl ?_); refine box_event ?hg (N := 10) ?hd (cs := #[.pointer none]) (t := 56) ?hr ?_; (case hd => rfl); (case hg => rfl); (case hr => first | (go_simp; done) | (go_simp; rfl)); intro g10 hg_ w6 hbox hb; replace H := H.box hg_ hbox hb; clear hbox hb hg_; have v0 := (blk_cell (H.blkAt (k := 0) rfl) 0).trans (show (#[Value.pointer none] : Array Value)[0]? = some (.pointer none) from rfl); have v0f := blk_frozen (H.blkAt (k := 0) rfl) 0) | ((with_reducible refine gate_dst (N := 11) rfl ?_); refine box_event ?hg (N := 11) ?hd (cs := #[.slice none 0 0]) (t := 29) ?hr ?_; (case hd => rfl); (case hg => rfl); (case hr => first | (go_simp; done) | (go_simp; rfl)); intro g11 hg_ w7 hbox hb; have H2 := (H.setAt (k := 0) rfl 0 (.pointer (some ⟨gg, 0, none⟩))).box hg_ hbox hb; clear v0 v0f H; have H := H2; clear H2; clear hbox hb hg_; have p0 : w7.cell? ⟨g4, 0, none⟩ = some (.slice bn nB dn) := (blk_cell (H.blkAt (k := 3) rfl) 0).trans rfl))
    have H1 := H.add (a := rowOf k54 54 w.heap.size (.slice none 0 0) []) (fun L S => stt_rowOf_nil S)
    have H2 := H1.box (g := w7.heap.size) rfl (heap_alloc_new w7 (.cells (iA (List.replicate nB 0)) 3)) (below_alloc (Below.refl _ _) _)
    obtain ⟨gn, hgn⟩ : ∃ g, w7.heap.size = g := ⟨_, rfl⟩
    have H3 := H2.add (w' := (w7.alloc (.cells (iA (List.replicate nB 0)) 3)).alloc (.map #[] 0)) (fun L S => set_new S)
    have e7 : (w7.alloc (.cells (iA (List.replicate nB 0)) 3)).heap.size = gn + 1 := by rw [← hgn]; simp
    rw [e7, hgn] at H3
    have hgn1 : w7.heap.size + 1 = gn + 1 := by rw [hgn]
    obtain ⟨bkm, hbk⟩ : ∃ b, gn + 1 = b := ⟨_, rfl⟩
    rw [hbk] at H3 hgn1
    obtain ⟨w8, hw8⟩ : ∃ q, (w7.alloc (.cells (iA (List.replicate nB 0)) 3)).alloc (.map #[] 0) = q := ⟨_, rfl⟩
    rw [hw8] at H3 ⊢
    rw [hgn1, hgn]
    have H4 : Grove w Z5 [rdV k24 bn dn sb.N, rdV (Kd.int .i64) bp dp sb.P, rdV (Kd.int .i64) bz dz sb.Z, rdV (Kd.slice 3 (Kd.int .i64)) bk dk sb.K, rdV k24 an cn sa.N, rdV (Kd.int .i64) ap cp sa.P, rdV (Kd.int .i64) az cz sa.Z, rdV (Kd.slice 3 (Kd.int .i64)) ak ck sa.K, rdV kP P e prs, rdV k24 B d xb.f3, rdV k24 A c xa.f3] gg bm [] (ofX w.heap.size g10 g11 gg (.slice none 0 0) [] [mpS bkm 0 (fun _ => false), blk gn 3 (iA (List.replicate nB 0)), blk g3 71 #[.slice an nA cn, .slice ap sa.P.length cp, .slice az sa.Z.length cz, .slice ak sa.K.length ck], blk g4 71 #[.slice bn nB dn, .slice bp sb.P.length dp, .slice bz sb.Z.length dz, .slice bk nB dk], blk gb 24 #[.int .i64 xb.f0, .string xb.f1, .string xb.f2, .slice B xb.f3.length d], blk ga 24 #[.int .i64 xa.f0, .string xa.f1, .string xa.f2, .slice A xa.f3.length c]]) 1000 ad0 (groveP sa.N sa.P sa.N.length) w8 := H3.permX ((List.perm_append_comm (l₁ := [mpS bkm 0 (fun _ => false), blk gn 3 (iA (List.replicate nB 0))]) (l₂ := [rowOf k54 54 w.heap.size (.slice none 0 0) [], blk g11 29 #[.slice none 0 0], blk g10 56 #[.pointer (some ⟨gg, 0, none⟩)]])).append_right _)
    clear H H1 H2 H3 hgn hgn1 hbk e7 hw8 p0 hmk HG
    replace H4 := Aside0.mk H4
    go_cut [] (fun W => Aside0 (Grove w Z5 [rdV k24 bn dn sb.N, rdV (Kd.int .i64) bp dp sb.P, rdV (Kd.int .i64) bz dz sb.Z, rdV (Kd.slice 3 (Kd.int .i64)) bk dk sb.K, rdV k24 an cn sa.N, rdV (Kd.int .i64) ap cp sa.P, rdV (Kd.int .i64) az cz sa.Z, rdV (Kd.slice 3 (Kd.int .i64)) ak ck sa.K, rdV kP P e prs, rdV k24 B d xb.f3, rdV k24 A c xa.f3] gg bm [] (ofX w.heap.size g10 g11 gg (.slice none 0 0) [] [mpS bkm 0 (fun _ => false), blk gn 3 (iA (List.replicate nB (-1))), blk g3 71 #[.slice an nA cn, .slice ap sa.P.length cp, .slice az sa.Z.length cz, .slice ak sa.K.length ck], blk g4 71 #[.slice bn nB dn, .slice bp sb.P.length dp, .slice bz sb.Z.length dz, .slice bk nB dk], blk gb 24 #[.int .i64 xb.f0, .string xb.f1, .string xb.f2, .slice B xb.f3.length d], blk ga 24 #[.int .i64 xa.f0, .string xa.f1, .string xa.f2, .slice A xa.f3.length c]]) 1000 ad0 (groveP sa.N sa.P sa.N.length) W))
    case first =>
      go_wp2_with fail
      go_loopg [53] (nB + 1) (fun kq v53 W => ∃ (i : Nat), v53 = .int .i64 (i : Int) ∧ Aside0 (i ≤ nB ∧ kq = nB - i + 1) ∧ Aside0 (Grove w Z5 [rdV k24 bn dn sb.N, rdV (Kd.int .i64) bp dp sb.P, rdV (Kd.int .i64) bz dz sb.Z, rdV (Kd.slice 3 (Kd.int .i64)) bk dk sb.K, rdV k24 an cn sa.N, rdV (Kd.int .i64) ap cp sa.P, rdV (Kd.int .i64) az cz sa.Z, rdV (Kd.slice 3 (Kd.int .i64)) ak ck sa.K, rdV kP P e prs, rdV k24 B d xb.f3, rdV k24 A c xa.f3] gg bm [] (ofX w.heap.size g10 g11 gg (.slice none 0 0) [] [mpS bkm 0 (fun _ => false), blk gn 3 (iA (List.replicate i (-1) ++ List.replicate (nB - i) 0)), blk g3 71 #[.slice an nA cn, .slice ap sa.P.length cp, .slice az sa.Z.length cz, .slice ak sa.K.length ck], blk g4 71 #[.slice bn nB dn, .slice bp sb.P.length dp, .slice bz sb.Z.length dz, .slice bk nB dk], blk gb 24 #[.int .i64 xb.f0, .string xb.f1, .string xb.f2, .slice B xb.f3.length d], blk ga 24 #[.int .i64 xa.f0, .string xa.f1, .string xa.f2, .slice A xa.f3.length c]]) 1000 ad0 (groveP sa.N sa.P sa.N.length) W))
      case atStart => exact ⟨0, rfl, ⟨Nat.zero_le _, rfl⟩, H4⟩
      case round =>
        clear H4
        obtain ⟨i, rfl, hi, H4⟩ := hrel
        by_cases hlt : i < nB
        · have i1 : decide ((i : Int) < (nB : Int)) = true := decide_eq_true (by omega)
          have i2 : (0 : Int) ≤ (i : Int) := by omega
          have i3 : (i : Int) < (nB : Int) := by omega
          have q0 := (blk_cell (H4.out.blkAt (k := 4) rfl) i).trans (iA_get (by simp; omega))
          have qf := blk_frozen (H4.out.blkAt (k := 4) rfl) i
          have H5 := H4.out.setAt (k := 4) rfl i (.int .i64 (-1))
          rw [iA_set, rep_set _ _ hlt] at H5
          have hw : wrap64 ((i : Int) + 1) = ((i + 1 : Nat) : Int) := by have := HN.out.2.2.2.2; clear q0; unfold wrap64; omega
          replace hw := Aside0.mk hw
          replace hlt := Aside0.mk hlt
          replace H5 := Aside0.mk H5
          go_wp2
          go_roundg (nB - i)
          case rel => exact ⟨i + 1, by rw [hw.out], ⟨by have := hlt.out; omega, by have := hlt.out; omega⟩, H5⟩
          case measure => have := hi.out; have := hlt.out; omega
        · have i1 : decide ((i : Int) < (nB : Int)) = false := decide_eq_false (by omega)
          have i1b : decide (i < nB) = false := decide_eq_false hlt
          have i1c : ¬ (i : Int) < (nB : Int) := by omega
          have e : i = nB := by have := hi.out.1; omega
          have e2 : List.replicate i (-1) ++ List.replicate (nB - i) 0 = List.replicate nB (-1 : Int) := by rw [e, Nat.sub_self, List.replicate_zero, List.append_nil]
          rw [e2] at H4
          clear e e2 hlt
          go_wp2_with fail
          go_meet
          exact H4
    case rest =>
    clear H4
    replace H4 := hcut
    clear hcut
    obtain ⟨G, hG⟩ : ∃ G : Os → Option Os, G = fun s1 => (ph2 sb.N sb.K nB 0 s1).bind fun s2 => ph3 (fun x => decide (x ∈ prs.map (·.1))) nA s2 := ⟨_, rfl⟩
    have hF0 : (ph1 sa.N sb.N prs ⟨List.replicate nB (-1), (nA : Int), groveP sa.N sa.P sa.N.length, []⟩).bind G = some sF := by
      have h1 := hF.out
      unfold ofK at h1
      rw [HN.out.1, HN.out.2.1] at h1
      rw [hG, HN.out.1]
      exact h1
    have hnb : ∀ j, j < nP → ¬ pairBad sa.N sb.N prs j := by
      have h1 := hR.out
      unfold rightK at h1
      have h2 := (of_decide_eq_true h1).1
      rw [hB.out.1] at h2
      exact h2
    have hok0 := hB.out.2.2.2.2
    rw [HN.out.1, HN.out.2.1] at hok0
    replace hF0 := Aside0.mk hF0
    replace hnb := Aside0.mk hnb
    replace hok0 := Aside0.mk hok0
    replace hG := Aside0.mk hG
    go_upto_block 2 with fail
    go_cut [] (fun W => ∃ (s : Os) (v : Value) (ad : Int → Nat) (K : Int → Bool) (m : Nat), Aside0 (G s = some sF ∧ OsOk nB s ∧ s.nx = (nA : Int) ∧ m ≤ nP ∧ ∀ x, K x = true ↔ x ∈ prs.map (·.1)) ∧ Aside0 (Grove w Z5 [rdV k24 bn dn sb.N, rdV (Kd.int .i64) bp dp sb.P, rdV (Kd.int .i64) bz dz sb.Z, rdV (Kd.slice 3 (Kd.int .i64)) bk dk sb.K, rdV k24 an cn sa.N, rdV (Kd.int .i64) ap cp sa.P, rdV (Kd.int .i64) az cz sa.Z, rdV (Kd.slice 3 (Kd.int .i64)) ak ck sa.K, rdV kP P e prs, rdV k24 B d xb.f3, rdV k24 A c xa.f3] gg bm [] (ofX w.heap.size g10 g11 gg v s.ed [mpS bkm m K, blk gn 3 (iA s.nm), blk g3 71 #[.slice an nA cn, .slice ap sa.P.length cp, .slice az sa.Z.length cz, .slice ak sa.K.length ck], blk g4 71 #[.slice bn nB dn, .slice bp sb.P.length dp, .slice bz sb.Z.length dz, .slice bk nB dk], blk gb 24 #[.int .i64 xb.f0, .string xb.f1, .string xb.f2, .slice B xb.f3.length d], blk ga 24 #[.int .i64 xa.f0, .string xa.f1, .string xa.f2, .slice A xa.f3.length c]]) (1000 + s.ed.length) ad s.ks W))
    case first => exact sof_loop1 hB HN H4 hF0 hnb hok0 hG (by assumption) (by assumption)
    case rest =>
    clear H4 hF0 hok0 hnb
    obtain ⟨s, v, ad, K, m, hs, H4⟩ := hcut
    obtain ⟨G3, hG3⟩ : ∃ G3 : Os → Option Os, G3 = fun s2 => ph3 (fun x => decide (x ∈ prs.map (·.1))) nA s2 := ⟨_, rfl⟩
    have hs1 : (ph2 sb.N sb.K nB 0 s).bind G3 = some sF := by
      have h1 := hs.out.1
      rw [hG.out] at h1
      rw [hG3]; exact h1
    have hnx : s.nx ≤ 1000 + (s.ed.length : Int) := by rw [hs.out.2.2.1]; have := HN.out.2.2.2.1; omega
    have HS := Aside0.mk (⟨hs1, hs.out.2.1, hnx⟩ : _ ∧ _ ∧ _)
    have HK := Aside0.mk (⟨hs.out.2.2.2.1, hs.out.2.2.2.2⟩ : _ ∧ _)
    have hnx0 := hs.out.2.2.1
    replace hG3 := Aside0.mk hG3
    have pa0 : wc.cell? ⟨g3, 0, none⟩ = some (.slice an nA cn) := (blk_cell (H4.out.blkAt (k := 5) rfl) 0).trans rfl
    have pb0 : wc.cell? ⟨g4, 0, none⟩ = some (.slice bn nB dn) := (blk_cell (H4.out.blkAt (k := 6) rfl) 0).trans rfl
    clear hs hG hs1 hnx
    go_upto_block 4 with fail
    clear pa0 pb0
    replace hnx0 := Aside0.mk hnx0
    go_cut [] (fun W => ∃ (s : Os) (v : Value) (ad : Int → Nat), Aside0 (G3 s = some sF ∧ OsOk nB s) ∧ Aside0 (Grove w Z5 [rdV k24 bn dn sb.N, rdV (Kd.int .i64) bp dp sb.P, rdV (Kd.int .i64) bz dz sb.Z, rdV (Kd.slice 3 (Kd.int .i64)) bk dk sb.K, rdV k24 an cn sa.N, rdV (Kd.int .i64) ap cp sa.P, rdV (Kd.int .i64) az cz sa.Z, rdV (Kd.slice 3 (Kd.int .i64)) ak ck sa.K, rdV kP P e prs, rdV k24 B d xb.f3, rdV k24 A c xa.f3] gg bm [] (ofX w.heap.size g10 g11 gg v s.ed [mpS bkm m K, blk gn 3 (iA s.nm), blk g3 71 #[.slice an nA cn, .slice ap sa.P.length cp, .slice az sa.Z.length cz, .slice ak sa.K.length ck], blk g4 71 #[.slice bn nB dn, .slice bp sb.P.length dp, .slice bz sb.Z.length dz, .slice bk nB dk], blk gb 24 #[.int .i64 xb.f0, .string xb.f1, .string xb.f2, .slice B xb.f3.length d], blk ga 24 #[.int .i64 xa.f0, .string xa.f1, .string xa.f2, .slice A xa.f3.length c]]) (1000 + s.ed.length) ad s.ks W))
    case first => exact sof_loop2 hB HN H4 HS HK hG3 hnx0 (by assumption) (by assumption)
    case rest =>
    clear H4 HS hnx0
    clear s v ad
    obtain ⟨s, v, ad, hs, H4⟩ := hcut
    have hKe : (fun x => decide (x ∈ prs.map (·.1))) = K := funext fun x => by rw [Bool.eq_iff_iff, decide_eq_true_eq, HK.out.2]
    have hst0 : ph3 K nA s = some sF := by
      have h1 := hs.out.1
      rw [hG3.out, hKe] at h1
      exact h1
    have hw0 : wrap64 ((nA : Int) - 1) = (nA : Int) - 1 := by have := HN.out.2.2.2.1; unfold wrap64; omega
    have HJ := Aside0.mk (⟨hst0, hs.out.2⟩ : _ ∧ _)
    replace hw0 := Aside0.mk hw0
    have pa0 : wc.cell? ⟨g3, 0, none⟩ = some (.slice an nA cn) := (blk_cell (H4.out.blkAt (k := 5) rfl) 0).trans rfl
    clear hs hKe hst0 hG3 HK
    go_wp2_with fail
    clear pa0
    go_loopg [33] (nA + 1) (fun kq v33 W => ∃ (r : Nat) (s : Os) (v : Value) (ad : Int → Nat), v33 = .int .i64 ((r : Int) - 1) ∧ Aside0 (r ≤ nA ∧ kq = r + 1) ∧ Aside0 (ph3 K r s = some sF ∧ OsOk nB s) ∧ Aside0 (Grove w Z5 [rdV k24 bn dn sb.N, rdV (Kd.int .i64) bp dp sb.P, rdV (Kd.int .i64) bz dz sb.Z, rdV (Kd.slice 3 (Kd.int .i64)) bk dk sb.K, rdV k24 an cn sa.N, rdV (Kd.int .i64) ap cp sa.P, rdV (Kd.int .i64) az cz sa.Z, rdV (Kd.slice 3 (Kd.int .i64)) ak ck sa.K, rdV kP P e prs, rdV k24 B d xb.f3, rdV k24 A c xa.f3] gg bm [] (ofX w.heap.size g10 g11 gg v s.ed [mpS bkm m K, blk gn 3 (iA s.nm), blk g3 71 #[.slice an nA cn, .slice ap sa.P.length cp, .slice az sa.Z.length cz, .slice ak sa.K.length ck], blk g4 71 #[.slice bn nB dn, .slice bp sb.P.length dp, .slice bz sb.Z.length dz, .slice bk nB dk], blk gb 24 #[.int .i64 xb.f0, .string xb.f1, .string xb.f2, .slice B xb.f3.length d], blk ga 24 #[.int .i64 xa.f0, .string xa.f1, .string xa.f2, .slice A xa.f3.length c]]) (1000 + s.ed.length) ad s.ks W))
    case atStart => exact ⟨nA, s, v, ad, by rw [hw0.out], ⟨Nat.le_refl _, rfl⟩, HJ, H4⟩
    case round =>
      clear H4 HJ
      clear s v ad
      obtain ⟨r, s, v, ad, rfl, hr, hs, H4⟩ := hrel
      cases r with
      | zero =>
        obtain ⟨f_, _, hR⟩ := H4.out.rowOf_get (k := 0) rfl
        obtain ⟨Av, cv, ev⟩ := Kd.R_slice hR
        have hst := hs.out.1
        rw [ph3] at hst
        injection hst with hst
        have HS2 := Aside0.mk hst
        have c11 : wr.cell? ⟨g11, 0, none⟩ = some v := (blk_cell (H4.out.blkAt (k := 1) rfl) 0).trans rfl
        have HE := Aside0.mk (⟨H4.out.below, Kd.R_mono hR (ok' := fun _ => True) (fun _ _ => trivial)⟩ : _ ∧ _)
        rw [show (((0 : Nat) : Int) - 1) = -1 from rfl]
        subst ev
        clear hst hs H4 hR
        go_wp2_with fail
        refine bodyPost_ret (results_tmp2 (t := 6) (u := 7) rfl _ _ _) rfl ?_
        exact ⟨HE.out.1, _, rfl, by rw [← HS2.out]; exact HE.out.2⟩
      | succ n =>
        rw [show (((n + 1 : Nat) : Int) - 1) = (n : Int) by omega]
        have i1 : decide ((0 : Int) ≤ (n : Int)) = true := decide_eq_true (by omega)
        have hn6 : n ≤ 1000 := by have := hr.out.1; have := HN.out.2.2.2.1; omega
        have h64 : in64 (n : Int) := in64_nat (by omega)
        have hwn : wrap64 ((n : Int) - 1) = (n : Int) - 1 := by unfold wrap64; omega
        replace hwn := Aside0.mk hwn
        have l57 := H4.out.setGet (k := 3) rfl h64
        have hst := hs.out.1
        rw [ph3] at hst
        by_cases k1 : K (n : Int) = true
        · rw [if_pos k1, Option.bind_some] at hst
          rw [k1] at l57
          have HT := Aside0.mk (⟨hst, hs.out.2⟩ : _ ∧ _)
          clear k1 hst hs h64 hn6
          go_wp2
          go_roundg (n + 1)
          case rel => exact ⟨n, s, v, ad, by rw [hwn.out], ⟨by have := hr.out.1; omega, rfl⟩, HT, H4⟩
          case measure => have := hr.out.2; omega
        · rw [if_neg k1] at hst
          rw [Bool.eq_false_iff.2 k1] at l57
          cases hrun : s.run ⟨2, (n : Int), 0, 0, 0, ⟨#[]⟩, ⟨#[]⟩⟩ with
          | none => rw [hrun] at hst; cases hst
          | some t =>
          rw [hrun, Option.bind_some] at hst
          obtain ⟨o1, o2, o3, o4, o5, o6, o7, o8⟩ := Os.run_ok hs.out.2 hrun
          dsimp only at o7 o8
          have hed : t.ed.length = s.ed.length + 1 := by rw [o3]; simp
          have hD := dof_calls H4.out hs.out.2.inv (by simp only [maxLen]; omega) (by have := hs.out.2.len; omega) (by omega) ⟨2, (n : Int), 0, 0, 0, ⟨#[]⟩, ⟨#[]⟩⟩ o7 o8
          rw [← o2, ← o3] at hD
          dsimp only at hD
          replace hD := Aside0.mk hD
          have HT := Aside0.mk (⟨hst, o1, o4, hed⟩ : _ ∧ _ ∧ _ ∧ _)
          clear k1 hst hs h64 hn6 hrun o1 o2 o3 o4 o5 o6 o7 o8 hed H4
          go_wp2_with (go_at_call 28; refine hD.out.mono ?_; rintro e_ w9 ⟨rfl, ad', v9, _, H9⟩; replace H9 := Aside0.mk H9)
          go_roundg (n + 1)
          case rel => exact ⟨n, t, v9, ad', by rw [hwn.out], ⟨by have := hr.out.1; omega, rfl⟩, ⟨HT.out.1, HT.out.2.1⟩, ⟨by rw [HT.out.2.2.2, HT.out.2.2.1]; exact H9.out⟩⟩
          case measure => have := hr.out.2; omega
end Go.Proofs.Ytfmlpkeaiohknaa.Q
