/- The texts of this claim that lie below its row, in their order: GE. -/
import Derived.Deep.RegionLaw
import Derived.Deep.QuietTactic
import Derived.BigQuiet
import Derived.Deep.DeepCutAuto
import Derived.Test.YtfmlpkeaiohknaaZP6
/-! match.Right. -/
set_option linter.unusedVariables false
set_option linter.unusedSimpArgs false
namespace Go.Proofs.Ytfmlpkeaiohknaa.Q
open Go Go.RowKit Go.Lib Go.Sort Go.Proofs.YtfmlpkeaiohknaaW.PrintWords Go.Proofs.YtfmlpkeaiohknaaW.PrintLast Go.Proofs.YtfmlpkeaiohknaaW.PrintMore Go.Proofs.YtfmlpkeaiohknaaW.SL
attribute [local go_sem] max2_int min2_int max_two min_two max_three min_three max_four min_four
/-- Pairs of whole numbers ([2]int). -/
def kP : Kd (Int × Int) := Kd.pair (Kd.int .i64) (Kd.int .i64)
theorem kP_heap : Kd.Heap kP := Kd.heap_pair (Kd.heap_int .i64) (Kd.heap_int .i64)
theorem at_P {w : World} {A : Option Addr} {n : Nat} {xs : List (Int × Int)} (h : Kd.C kP w A n xs) (i : Int) (h0 : 0 ≤ i) (h1 : i < n) : ∃ ad, A = some ad ∧ w.cell? (ad.add (i.toNat * 2)) = some (.int .i64 (xs.getD i.toNat (0, 0)).1) ∧ w.cell? ⟨(ad.add (i.toNat * 2)).block, (ad.add (i.toNat * 2)).off + 1, none⟩ = some (.int .i64 (xs.getD i.toNat (0, 0)).2) := by
  obtain ⟨ad, c, e, _, hK, hc0⟩ := Kd.C_get h (0, 0) i h0 h1
  have hc : ∀ j u, c[j]? = some u → w.cell? (ad.add (i.toNat * 2 + j)) = some u := hc0
  obtain ⟨_, _, rfl, rfl, rfl⟩ := hK
  exact ⟨ad, e, hc 0 _ rfl, by rw [← add_field _ _ 1 (by omega)]; exact hc 1 _ rfl⟩
/-- Is the i-th pair good, held against those ahead? -/
def pairBad (N M : List S24) (l : List (Int × Int)) (i : Nat) : Prop :=
  let x := l.getD i (0, 0)
  x.1 < 0 ∨ (N.length : Int) ≤ x.1 ∨ x.2 < 0 ∨ (M.length : Int) ≤ x.2 ∨ x.2 ∈ (l.take i).map (·.2) ∨ (0 < i ∧ x.1 ≤ (l.getD (i - 1) (0, 0)).1) ∨ (N.getD x.1.toNat z24).f0 ≠ (M.getD x.2.toNat z24).f0
instance (N M : List S24) (l : List (Int × Int)) (i : Nat) : Decidable (pairBad N M l i) := by unfold pairBad; exact inferInstance
def rightK (N M : List S24) (l : List (Int × Int)) : Bool := decide ((∀ i, i < l.length → ¬ pairBad N M l i) ∧ 0 < l.length ∧ l.getD 0 (0, 0) = (0, 0))
def tpL (g3 g4 ga gb : Nat) (ta tb u3 u4 : Array Value) (X : List Asr) (b : Nat → Bool) : List Asr := [cond (b 4) (blk g3 71 (cond (b 6) u3 #[.slice none 0 0, .slice none 0 0, .slice none 0 0, .slice none 0 0])) emp, cond (b 5) (blk g4 71 (cond (b 7) u4 #[.slice none 0 0, .slice none 0 0, .slice none 0 0, .slice none 0 0])) emp, blk gb 24 tb, blk ga 24 ta] ++ X
def tpF (F : List FA) (sa sb : PS) (p q : A8) (b : Nat → Bool) : List FA := cond (b 3) (q.F sb) [] ++ (cond (b 1) (p.F sa) [] ++ F)
def rgt.T1 : Bool × List (List Nat × List Nat) := (true, [([], []), ([0], [0]), ([], []), ([2, 1], [2]), ([], []), ([], []), ([4, 1, 3, 0, 1, 4, 5], [1, 4]), ([5, 3, 6, 0, 1, 2, 3, 4, 5, 6], [3, 5])])
def rgt.B1 : List Nat := [0, 1, 0, 7, 0, 0, 63, 127]
theorem rgt.tab1 : rtab .any (opsOf Try.f26 1) = rgt.T1 := by kernel_rfl
theorem rgt.bits1 : waitsOk rgt.T1.2 rgt.B1 = true := by kernel_rfl
theorem ofP_len (x : S24) : (ofP x).N.length = nsz x := by unfold ofP; rw [addN_len]; simp
set_option maxHeartbeats 16000000 in
set_option maxRecDepth 100000 in
theorem right_calls (xa xb : S24) {A B P : Option Addr} {c d e : Nat} (prs : List (Int × Int)) (w : World) (ha : Kd.C k24 w A xa.f3.length xa.f3) (hca : xa.f3.length ≤ c) (hb : Kd.C k24 w B xb.f3.length xb.f3) (hcb : xb.f3.length ≤ d) (hp : Kd.C kP w P prs.length prs) (hcp : prs.length ≤ e)
    (na : nsz xa ≤ 1000) (nb : nsz xb ≤ 1000) (np : prs.length ≤ 100000) :
    Calls Try.prog 26 #[nodeV xa A c, nodeV xb B d, .slice P prs.length e] w fun e w' => e = .returned (.bool (rightK (ofP xa).N (ofP xb).N prs)) ∧ Below w.heap.size w w' := by
  have S : Stt w (fun k => k < w.heap.size) [] [rdV kP P e prs, rdV k24 B d xb.f3, rdV k24 A c xa.f3] w := Stt.start w (by intro a ha'; simp only [List.mem_cons, List.not_mem_nil, or_false] at ha'; rcases ha' with rfl | rfl | rfl; exact ⟨hcp, Kd.C_F kP_heap hp⟩; exact ⟨hcb, Kd.C_F k24_heap hb⟩; exact ⟨hca, Kd.C_F k24_heap ha⟩)
  have HOa : ∀ {Z : Nat → Prop} {l : List Asr} {F : List FA} {W : World}, Stt w Z l F W → Kd.C k24 W A xa.f3.length xa.f3 → xa.f3.length ≤ c → Calls Try.prog 27 #[.agg #[.int .i64 xa.f0, .string xa.f1, .string xa.f2, .slice A xa.f3.length c]] W fun e w' => ∃ q : A8, e = .returned (.agg (q.u (ofP xa))) ∧ Below W.heap.size W w' ∧ Stt w (fun k => Z k ∨ (W.heap.size ≤ k ∧ k < w'.heap.size)) l (q.F (ofP xa) ++ F) w' := fun SW h1 h2 => of_calls SW xa (by omega) h1 h2
  have HOb : ∀ {Z : Nat → Prop} {l : List Asr} {F : List FA} {W : World}, Stt w Z l F W → Kd.C k24 W B xb.f3.length xb.f3 → xb.f3.length ≤ d → Calls Try.prog 27 #[.agg #[.int .i64 xb.f0, .string xb.f1, .string xb.f2, .slice B xb.f3.length d]] W fun e w' => ∃ q : A8, e = .returned (.agg (q.u (ofP xb))) ∧ Below W.heap.size W w' ∧ Stt w (fun k => Z k ∨ (W.heap.size ≤ k ∧ k < w'.heap.size)) l (q.F (ofP xb) ++ F) w' := fun SW h1 h2 => of_calls SW xb (by omega) h1 h2
  obtain ⟨sa, hsa⟩ : ∃ s, s = ofP xa := ⟨_, rfl⟩
  obtain ⟨sb, hsb⟩ : ∃ s, s = ofP xb := ⟨_, rfl⟩
  rw [← hsa] at HOa
  rw [← hsb] at HOb
  rw [← hsa, ← hsb]
  replace HOa := Aside0.mk @HOa
  replace HOb := Aside0.mk @HOb
  obtain ⟨nP, hnP⟩ : ∃ nP, prs.length = nP := ⟨_, rfl⟩
  have hB := Aside0.mk (⟨hnP, np, na, nb, hsa, hsb⟩ : _ ∧ _ ∧ _ ∧ _ ∧ _ ∧ _)
  rw [hnP]
  obtain ⟨R, hR⟩ : ∃ R, rightK sa.N sb.N prs = R := ⟨_, rfl⟩
  rw [hR]
  replace hR := Aside0.mk hR
  clear ha hca hb hcb hp hcp na nb np hsa hsb
  unfold nodeV
  have hmm := @run_makeMap Try.prog
  have hu24 := Try.underlying24
  have hu71 := Try.underlying71
  go_enter Try.func26, Try.ntmps26
  go_wp2_with (first | ((with_reducible refine gate_dst (N := 3) rfl ?_); refine box_event ?hg (N := 3) ?hd (cs := #[.int .i64 xa.f0, .string xa.f1, .string xa.f2, .slice A xa.f3.length c]) (t := 24) ?hr ?_; (case hd => rfl); (case hg => rfl); (case hr => first | (go_simp; done) | (go_simp; rfl)); intro ga hg_ w1 hbox hb; replace S := S.box hg_ hbox hb; clear hbox hb hg_) | ((with_reducible refine gate_dst (N := 4) rfl ?_); refine box_event ?hg (N := 4) ?hd (cs := #[.int .i64 xb.f0, .string xb.f1, .string xb.f2, .slice B xb.f3.length d]) (t := 24) ?hr ?_; (case hd => rfl); (case hg => rfl); (case hr => first | (go_simp; done) | (go_simp; rfl)); intro gb hg_ w2 hbox hb; replace S := S.box hg_ hbox hb; clear hbox hb hg_))
  replace S := S.keep (below_drew1 (Below.refl w2.heap.size w2))
  have E : (Stt w (fun k => k < w.heap.size) (tpL 0 0 ga gb #[.int .i64 xa.f0, .string xa.f1, .string xa.f2, .slice A xa.f3.length c] #[.int .i64 xb.f0, .string xb.f1, .string xb.f2, .slice B xb.f3.length d] (A8.u ⟨none, 0, none, 0, none, 0, none, 0⟩ sa) (A8.u ⟨none, 0, none, 0, none, 0, none, 0⟩ sb) [] (fun _ => false)) (tpF [rdV kP P e prs, rdV k24 B d xb.f3, rdV k24 A c xa.f3] sa sb ⟨none, 0, none, 0, none, 0, none, 0⟩ ⟨none, 0, none, 0, none, 0, none, 0⟩ (fun _ => false)) w2.drew) := S.with (S.st.emp_new.emp_new)
  clear S
  refine start_ (n := 8) (S := fun w' => True) (ds := []) #[false, false, false, false, false, false, false, false] (by kernel_rfl) rfl rfl trivial (fun hHeld => ?_)
  refine with_tabW rgt.tab1 rgt.bits1 (fun HT_ HW_ => ?_)
  generalize w2.drew = w3_ at E hHeld ⊢
  refine inv_at [0, 1, 2, 3, 4, 5, 6, 7] (fun a0_ b a w' => ∃ (ZZ : Nat → Prop) (g3 : Nat) (g4 : Nat) (p8 : A8) (q8 : A8) (m1_ : Value) (m3_ : Value) (m4_ : Value) (m5_ : Value), a = putSel a0_ b [(0, 12, (.agg #[.int .i64 xa.f0, .string xa.f1, .string xa.f2, .slice A xa.f3.length c] : Value)), (1, 13, m1_), (2, 14, (.agg #[.int .i64 xb.f0, .string xb.f1, .string xb.f2, .slice B xb.f3.length d] : Value)), (3, 15, m3_), (4, 7, m4_), (5, 8, m5_)] ∧ ((Stt w ZZ (tpL g3 g4 ga gb #[.int .i64 xa.f0, .string xa.f1, .string xa.f2, .slice A xa.f3.length c] #[.int .i64 xb.f0, .string xb.f1, .string xb.f2, .slice B xb.f3.length d] (A8.u p8 sa) (A8.u q8 sb) [] b) (tpF [rdV kP P e prs, rdV k24 B d xb.f3, rdV k24 A c xa.f3] sa sb p8 q8 b) w')) ∧ (b 1 = true → (m1_ : Value) = (.agg (A8.u p8 sa))) ∧ (b 3 = true → (m3_ : Value) = (.agg (A8.u q8 sb))) ∧ (b 4 = true → (m4_ : Value) = .pointer (some ⟨g3, 0, none⟩)) ∧ (b 5 = true → (m5_ : Value) = .pointer (some ⟨g4, 0, none⟩))) HT_.out HW_.out (by kernel_rfl) (by kernel_rfl) ?_ ?_ ?_
  · exact ⟨(fun k => k < w.heap.size), 0, 0, ⟨none, 0, none, 0, none, 0, none, 0⟩, ⟨none, 0, none, 0, none, 0, none, 0⟩, .bool false, .bool false, .bool false, .bool false, by simp only [putSel, Bool.false_eq_true, if_false], E, fun h_ => absurd h_ (by decide), fun h_ => absurd h_ (by decide), fun h_ => absurd h_ (by decide), fun h_ => absurd h_ (by decide)⟩
  · skip
    clear E
    refine steps_cons ?_ ?_
    · rintro b a w' ⟨ZZ, g3, g4, p8, q8, m1_, m3_, m4_, m5_, ha, Q_E, Q_X1_, Q_X3_, Q_X4_, Q_X5_⟩ hb_ hon hoff
      refine ⟨_, rfl, fun K hK => ?_⟩
      have e3 : a.tmps[3]? = some (.pointer (some ⟨ga, 0, none⟩)) := by rw [ha]; exact (putSel_off rfl).trans rfl
      replace ha := Aside0.mk ha
      have E := Aside0.mk Q_E
      obtain ⟨⟨hc0_, hc1_, hc2_, hc3_⟩, _⟩ := box4 (E.out.at_blk 3 rfl)
      refine value_ (w1 := w') (v := (.agg #[.int .i64 xa.f0, .string xa.f1, .string xa.f2, .slice A xa.f3.length c] : Value)) (by rfl) rfl ?_ ?_
      · go_simp
        (try simp only [i64_w])
        try rfl
      refine hK.out _ _ ⟨ZZ, g3, g4, p8, q8, m1_, m3_, m4_, m5_, (by rw [ha.out]; exact putSel_upk 0 hb_ rfl rfl rfl), Q_E, fun h0_ => absurd ((hoff 1 (by kernel_rfl)).symm.trans h0_) (by decide), fun h0_ => absurd ((hoff 3 (by kernel_rfl)).symm.trans h0_) (by decide), Q_X4_, Q_X5_⟩
    refine steps_cons ?_ ?_
    · rintro b a w' ⟨ZZ, g3, g4, p8, q8, m1_, m3_, m4_, m5_, ha, Q_E, Q_X1_, Q_X3_, Q_X4_, Q_X5_⟩ hb_ hon hoff
      refine ⟨_, rfl, fun K hK => ?_⟩
      have e12 : a.tmps[12]? = some ((.agg #[.int .i64 xa.f0, .string xa.f1, .string xa.f2, .slice A xa.f3.length c] : Value)) := by rw [ha]; exact putSel_on (e := (0, 12, (.agg #[.int .i64 xa.f0, .string xa.f1, .string xa.f2, .slice A xa.f3.length c] : Value))) 0 rfl rfl (hon 0 (by kernel_rfl)) rfl
      replace ha := Aside0.mk ha
      have E := Aside0.mk Q_E
      refine goes_ Try.func27 (by kernel_rfl) rfl #[.agg #[.int .i64 xa.f0, .string xa.f1, .string xa.f2, .slice A xa.f3.length c]] (by rfl) rfl rfl (by first | (simp only [List.map_toArray, List.map_cons, List.map_nil, Act.eval, Array.getD_eq_getD_getElem?, Option.getD_some, e12]; done) | (simp only [List.map_toArray, List.map_cons, List.map_nil, Act.eval, Array.getD_eq_getD_getElem?, Option.getD_some, e12]; rfl)) ?_
      refine (HOa.out E.out (E.out.rdC 2 (by simp only [tpF, hb_, (hoff 3 (by kernel_rfl))]; rfl)) (E.out.rdL 2 (by simp only [tpF, hb_, (hoff 3 (by kernel_rfl))]; rfl))).mono ?_
      rintro e w20 ⟨p_, rfl, hb, E2_⟩
      refine ⟨_, rfl, ?_⟩
      have E3_ : (Stt w (fun k => ZZ k ∨ (w'.heap.size ≤ k ∧ k < w20.heap.size)) (tpL g3 g4 ga gb #[.int .i64 xa.f0, .string xa.f1, .string xa.f2, .slice A xa.f3.length c] #[.int .i64 xb.f0, .string xb.f1, .string xb.f2, .slice B xb.f3.length d] (A8.u p_ sa) (A8.u q8 sb) [] (up b 1)) (tpF [rdV kP P e prs, rdV k24 B d xb.f3, rdV k24 A c xa.f3] sa sb p_ q8 (up b 1)) w20) := by have h_ := E2_; simp only [tpF, tpL, List.cons_append, List.nil_append, List.append_nil, List.set_cons_zero, List.set_cons_succ, List.setIfInBounds_toArray, up, Nat.reduceEqDiff, reduceIte, cond_true, cond_false, hb_, (hoff 3 (by kernel_rfl)), (hoff 6 (by kernel_rfl)), (hoff 7 (by kernel_rfl))] at h_ ⊢; exact h_
      refine hK.out _ _ ⟨(fun k => ZZ k ∨ (w'.heap.size ≤ k ∧ k < w20.heap.size)), g3, g4, p_, q8, ((.agg (A8.u p_ sa))), m3_, m4_, m5_, (by rw [ha.out]; exact putSel_upk 1 hb_ rfl rfl rfl), E3_, fun _ => rfl, fun h0_ => absurd ((hoff 3 (by kernel_rfl)).symm.trans h0_) (by decide), Q_X4_, Q_X5_⟩
    refine steps_cons ?_ ?_
    · rintro b a w' ⟨ZZ, g3, g4, p8, q8, m1_, m3_, m4_, m5_, ha, Q_E, Q_X1_, Q_X3_, Q_X4_, Q_X5_⟩ hb_ hon hoff
      refine ⟨_, rfl, fun K hK => ?_⟩
      have e4 : a.tmps[4]? = some (.pointer (some ⟨gb, 0, none⟩)) := by rw [ha]; exact (putSel_off rfl).trans rfl
      replace ha := Aside0.mk ha
      have E := Aside0.mk Q_E
      obtain ⟨⟨hc0_, hc1_, hc2_, hc3_⟩, _⟩ := box4 (E.out.at_blk 2 rfl)
      refine value_ (w1 := w') (v := (.agg #[.int .i64 xb.f0, .string xb.f1, .string xb.f2, .slice B xb.f3.length d] : Value)) (by rfl) rfl ?_ ?_
      · go_simp
        (try simp only [i64_w])
        try rfl
      refine hK.out _ _ ⟨ZZ, g3, g4, p8, q8, m1_, m3_, m4_, m5_, (by rw [ha.out]; exact putSel_upk 2 hb_ rfl rfl rfl), Q_E, Q_X1_, fun h0_ => absurd ((hoff 3 (by kernel_rfl)).symm.trans h0_) (by decide), Q_X4_, Q_X5_⟩
    refine steps_cons ?_ ?_
    · rintro b a w' ⟨ZZ, g3, g4, p8, q8, m1_, m3_, m4_, m5_, ha, Q_E, Q_X1_, Q_X3_, Q_X4_, Q_X5_⟩ hb_ hon hoff
      refine ⟨_, rfl, fun K hK => ?_⟩
      have e14 : a.tmps[14]? = some ((.agg #[.int .i64 xb.f0, .string xb.f1, .string xb.f2, .slice B xb.f3.length d] : Value)) := by rw [ha]; exact putSel_on (e := (2, 14, (.agg #[.int .i64 xb.f0, .string xb.f1, .string xb.f2, .slice B xb.f3.length d] : Value))) 2 rfl rfl (hon 2 (by kernel_rfl)) rfl
      replace ha := Aside0.mk ha
      have E := Aside0.mk Q_E
      refine goes_ Try.func27 (by kernel_rfl) rfl #[.agg #[.int .i64 xb.f0, .string xb.f1, .string xb.f2, .slice B xb.f3.length d]] (by rfl) rfl rfl (by first | (simp only [List.map_toArray, List.map_cons, List.map_nil, Act.eval, Array.getD_eq_getD_getElem?, Option.getD_some, e14]; done) | (simp only [List.map_toArray, List.map_cons, List.map_nil, Act.eval, Array.getD_eq_getD_getElem?, Option.getD_some, e14]; rfl)) ?_
      refine (HOb.out E.out (E.out.rdC 5 (by simp only [tpF, hb_, (hon 1 (by kernel_rfl)), cond_true]; rfl)) (E.out.rdL 5 (by simp only [tpF, hb_, (hon 1 (by kernel_rfl)), cond_true]; rfl))).mono ?_
      rintro e w20 ⟨p_, rfl, hb, E2_⟩
      refine ⟨_, rfl, ?_⟩
      have E3_ : (Stt w (fun k => ZZ k ∨ (w'.heap.size ≤ k ∧ k < w20.heap.size)) (tpL g3 g4 ga gb #[.int .i64 xa.f0, .string xa.f1, .string xa.f2, .slice A xa.f3.length c] #[.int .i64 xb.f0, .string xb.f1, .string xb.f2, .slice B xb.f3.length d] (A8.u p8 sa) (A8.u p_ sb) [] (up b 3)) (tpF [rdV kP P e prs, rdV k24 B d xb.f3, rdV k24 A c xa.f3] sa sb p8 p_ (up b 3)) w20) := by have h_ := E2_; simp only [tpF, tpL, List.cons_append, List.nil_append, List.append_nil, List.set_cons_zero, List.set_cons_succ, List.setIfInBounds_toArray, up, Nat.reduceEqDiff, reduceIte, cond_true, cond_false, hb_, (hon 1 (by kernel_rfl)), (hoff 6 (by kernel_rfl)), (hoff 7 (by kernel_rfl))] at h_ ⊢; exact h_
      refine hK.out _ _ ⟨(fun k => ZZ k ∨ (w'.heap.size ≤ k ∧ k < w20.heap.size)), g3, g4, p8, p_, m1_, ((.agg (A8.u p_ sb))), m4_, m5_, (by rw [ha.out]; exact putSel_upk 3 hb_ rfl rfl rfl), E3_, Q_X1_, fun _ => rfl, Q_X4_, Q_X5_⟩
    refine steps_cons ?_ ?_
    · rintro b a w' ⟨ZZ, g3, g4, p8, q8, m1_, m3_, m4_, m5_, ha, Q_E, Q_X1_, Q_X3_, Q_X4_, Q_X5_⟩ hb_ hon hoff
      refine ⟨_, rfl, fun K hK => ?_⟩
      replace ha := Aside0.mk ha
      have E := Aside0.mk Q_E
      refine value_ (w1 := w'.alloc (.cells #[.slice none 0 0, .slice none 0 0, .slice none 0 0, .slice none 0 0] 71)) (v := .pointer (some ⟨w'.heap.size, 0, none⟩)) (by rfl) rfl ?_ ?_
      · go_simp
        try rfl
      have E2_ := E.out.newAt 0 (by simp only [tpL, hb_]; rfl) #[.slice none 0 0, .slice none 0 0, .slice none 0 0, .slice none 0 0] 71
      have E3_ : (Stt w ZZ (tpL w'.heap.size g4 ga gb #[.int .i64 xa.f0, .string xa.f1, .string xa.f2, .slice A xa.f3.length c] #[.int .i64 xb.f0, .string xb.f1, .string xb.f2, .slice B xb.f3.length d] (A8.u p8 sa) (A8.u q8 sb) [] (up b 4)) (tpF [rdV kP P e prs, rdV k24 B d xb.f3, rdV k24 A c xa.f3] sa sb p8 q8 (up b 4)) (w'.alloc (.cells #[.slice none 0 0, .slice none 0 0, .slice none 0 0, .slice none 0 0] 71))) := by have h_ := E2_; simp only [tpF, tpL, List.cons_append, List.nil_append, List.append_nil, List.set_cons_zero, List.set_cons_succ, List.setIfInBounds_toArray, up, Nat.reduceEqDiff, reduceIte, cond_true, cond_false, hb_, (hoff 6 (by kernel_rfl))] at h_ ⊢; exact h_
      refine hK.out _ _ ⟨ZZ, w'.heap.size, g4, p8, q8, m1_, m3_, (.pointer (some ⟨w'.heap.size, 0, none⟩)), m5_, (by rw [ha.out]; exact putSel_upk 4 hb_ rfl rfl rfl), E3_, Q_X1_, Q_X3_, fun _ => rfl, Q_X5_⟩
    refine steps_cons ?_ ?_
    · rintro b a w' ⟨ZZ, g3, g4, p8, q8, m1_, m3_, m4_, m5_, ha, Q_E, Q_X1_, Q_X3_, Q_X4_, Q_X5_⟩ hb_ hon hoff
      refine ⟨_, rfl, fun K hK => ?_⟩
      replace ha := Aside0.mk ha
      have E := Aside0.mk Q_E
      refine value_ (w1 := w'.alloc (.cells #[.slice none 0 0, .slice none 0 0, .slice none 0 0, .slice none 0 0] 71)) (v := .pointer (some ⟨w'.heap.size, 0, none⟩)) (by rfl) rfl ?_ ?_
      · go_simp
        try rfl
      have E2_ := E.out.newAt 1 (by simp only [tpL, hb_]; rfl) #[.slice none 0 0, .slice none 0 0, .slice none 0 0, .slice none 0 0] 71
      have E3_ : (Stt w ZZ (tpL g3 w'.heap.size ga gb #[.int .i64 xa.f0, .string xa.f1, .string xa.f2, .slice A xa.f3.length c] #[.int .i64 xb.f0, .string xb.f1, .string xb.f2, .slice B xb.f3.length d] (A8.u p8 sa) (A8.u q8 sb) [] (up b 5)) (tpF [rdV kP P e prs, rdV k24 B d xb.f3, rdV k24 A c xa.f3] sa sb p8 q8 (up b 5)) (w'.alloc (.cells #[.slice none 0 0, .slice none 0 0, .slice none 0 0, .slice none 0 0] 71))) := by have h_ := E2_; simp only [tpF, tpL, List.cons_append, List.nil_append, List.append_nil, List.set_cons_zero, List.set_cons_succ, List.setIfInBounds_toArray, up, Nat.reduceEqDiff, reduceIte, cond_true, cond_false, hb_, (hoff 7 (by kernel_rfl))] at h_ ⊢; exact h_
      refine hK.out _ _ ⟨ZZ, g3, w'.heap.size, p8, q8, m1_, m3_, m4_, (.pointer (some ⟨w'.heap.size, 0, none⟩)), (by rw [ha.out]; exact putSel_upk 5 hb_ rfl rfl rfl), E3_, Q_X1_, Q_X3_, Q_X4_, fun _ => rfl⟩
    refine steps_cons ?_ ?_
    · rintro b a w' ⟨ZZ, g3, g4, p8, q8, m1_, m3_, m4_, m5_, ha, Q_E, Q_X1_, Q_X3_, Q_X4_, Q_X5_⟩ hb_ hon hoff
      refine ⟨_, rfl, fun K hK => ?_⟩
      have e7 : a.tmps[7]? = some (m4_) := by rw [ha]; exact putSel_on (e := (4, 7, m4_)) 4 rfl rfl (hon 4 (by kernel_rfl)) rfl
      rw [Q_X4_ (hon 4 (by kernel_rfl))] at e7
      have e13 : a.tmps[13]? = some (m1_) := by rw [ha]; exact putSel_on (e := (1, 13, m1_)) 1 rfl rfl (hon 1 (by kernel_rfl)) rfl
      rw [Q_X1_ (hon 1 (by kernel_rfl))] at e13
      replace ha := Aside0.mk ha
      have E := Aside0.mk Q_E
      simp only [A8.u] at e13
      obtain ⟨⟨hc0_, hc1_, hc2_, hc3_⟩, hf0_, hf1_, hf2_, hf3_⟩ := box4 (c0 := .slice none 0 0) (c1 := .slice none 0 0) (c2 := .slice none 0 0) (c3 := .slice none 0 0) (E.out.at_blk 0 (by simp only [tpL, (hon 4 (by kernel_rfl)), hb_]; rfl))
      refine skip_ (w1 := ((((w'.setCell ⟨g3, 0, none⟩ (.slice p8.an sa.N.length p8.cn)).setCell ⟨g3, 1, none⟩ (.slice p8.ap sa.P.length p8.cp)).setCell ⟨g3, 2, none⟩ (.slice p8.az sa.Z.length p8.cz)).setCell ⟨g3, 3, none⟩ (.slice p8.ak sa.K.length p8.ck))) (by rfl) rfl ?_ ?_
      · go_simp
        try rfl
      have E2_ := E.out.set4At 0 (c0 := .slice none 0 0) (c1 := .slice none 0 0) (c2 := .slice none 0 0) (c3 := .slice none 0 0) (by simp only [tpL, (hon 4 (by kernel_rfl)), hb_]; rfl) (.slice p8.an sa.N.length p8.cn) (.slice p8.ap sa.P.length p8.cp) (.slice p8.az sa.Z.length p8.cz) (.slice p8.ak sa.K.length p8.ck)
      have E3_ : (Stt w ZZ (tpL g3 g4 ga gb #[.int .i64 xa.f0, .string xa.f1, .string xa.f2, .slice A xa.f3.length c] #[.int .i64 xb.f0, .string xb.f1, .string xb.f2, .slice B xb.f3.length d] (A8.u p8 sa) (A8.u q8 sb) [] (up b 6)) (tpF [rdV kP P e prs, rdV k24 B d xb.f3, rdV k24 A c xa.f3] sa sb p8 q8 (up b 6)) ((((w'.setCell ⟨g3, 0, none⟩ (.slice p8.an sa.N.length p8.cn)).setCell ⟨g3, 1, none⟩ (.slice p8.ap sa.P.length p8.cp)).setCell ⟨g3, 2, none⟩ (.slice p8.az sa.Z.length p8.cz)).setCell ⟨g3, 3, none⟩ (.slice p8.ak sa.K.length p8.ck))) := by have h_ := E2_; simp only [tpF, tpL, List.cons_append, List.nil_append, List.append_nil, List.set_cons_zero, List.set_cons_succ, List.setIfInBounds_toArray, up, Nat.reduceEqDiff, reduceIte, cond_true, cond_false, hb_, (hon 4 (by kernel_rfl)), (hon 1 (by kernel_rfl)), (hon 3 (by kernel_rfl))] at h_ ⊢; exact h_
      refine hK.out _ _ ⟨ZZ, g3, g4, p8, q8, m1_, m3_, m4_, m5_, (by rw [ha.out]; exact putSel_none (v := undef) rfl), E3_, Q_X1_, Q_X3_, Q_X4_, Q_X5_⟩
    refine steps_cons ?_ ?_
    · rintro b a w' ⟨ZZ, g3, g4, p8, q8, m1_, m3_, m4_, m5_, ha, Q_E, Q_X1_, Q_X3_, Q_X4_, Q_X5_⟩ hb_ hon hoff
      refine ⟨_, rfl, fun K hK => ?_⟩
      have e8 : a.tmps[8]? = some (m5_) := by rw [ha]; exact putSel_on (e := (5, 8, m5_)) 5 rfl rfl (hon 5 (by kernel_rfl)) rfl
      rw [Q_X5_ (hon 5 (by kernel_rfl))] at e8
      have e15 : a.tmps[15]? = some (m3_) := by rw [ha]; exact putSel_on (e := (3, 15, m3_)) 3 rfl rfl (hon 3 (by kernel_rfl)) rfl
      rw [Q_X3_ (hon 3 (by kernel_rfl))] at e15
      replace ha := Aside0.mk ha
      have E := Aside0.mk Q_E
      simp only [A8.u] at e15
      obtain ⟨⟨hc0_, hc1_, hc2_, hc3_⟩, hf0_, hf1_, hf2_, hf3_⟩ := box4 (c0 := .slice none 0 0) (c1 := .slice none 0 0) (c2 := .slice none 0 0) (c3 := .slice none 0 0) (E.out.at_blk 1 (by simp only [tpL, (hon 5 (by kernel_rfl)), hb_]; rfl))
      refine skip_ (w1 := ((((w'.setCell ⟨g4, 0, none⟩ (.slice q8.an sb.N.length q8.cn)).setCell ⟨g4, 1, none⟩ (.slice q8.ap sb.P.length q8.cp)).setCell ⟨g4, 2, none⟩ (.slice q8.az sb.Z.length q8.cz)).setCell ⟨g4, 3, none⟩ (.slice q8.ak sb.K.length q8.ck))) (by rfl) rfl ?_ ?_
      · go_simp
        try rfl
      have E2_ := E.out.set4At 1 (c0 := .slice none 0 0) (c1 := .slice none 0 0) (c2 := .slice none 0 0) (c3 := .slice none 0 0) (by simp only [tpL, (hon 5 (by kernel_rfl)), hb_]; rfl) (.slice q8.an sb.N.length q8.cn) (.slice q8.ap sb.P.length q8.cp) (.slice q8.az sb.Z.length q8.cz) (.slice q8.ak sb.K.length q8.ck)
      have E3_ : (Stt w ZZ (tpL g3 g4 ga gb #[.int .i64 xa.f0, .string xa.f1, .string xa.f2, .slice A xa.f3.length c] #[.int .i64 xb.f0, .string xb.f1, .string xb.f2, .slice B xb.f3.length d] (A8.u p8 sa) (A8.u q8 sb) [] (up b 7)) (tpF [rdV kP P e prs, rdV k24 B d xb.f3, rdV k24 A c xa.f3] sa sb p8 q8 (up b 7)) ((((w'.setCell ⟨g4, 0, none⟩ (.slice q8.an sb.N.length q8.cn)).setCell ⟨g4, 1, none⟩ (.slice q8.ap sb.P.length q8.cp)).setCell ⟨g4, 2, none⟩ (.slice q8.az sb.Z.length q8.cz)).setCell ⟨g4, 3, none⟩ (.slice q8.ak sb.K.length q8.ck))) := by have h_ := E2_; simp only [tpF, tpL, List.cons_append, List.nil_append, List.append_nil, List.set_cons_zero, List.set_cons_succ, List.setIfInBounds_toArray, up, Nat.reduceEqDiff, reduceIte, cond_true, cond_false, hb_, (hon 5 (by kernel_rfl)), (hon 3 (by kernel_rfl)), (hon 3 (by kernel_rfl)), (hon 6 (by kernel_rfl))] at h_ ⊢; exact h_
      refine hK.out _ _ ⟨ZZ, g3, g4, p8, q8, m1_, m3_, m4_, m5_, (by rw [ha.out]; exact putSel_none (v := undef) rfl), E3_, Q_X1_, Q_X3_, Q_X4_, Q_X5_⟩
    exact steps_nil
  · rintro b a w' hall ⟨ZZ, g3, g4, p8, q8, m1_, m3_, m4_, m5_, ha, Q_E, Q_X1_, Q_X3_, Q_X4_, Q_X5_⟩
    clear E
    have hb0_ := hall 0 (by kernel_rfl)
    have hb1_ := hall 1 (by kernel_rfl)
    have hb2_ := hall 2 (by kernel_rfl)
    have hb3_ := hall 3 (by kernel_rfl)
    have hb4_ := hall 4 (by kernel_rfl)
    have hb5_ := hall 5 (by kernel_rfl)
    have hb6_ := hall 6 (by kernel_rfl)
    have hb7_ := hall 7 (by kernel_rfl)
    subst ha
    obtain rfl := Q_X1_ hb1_
    obtain rfl := Q_X3_ hb3_
    obtain rfl := Q_X4_ hb4_
    obtain rfl := Q_X5_ hb5_
    simp only [putSel, hb0_, hb1_, hb2_, hb3_, hb4_, hb5_, hb6_, hb7_, if_true, Act.put, List.setIfInBounds_toArray, List.set_cons_zero, List.set_cons_succ]
    have E := Aside0.mk Q_E
    clear Q_E
    have S := E.out; simp only [tpL, tpF, cond_true, hb1_, hb3_, hb4_, hb5_, hb6_, hb7_, A8.u, A8.F, List.cons_append, List.nil_append] at S
    clear hall hb0_ hb1_ hb2_ hb3_ hb4_ hb5_ hb6_ hb7_
    clear E
    obtain ⟨an, cn, ap, cp, az, cz, ak, ck⟩ := p8
    obtain ⟨bn, dn, bp, dp, bz, dz, bk, dk⟩ := q8
    dsimp only at S ⊢
    obtain ⟨nA, hnA⟩ : ∃ nA, sa.N.length = nA := ⟨_, rfl⟩
    obtain ⟨nB, hnB⟩ : ∃ nB, sb.N.length = nB := ⟨_, rfl⟩
    rw [hnA, hnB] at S
    have hA6 : nA ≤ 1000 := by have h9 := hB.out; rw [← hnA, h9.2.2.2.2.1, ofP_len]; exact h9.2.2.1
    have hB6 : nB ≤ 1000 := by have h9 := hB.out; rw [← hnB, h9.2.2.2.2.2, ofP_len]; exact h9.2.2.2.1
    replace hnA := Aside0.mk hnA
    replace hnB := Aside0.mk hnB
    replace hA6 := Aside0.mk hA6
    replace hB6 := Aside0.mk hB6
    replace S := Aside0.mk S
    clear HOa HOb hHeld
    go_wp2
    have S9 := set_new S.out
    obtain ⟨bm, hbm⟩ : ∃ b, w'.heap.size = b := ⟨_, rfl⟩
    rw [hbm] at S9 ⊢
    obtain ⟨wq, hwq⟩ : ∃ wq, w'.alloc (.map #[] 0) = wq := ⟨_, rfl⟩
    rw [hwq] at S9 ⊢
    clear hwq hbm S
    replace S9 := Aside0.mk S9
    go_loopg [19] (nP + 1) (fun kq v19 W => ∃ (i m : Nat) (K : Int → Bool), v19 = .int .i64 (i : Int) ∧ Aside0 (i ≤ nP ∧ kq = nP - i + 1 ∧ m ≤ i) ∧ Aside0 ((∀ j, j < i → ¬ pairBad sa.N sb.N prs j) ∧ ∀ x, K x = true ↔ x ∈ (prs.take i).map (·.2)) ∧ Aside0 (Stt w ZZ (mpS bm m K :: [blk g3 71 #[.slice an nA cn, .slice ap sa.P.length cp, .slice az sa.Z.length cz, .slice ak sa.K.length ck], blk g4 71 #[.slice bn nB dn, .slice bp sb.P.length dp, .slice bz sb.Z.length dz, .slice bk sb.K.length dk], blk gb 24 #[.int .i64 xb.f0, .string xb.f1, .string xb.f2, .slice B xb.f3.length d], blk ga 24 #[.int .i64 xa.f0, .string xa.f1, .string xa.f2, .slice A xa.f3.length c]]) [rdV k24 bn dn sb.N, rdV (Kd.int .i64) bp dp sb.P, rdV (Kd.int .i64) bz dz sb.Z, rdV (Kd.slice 3 (Kd.int .i64)) bk dk sb.K, rdV k24 an cn sa.N, rdV (Kd.int .i64) ap cp sa.P, rdV (Kd.int .i64) az cz sa.Z, rdV (Kd.slice 3 (Kd.int .i64)) ak ck sa.K, rdV kP P e prs, rdV k24 B d xb.f3, rdV k24 A c xa.f3] W))
    case atStart => exact ⟨0, 0, fun _ => false, rfl, ⟨Nat.zero_le _, rfl, Nat.le_refl _⟩, ⟨fun j hj => absurd hj (Nat.not_lt_zero _), fun x => by simp⟩, S9⟩
    case round =>
      clear S9
      obtain ⟨i, m, K, rfl, hi, hg, S⟩ := hrel
      by_cases hlt2 : i < nP
      · have i1 : decide ((i : Int) < (nP : Int)) = true := decide_eq_true (by omega)
        have i2 : (0 : Int) ≤ (i : Int) := by omega
        have i3 : (i : Int) < (nP : Int) := by omega
        obtain ⟨adP, rfl, x0, x1⟩ := at_P (S.out.rdC 8 rfl) (i : Int) i2 (by rw [hB.out.1]; exact i3)
        simp only [Int.toNat_natCast] at x0 x1
        obtain ⟨⟨u, v⟩, hx⟩ : ∃ x, prs.getD i (0, 0) = x := ⟨_, rfl⟩
        rw [hx] at x0 x1
        dsimp only at x0 x1
        have hbad : pairBad sa.N sb.N prs i ↔ (u < 0 ∨ (nA : Int) ≤ u ∨ v < 0 ∨ (nB : Int) ≤ v ∨ K v = true ∨ (0 < i ∧ u ≤ (prs.getD (i - 1) (0, 0)).1) ∨ (sa.N.getD u.toNat z24).f0 ≠ (sb.N.getD v.toNat z24).f0) := by
          unfold pairBad
          rw [hx, hnA.out, hnB.out, hg.out.2]
        have S0 := S
        go_upto_region 6 with ((with_reducible refine gate_dst (N := 11) rfl ?_); refine box_event ?hg (N := 11) ?hd (cs := #[.int .i64 0, .int .i64 0]) (t := 50) ?hr ?_; (case hd => rfl); (case hg => rfl); (case hr => first | (go_simp; done) | (go_simp; rfl)); intro g11 hg_ w5 hbox hb; have S1 := S.out.box hg_ hbox hb; clear hbox hb hg_; have z0 := (blk_cell (S1.at_blk 0 rfl) 0).trans (show (#[Value.int .i64 0, .int .i64 0] : Array Value)[0]? = some (.int .i64 0) from rfl); have z1 := (blk_cell (S1.at_blk 0 rfl) 1).trans (show (#[Value.int .i64 0, .int .i64 0] : Array Value)[1]? = some (.int .i64 0) from rfl); have zf0 := blk_frozen (S1.at_blk 0 rfl) 0; have zf1 := blk_frozen (S1.at_blk 0 rfl) 1)
        have S2 := S1.of (S1.st.set (i := 0) rfl 0 (.int .i64 u))
        have S3 := S2.of (S2.st.set (i := 0) rfl 1 (.int .i64 v))
        have S4 : Stt w ZZ (blk g11 50 #[.int .i64 u, .int .i64 v] :: mpS bm m K :: [blk g3 71 #[.slice an nA cn, .slice ap sa.P.length cp, .slice az sa.Z.length cz, .slice ak sa.K.length ck], blk g4 71 #[.slice bn nB dn, .slice bp sb.P.length dp, .slice bz sb.Z.length dz, .slice bk sb.K.length dk], blk gb 24 #[.int .i64 xb.f0, .string xb.f1, .string xb.f2, .slice B xb.f3.length d], blk ga 24 #[.int .i64 xa.f0, .string xa.f1, .string xa.f2, .slice A xa.f3.length c]]) [rdV k24 bn dn sb.N, rdV (Kd.int .i64) bp dp sb.P, rdV (Kd.int .i64) bz dz sb.Z, rdV (Kd.slice 3 (Kd.int .i64)) bk dk sb.K, rdV k24 an cn sa.N, rdV (Kd.int .i64) ap cp sa.P, rdV (Kd.int .i64) az cz sa.Z, rdV (Kd.slice 3 (Kd.int .i64)) ak ck sa.K, rdV kP (some adP) e prs, rdV k24 B d xb.f3, rdV k24 A c xa.f3] ((w5.setCell ⟨g11, 0, none⟩ (.int .i64 u)).setCell ⟨g11, 1, none⟩ (.int .i64 v)) := S3
        clear S1 S2 S3 z0 z1 zf0 zf1 x0 x1 S0
        obtain ⟨wq, hwq⟩ : ∃ wq, ((w5.setCell ⟨g11, 0, none⟩ (.int .i64 u)).setCell ⟨g11, 1, none⟩ (.int .i64 v)) = wq := ⟨_, rfl⟩
        rw [hwq] at S4 ⊢
        clear hwq
        have hmix : Try.prog.follows .mixedOrders = true := by kernel_rfl
        have q0 : wq.cell? ⟨g11, 0, none⟩ = some (.int .i64 u) := (blk_cell (S4.at_blk 0 rfl) 0).trans rfl
        have q1 : wq.cell? ⟨g11, 1, none⟩ = some (.int .i64 v) := (blk_cell (S4.at_blk 0 rfl) 1).trans rfl
        have ha0 : wq.cell? ⟨g3, 0, none⟩ = some (.slice an nA cn) := (blk_cell (S4.at_blk 2 rfl) 0).trans rfl
        have hb0 : wq.cell? ⟨g4, 0, none⟩ = some (.slice bn nB dn) := (blk_cell (S4.at_blk 3 rfl) 0).trans rfl
        obtain ⟨PB, hPB⟩ : ∃ PB, pairBad sa.N sb.N prs i = PB := ⟨_, rfl⟩
        have hdec : ∀ b : Bool, (b = true ↔ PB) → True := fun _ _ => trivial
        rw [hPB] at hbad
        replace hPB := Aside0.mk hPB
        replace S4 := Aside0.mk S4
        have HL := Aside0.mk hlt2
        clear S hdec
        go_cut [85] (fun v85 W => ∃ b : Bool, v85 = .bool b ∧ Aside0 (b = true ↔ PB) ∧ Aside0 (Stt w ZZ (blk g11 50 #[.int .i64 u, .int .i64 v] :: mpS bm m K :: [blk g3 71 #[.slice an nA cn, .slice ap sa.P.length cp, .slice az sa.Z.length cz, .slice ak sa.K.length ck], blk g4 71 #[.slice bn nB dn, .slice bp sb.P.length dp, .slice bz sb.Z.length dz, .slice bk sb.K.length dk], blk gb 24 #[.int .i64 xb.f0, .string xb.f1, .string xb.f2, .slice B xb.f3.length d], blk ga 24 #[.int .i64 xa.f0, .string xa.f1, .string xa.f2, .slice A xa.f3.length c]]) [rdV k24 bn dn sb.N, rdV (Kd.int .i64) bp dp sb.P, rdV (Kd.int .i64) bz dz sb.Z, rdV (Kd.slice 3 (Kd.int .i64)) bk dk sb.K, rdV k24 an cn sa.N, rdV (Kd.int .i64) ap cp sa.P, rdV (Kd.int .i64) az cz sa.Z, rdV (Kd.slice 3 (Kd.int .i64)) ak ck sa.K, rdV kP (some adP) e prs, rdV k24 B d xb.f3, rdV k24 A c xa.f3] W))
        case first =>
          by_cases k1 : u < 0
          · have d1 : decide (u < 0) = true := decide_eq_true k1
            replace hbad := Aside0.mk (hbad.2 (.inl k1))
            clear k1
            go_region_o
            all_goals (go_wp2_with fail; go_meet; first | exact ⟨_, rfl, ⟨by simp [hbad.out]⟩, ⟨S4.out.keep ⟨rfl, rfl, rfl, Nat.le_refl _, fun _ _ => rfl⟩⟩⟩)
          have d1 : decide (u < 0) = false := decide_eq_false k1
          by_cases k2 : (nA : Int) ≤ u
          · have d2 : decide ((nA : Int) ≤ u) = true := decide_eq_true k2
            replace hbad := Aside0.mk (hbad.2 (.inr (.inl k2)))
            clear k1 k2
            go_region_o
            all_goals (go_wp2_with fail; go_meet; first | exact ⟨_, rfl, ⟨by simp [hbad.out]⟩, ⟨S4.out.keep ⟨rfl, rfl, rfl, Nat.le_refl _, fun _ _ => rfl⟩⟩⟩)
          have d2 : decide ((nA : Int) ≤ u) = false := decide_eq_false k2
          by_cases k3 : v < 0
          · have d3 : decide (v < 0) = true := decide_eq_true k3
            replace hbad := Aside0.mk (hbad.2 (.inr (.inr (.inl k3))))
            clear k1 k2 k3
            go_region_o
            all_goals (go_wp2_with fail; go_meet; first | exact ⟨_, rfl, ⟨by simp [hbad.out]⟩, ⟨S4.out.keep ⟨rfl, rfl, rfl, Nat.le_refl _, fun _ _ => rfl⟩⟩⟩)
          have d3 : decide (v < 0) = false := decide_eq_false k3
          by_cases k4 : (nB : Int) ≤ v
          · have d4 : decide ((nB : Int) ≤ v) = true := decide_eq_true k4
            replace hbad := Aside0.mk (hbad.2 (.inr (.inr (.inr (.inl k4)))))
            clear k1 k2 k3 k4
            go_region_o
            all_goals (go_wp2_with fail; go_meet; first | exact ⟨_, rfl, ⟨by simp [hbad.out]⟩, ⟨S4.out.keep ⟨rfl, rfl, rfl, Nat.le_refl _, fun _ _ => rfl⟩⟩⟩)
          have d4 : decide ((nB : Int) ≤ v) = false := decide_eq_false k4
          have lk := set_get S4.out.drew 1 rfl (x := v) (by have := hB6.out; unfold in64; omega)
          by_cases k5 : K v = true
          · rw [k5] at lk
            replace hbad := Aside0.mk (hbad.2 (.inr (.inr (.inr (.inr (.inl k5))))))
            clear k1 k2 k3 k4 k5
            go_region_o
            all_goals (go_wp2_with fail; go_meet; first | exact ⟨_, rfl, ⟨by simp [hbad.out]⟩, ⟨S4.out.keep ⟨rfl, rfl, rfl, Nat.le_refl _, fun _ _ => rfl⟩⟩⟩)
          have k5' : K v = false := by simpa using k5
          rw [k5'] at lk
          obtain ⟨adA, C3, z3, rfl, na0, _⟩ := at_T24 (S4.out.rdC 4 rfl) u (by omega) (by rw [hnA.out]; omega)
          obtain ⟨adB, D3, y3, rfl, nb0, _⟩ := at_T24 (S4.out.rdC 0 rfl) v (by omega) (by rw [hnB.out]; omega)
          obtain ⟨ka, hka⟩ : ∃ x, (rd_T24 sa.N u).f0 = x := ⟨_, rfl⟩
          obtain ⟨kb, hkb⟩ : ∃ x, (rd_T24 sb.N v).f0 = x := ⟨_, rfl⟩
          rw [hka] at na0
          rw [hkb] at nb0
          have p1 : 0 ≤ u := by omega
          have p2 : u < (nA : Int) := by omega
          have p3 : 0 ≤ v := by omega
          have p4 : v < (nB : Int) := by omega
          have hbad2 : PB ↔ ((0 < i ∧ u ≤ (prs.getD (i - 1) (0, 0)).1) ∨ ka ≠ kb) := by
            rw [hbad, ← hka, ← hkb]
            constructor
            · rintro (h | h | h | h | h | h | h)
              · exact absurd h k1
              · exact absurd h k2
              · exact absurd h k3
              · exact absurd h k4
              · exact absurd h k5
              · exact .inl h
              · exact .inr h
            · rintro (h | h)
              · exact .inr (.inr (.inr (.inr (.inr (.inl h)))))
              · exact .inr (.inr (.inr (.inr (.inr (.inr h)))))
          clear hbad hka hkb k1 k2 k3 k4 k5 k5'
          by_cases k6 : 0 < i
          · have d6 : decide ((0 : Int) < (i : Int)) = true := decide_eq_true (by omega)
            have d6b : decide (0 < i) = true := decide_eq_true k6
            have hwi : wrap64 ((i : Int) - 1) = ((i - 1 : Nat) : Int) := by have := hB.out.2.1; have := hB.out.1; clear hbad2; unfold wrap64; omega
            have j1 : (0 : Int) ≤ ((i - 1 : Nat) : Int) := by omega
            have j2 : ((i - 1 : Nat) : Int) < (nP : Int) := by omega
            have j3 : i - 1 < nP := by omega
            obtain ⟨adP', eP, pp0, _⟩ := at_P (S4.out.rdC 8 rfl) ((i - 1 : Nat) : Int) j1 (by rw [hB.out.1]; exact j2)
            obtain rfl := Option.some.inj eP
            simp only [Int.toNat_natCast] at pp0
            obtain ⟨pu, hpu⟩ : ∃ x, (prs.getD (i - 1) (0, 0)).1 = x := ⟨_, rfl⟩
            rw [hpu] at pp0 hbad2
            clear hpu
            by_cases k7 : u ≤ pu
            · have d7 : decide (u ≤ pu) = true := decide_eq_true k7
              have hbad := Aside0.mk (hbad2.2 (.inl ⟨k6, k7⟩))
              clear hbad2 k7
              go_region_o
              all_goals (go_wp2_with fail; go_meet; first | exact ⟨_, rfl, ⟨by simp [hbad.out]⟩, ⟨S4.out.keep ⟨rfl, rfl, rfl, Nat.le_refl _, fun _ _ => rfl⟩⟩⟩)
            have d7 : decide (u ≤ pu) = false := decide_eq_false k7
            by_cases k8 : ka = kb
            · have d8 : (ka != kb) = false := by simp [k8]
              have hbad := Aside0.mk (show ¬ PB from fun h => (hbad2.1 h).elim (fun h => k7 h.2) (fun h => h k8))
              clear hbad2 k7 k8
              go_region_o
              all_goals (go_wp2_with fail; go_meet; first | exact ⟨_, rfl, ⟨by simp [hbad.out]⟩, ⟨S4.out.keep ⟨rfl, rfl, rfl, Nat.le_refl _, fun _ _ => rfl⟩⟩⟩)
            · have d8 : (ka != kb) = true := by simp [k8]
              have hbad := Aside0.mk (hbad2.2 (.inr k8))
              clear hbad2 k7 k8
              go_region_o
              all_goals (go_wp2_with fail; go_meet; first | exact ⟨_, rfl, ⟨by simp [hbad.out]⟩, ⟨S4.out.keep ⟨rfl, rfl, rfl, Nat.le_refl _, fun _ _ => rfl⟩⟩⟩)
          · have d6 : decide ((0 : Int) < (i : Int)) = false := decide_eq_false (by omega)
            have d6b : decide (0 < i) = false := decide_eq_false k6
            by_cases k8 : ka = kb
            · have d8 : (ka != kb) = false := by simp [k8]
              have hbad := Aside0.mk (show ¬ PB from fun h => (hbad2.1 h).elim (fun h => k6 h.1) (fun h => h k8))
              clear hbad2 k8
              go_region_o
              all_goals (go_wp2_with fail; go_meet; first | exact ⟨_, rfl, ⟨by simp [hbad.out]⟩, ⟨S4.out.keep ⟨rfl, rfl, rfl, Nat.le_refl _, fun _ _ => rfl⟩⟩⟩)
            · have d8 : (ka != kb) = true := by simp [k8]
              have hbad := Aside0.mk (hbad2.2 (.inr k8))
              clear hbad2 k8
              go_region_o
              all_goals (go_wp2_with fail; go_meet; first | exact ⟨_, rfl, ⟨by simp [hbad.out]⟩, ⟨S4.out.keep ⟨rfl, rfl, rfl, Nat.le_refl _, fun _ _ => rfl⟩⟩⟩)
        case rest =>
          clear q0 q1 ha0 hb0 S4
          obtain ⟨bb, rfl, hbb, S5⟩ := hcut
          have q1 : wc.cell? ⟨g11, 1, none⟩ = some (.int .i64 v) := (blk_cell (S5.out.at_blk 0 rfl) 1).trans rfl
          cases bb with
          | true =>
            have hPBt := hbb.out.1 rfl
            rw [← hPB.out] at hPBt
            have hRf : R = false := by
              rw [← hR.out]
              unfold rightK
              exact decide_eq_false (fun h => h.1 i (by rw [hB.out.1]; exact HL.out) hPBt)
            replace hRf := Aside0.mk hRf
            clear hPBt hbad
            go_wp2
            go_ret
            exact ⟨by rw [hRf.out]; rfl, S5.out.below⟩
          | false =>
            have hPBf : ¬ PB := fun h => by have := hbb.out.2 h; cases this
            have hv : 0 ≤ v ∧ v < (nB : Int) := by
              have h1 := fun h => hPBf (hbad.2 h)
              constructor
              · exact Int.not_lt.1 (fun h => h1 (.inr (.inr (.inl h))))
              · exact Int.not_le.1 (fun h => h1 (.inr (.inr (.inr (.inl h)))))
            rw [← hPB.out] at hPBf
            obtain ⟨w8, hr8, S6, _⟩ := set_put S5.out 1 rfl (x := v) (by have := hB6.out; unfold in64; omega) (by have := hi.out; have := hB.out.2.1; have := hB.out.1; simp only [maxLen]; omega)
            have S7 := Aside0.mk (Stt.drop (a := blk g11 50 #[.int .i64 u, .int .i64 v]) (l := mpS bm (m + 1) (fun j => K j || decide (j = v)) :: [blk g3 71 #[.slice an nA cn, .slice ap sa.P.length cp, .slice az sa.Z.length cz, .slice ak sa.K.length ck], blk g4 71 #[.slice bn nB dn, .slice bp sb.P.length dp, .slice bz sb.Z.length dz, .slice bk sb.K.length dk], blk gb 24 #[.int .i64 xb.f0, .string xb.f1, .string xb.f2, .slice B xb.f3.length d], blk ga 24 #[.int .i64 xa.f0, .string xa.f1, .string xa.f2, .slice A xa.f3.length c]]) S6)
            replace hr8 := Aside0.mk hr8
            have hwi : wrap64 ((i : Int) + 1) = ((i + 1 : Nat) : Int) := by have := HL.out; have := hB.out.2.1; have := hB.out.1; clear hbad hv; unfold wrap64; omega
            replace hwi := Aside0.mk hwi
            replace hPBf := Aside0.mk hPBf
            clear hbad hv S5 S6
            go_wp2_with (refine wpl_mapput rfl 74 _ _ _ rfl _ _ _ (by rfl) (by rfl) (by rfl) hr8.out ?_)
            go_roundg (nP - i)
            case rel => exact ⟨i + 1, m + 1, _, by rw [hwi.out], ⟨by have := HL.out; omega, by have := HL.out; omega, by have := hi.out; omega⟩, ⟨fun j hj => by
              by_cases e : j = i
              · rw [e]; exact hPBf.out
              · exact hg.out.1 j (by omega), fun x => by
              have hl : i < prs.length := by rw [hB.out.1]; exact HL.out
              have hxi : prs[i]? = some (u, v) := by rw [← hx]; simp [List.getD_eq_getElem?_getD, List.getElem?_eq_getElem hl]
              rw [List.take_add_one, hxi, List.map_append, List.mem_append]
              simp [hg.out.2]⟩, S7⟩
            case measure => have := hi.out; have := HL.out; omega
      · have hin : i = nP := by have := hi.out.1; omega
        have i1 : decide ((i : Int) < (nP : Int)) = false := decide_eq_false (by omega)
        have i1b : decide (i < nP) = false := decide_eq_false (by omega)
        have i1c : ¬ (i : Int) < (nP : Int) := by omega
        replace hin := Aside0.mk hin
        clear hlt2
        by_cases h0 : 0 < nP
        · have d0 : decide ((0 : Int) < (nP : Int)) = true := decide_eq_true (by omega)
          have d0b : decide (0 < nP) = true := decide_eq_true h0
          have d0c : (0 : Int) < (nP : Int) := by omega
          obtain ⟨adP, rfl, x0, x1⟩ := at_P (S.out.rdC 8 rfl) (0 : Int) (Int.le_refl _) (by rw [hB.out.1]; omega)
          obtain ⟨⟨u, v⟩, hx⟩ : ∃ x, prs.getD 0 (0, 0) = x := ⟨_, rfl⟩
          simp only [Int.toNat_zero, Nat.zero_mul] at x0 x1
          rw [hx] at x0 x1
          dsimp only at x0 x1
          have e0 : adP.add 0 = adP := rfl
          rw [e0] at x0 x1
          have hRv : R = decide (u = 0 ∧ v = 0) := by
            rw [← hR.out]
            unfold rightK
            have h1 : (∀ j, j < prs.length → ¬ pairBad sa.N sb.N prs j) := fun j hj => hg.out.1 j (by rw [hB.out.1] at hj; have := hin.out; omega)
            rw [hx]
            by_cases e : u = 0 ∧ v = 0
            · rw [decide_eq_true e]; exact decide_eq_true ⟨h1, by rw [hB.out.1]; exact h0, by rw [e.1, e.2]⟩
            · rw [decide_eq_false e]; exact decide_eq_false (fun h => e ⟨congrArg Prod.fst h.2.2, congrArg Prod.snd h.2.2⟩)
          replace hRv := Aside0.mk hRv
          have heq := fun W => eq_pair W u v
          go_wp2
          go_ret
          exact ⟨by rw [hRv.out, Bool.decide_and]; rfl, S.out.below⟩
        · have d0 : decide ((0 : Int) < (nP : Int)) = false := decide_eq_false (by omega)
          have d0b : decide (0 < nP) = false := decide_eq_false h0
          have d0c : ¬ (0 : Int) < (nP : Int) := by omega
          have hRv : R = false := by
            rw [← hR.out]
            unfold rightK
            exact decide_eq_false (fun h => h0 (by rw [← hB.out.1]; exact h.2.1))
          replace hRv := Aside0.mk hRv
          go_wp2
          go_ret
          exact ⟨by rw [hRv.out]; rfl, S.out.below⟩
end Go.Proofs.Ytfmlpkeaiohknaa.Q
