-- Written by a program of this session (wip/gen_keeps.py) for this claim; Lean checks it.
import Derived.Test.YtfmlpkeaiohknaaDoorMSt
import Derived.Test.YtfmlpkeaiohknaaDoorMMk1
import Derived.Test.YtfmlpkeaiohknaaDoorMRCopyF
import Derived.Test.YtfmlpkeaiohknaaDoorMTells
import Derived.Test.YtfmlpkeaiohknaaDoorQx3
import Derived.Test.YtfmlpkeaiohknaaDoorMMarks
set_option linter.unusedVariables false
set_option linter.unusedSimpArgs false
namespace Go.Proofs.YtfmlpkeaiohknaaDoor.Q
open Go.RowKit Go.Proofs.YtfmlpkeaiohknaaDoorW.PrintWords Go.Proofs.YtfmlpkeaiohknaaDoorW.PrintLast Go.Proofs.YtfmlpkeaiohknaaDoorW.PrintMore Go.Proofs.YtfmlpkeaiohknaaDoorW.SL
attribute [local go_sem] max2_int min2_int max_two min_two max_three min_three max_four min_four
def keeps.T9 : Bool × List (List Nat × List Nat) := (true, [([], []), ([0], [0]), ([], []), ([2], [2]), ([3], [3]), ([4], [4]), ([5], [5]), ([6], [6]), ([1, 0, 1, 2, 3, 4, 5, 6, 7], [1]), ([8, 0, 1, 2, 3, 4, 5, 6, 7], [8]), ([9, 7, 0, 1, 2, 3, 4, 5, 6, 7], [7, 9])])
def keeps.B9 : List Nat := [0, 1, 0, 4, 12, 28, 60, 124, 255, 511, 1023]
theorem keeps.tab9 : rtab .any (opsOf Tryd.f6 9) = keeps.T9 := by kernel_rfl
theorem keeps.bits9 : waitsOk keeps.T9.2 keeps.B9 = true := by kernel_rfl
theorem tree_ev (x : S24) (hn : nsz x ≤ 1000) : ∃ k, shape_Tree.f k (ofP x).N (ofP x).P (ofP x).Z (ofP x).K = some (x.f0, x.f1, x.f2, x.f3) := by
  obtain ⟨k, hk⟩ := copy_f _ x (Nat.le_refl _) (by omega)
  obtain ⟨q, hq⟩ := head_pre x []
  rw [List.append_nil] at hq
  refine ⟨k, ?_⟩
  unfold shape_Tree.f
  rw [ofP_N, hq, if_neg (by simp; omega), if_pos (by simp), show rd_T24 (x :: q) 0 = x from rfl, hk]
  rfl
theorem take4 {w : World} {g t : Nat} {cur : Array Value} {c0 c1 c2 c3 : Value} (h : w.heap[g]? = some (.cells cur t (0, 0))) (ht : cur.toList.take 4 = [c0, c1, c2, c3]) : w.cell? ⟨g, 0, none⟩ = some c0 ∧ w.cell? ⟨g, 1, none⟩ = some c1 ∧ w.cell? ⟨g, 3, none⟩ = some c3 := by
  have hc : ∀ i, i < 4 → cur[i]? = [c0, c1, c2, c3][i]? := fun i hi => by
    rw [← ht, List.getElem?_take, if_pos hi]; simp
  exact ⟨(blk_cell h 0).trans (hc 0 (by omega)), (blk_cell h 1).trans (hc 1 (by omega)), (blk_cell h 3).trans (hc 3 (by omega))⟩
theorem first_own {w : World} {n : Nat} {v : Value} {inner : List Value} (h : w.ownsRow 0 24 4 v n inner) (hn : 0 < n) : ∃ g cap cur, v = .slice (some ⟨g, 0, none⟩) n cap ∧ w.heap[g]? = some (.cells cur 24 (0, 0)) ∧ 4 ≤ cur.size ∧ cur.toList.take (n * 4) = inner := by
  obtain ⟨hl, ⟨_, h0⟩ | ⟨g, cap, cur, rfl, _, hg, hnc, _, hcs, ht⟩⟩ := h
  · omega
  · exact ⟨g, cap, cur, rfl, hg, by omega, ht⟩
theorem first_R {w : World} {base : Nat} {ok : Nat → Prop} {v : Value} {x0 : S24} {r : List S24} (h : Kd.R k24 24 w base ok v (x0 :: r)) : ∃ g cap cur v3, v = .slice (some ⟨g, 0, none⟩) (x0 :: r).length cap ∧ base ≤ g ∧ w.heap[g]? = some (.cells cur 24 (0, 0)) ∧ cur.toList.take 4 = [.int .i64 x0.f0, .string x0.f1, .string x0.f2, v3] := by
  obtain ⟨_, inner, ho, hr⟩ := h
  have hM := hr.2 0 x0 rfl
  obtain ⟨v3, e3, _⟩ := k24_openM hM
  obtain ⟨hl, ⟨_, h0⟩ | ⟨g, cap, cur, rfl, hb, hg, hnc, _, hcs, ht⟩⟩ := ho
  · simp at h0
  · refine ⟨g, cap, cur, v3, rfl, hb, hg, ?_⟩
    rw [← e3, ← ht]
    simp only [Nat.zero_mul, List.drop_zero, List.take_take]
    congr 1
    have : k24.sz = 4 := rfl
    simp only [this, List.length_cons]; omega
theorem marks_nil : shape_Marks.f [] = some [] := by
  unfold shape_Marks.f
  rw [if_pos (by simp)]
  rfl
set_option maxHeartbeats 16000000 in
set_option maxRecDepth 100000 in
theorem keeps_calls (x : S24) (A0 : Option Addr) (c0 : Nat) (w : World) (htab : TabOk w) (hr0 : Kd.C k24 w A0 x.f3.length x.f3) (hc0 : x.f3.length ≤ c0) (hR : ∀ y ∈ pre x, inR y) :
  Calls Tryd.prog 6 #[.agg #[.int .i64 x.f0, .string x.f1, .string x.f2, .slice A0 x.f3.length c0]] w fun e w' => e = .returned (.bool true) ∧ Below w.heap.size w w' := by
 obtain ⟨b, hb, hm⟩ := few_ev x 1000 (by omega) (by omega)
 obtain ⟨kf, hkf⟩ := hb.has
 replace hkf := Aside0.mk hkf
 have S : Stt w (fun k => k < w.heap.size) [] [rdV k24 A0 c0 x.f3] w := Stt.start w (by intro a ha; rw [List.mem_singleton] at ha; subst ha; exact ⟨hc0, Kd.C_F k24_heap hr0⟩)
 have htabB : ∀ w' : World, Below w.heap.size w w' → TabOk w' := fun w' h => tab_below htab h
 replace htabB := Aside0.mk htabB
 clear hr0 hc0
 have hu24 := Tryd.underlying24
 have hu30 := Tryd.underlying30
 cases b with
 | false =>
  go_enter Tryd.func6, Tryd.ntmps6
  go_wp2_with (first | ((with_reducible refine gate_dst (N := 1) rfl ?_); refine box_event ?hg (N := 1) ?hd (cs := #[.int .i64 x.f0, .string x.f1, .string x.f2, .slice A0 x.f3.length c0]) (t := 24) ?hr ?_; (case hd => rfl); (case hg => rfl); (case hr => first | (go_simp; done) | (go_simp; rfl)); intro g1 hg_ w1 hbox hb; replace S := S.box hg_ hbox hb; clear hbox hb hg_; obtain ⟨⟨g1_0, g1_1, g1_2, g1_3⟩, g1_4, g1_5, g1_6, g1_7⟩ := box4 (S.at_blk 0 rfl)) | ((with_reducible refine gate_callee (f := 8) rfl ?_); (try (refine gate_guard (by rfl) ?_; dsimp only)); refine goesL_ (some 7) rfl rfl Tryd.func8 (by kernel_rfl) rfl #[.agg #[.int .i64 x.f0, .string x.f1, .string x.f2, .slice A0 x.f3.length c0], .int .i64 1000] rfl (by (try simp only [List.map_toArray, List.map_cons, List.map_nil]); first | done | rfl) ?_; refine (scarflaw10_few.calls kf x.f0 x.f1 x.f2 A0 c0 x.f3 1000 false _ (S.rdC 0 rfl) (S.rdL 0 rfl) hkf.out).mono ?_; rintro e w2 ⟨rfl, hb⟩; refine ⟨_, rfl, ?_⟩; replace S := S.keep hb; clear hb; clear g1_0 g1_1 g1_2 g1_3 g1_4 g1_5 g1_6 g1_7; obtain ⟨⟨g1_0, g1_1, g1_2, g1_3⟩, g1_4, g1_5, g1_6, g1_7⟩ := box4 (S.at_blk 0 rfl)) | ((with_reducible refine gate_callee (f := 9) rfl ?_); (try (refine gate_guard (by rfl) ?_; dsimp only)); refine goesL_ (some 9) rfl rfl Tryd.func9 (by kernel_rfl) rfl #[] rfl (by (try simp only [List.map_toArray, List.map_cons, List.map_nil]); first | done | rfl) ?_; refine (scarflaw10_known.calls 20 true _ (htabB.out _ S.below) known_at rfl).mono ?_; rintro e w3 ⟨rfl, hb⟩; refine ⟨_, rfl, ?_⟩; replace S := S.keep hb; clear hb; clear g1_0 g1_1 g1_2 g1_3 g1_4 g1_5 g1_6 g1_7; obtain ⟨⟨g1_0, g1_1, g1_2, g1_3⟩, g1_4, g1_5, g1_6, g1_7⟩ := box4 (S.at_blk 0 rfl)))
  refine bodyPost_ret (results_tmp (t := 2) rfl _ _ _) rfl ?_
  exact ⟨rfl, S.below⟩
 | true =>
  obtain ⟨hn, hsz⟩ := hm rfl
  clear hm hb
  obtain ⟨kc, hkc⟩ := (rcopy_ev x (by omega)).has
  obtain ⟨kt, hkt⟩ := tree_ev x (by omega)
  obtain ⟨ks, hks⟩ : ∃ k, scarfref05_Same.f k x.f0 x.f1 x.f2 x.f3 x.f0 x.f1 x.f2 x.f3 = some true := by
   obtain ⟨q, hq, hqe⟩ := same_ev x x (by omega)
   obtain rfl := hqe.2 rfl
   exact hq.has
  have hof : shape_Of.f x.f0 x.f1 x.f2 x.f3 = some ((ofP x).N, (ofP x).P, (ofP x).Z, (ofP x).K) := by
   unfold shape_Of.f; cases x; exact if_pos (by simp only at *; omega)
  obtain ⟨q1, hq1⟩ := head_pre x []
  rw [List.append_nil, ← ofP_N] at hq1
  replace hof := Aside0.mk hof
  replace hkt := Aside0.mk hkt
  replace hks := Aside0.mk hks
  replace hkc := Aside0.mk hkc
  generalize hN : (ofP x).N = pN at hof hkt hq1
  generalize (ofP x).P = pP at hof hkt
  generalize (ofP x).Z = pZ at hof hkt
  generalize (ofP x).K = pK at hof hkt
  clear hN
  have hp0 : pN[0]? = some x := by rw [hq1]; rfl
  have hpl : 0 < pN.length := by rw [hq1]; simp
  clear hq1

  have hl1 : ((pN.length : Int) == 0) = false := by rw [beq_eq_false_iff_ne]; omega
  have hix : ((0 : Int) < (pN.length : Int)) = True := eq_true (by omega)
  by_cases hk : x.f3.length = 0
  · have hk0 : (0 < x.f3.length) = False := eq_false (by omega)
    clear hk
    go_enter Tryd.func6, Tryd.ntmps6
    go_wp2_with (first | ((with_reducible refine gate_dst (N := 1) rfl ?_); refine box_event ?hg (N := 1) ?hd (cs := #[.int .i64 x.f0, .string x.f1, .string x.f2, .slice A0 x.f3.length c0]) (t := 24) ?hr ?_; (case hd => rfl); (case hg => rfl); (case hr => first | (go_simp; done) | (go_simp; rfl)); intro g1 hg_ w1 hbox hb; replace S := S.box hg_ hbox hb; clear hbox hb hg_; obtain ⟨⟨g1_0, g1_1, g1_2, g1_3⟩, g1_4, g1_5, g1_6, g1_7⟩ := box4 (S.at_blk 0 rfl)) | ((with_reducible refine gate_callee (f := 8) rfl ?_); (try (refine gate_guard (by rfl) ?_; dsimp only)); refine goesL_ (some 7) rfl rfl Tryd.func8 (by kernel_rfl) rfl #[.agg #[.int .i64 x.f0, .string x.f1, .string x.f2, .slice A0 x.f3.length c0], .int .i64 1000] rfl (by (try simp only [List.map_toArray, List.map_cons, List.map_nil]); first | done | rfl) ?_; refine (scarflaw10_few.calls kf x.f0 x.f1 x.f2 A0 c0 x.f3 1000 true _ (S.rdC 0 rfl) (S.rdL 0 rfl) hkf.out).mono ?_; rintro e w2 ⟨rfl, hb⟩; refine ⟨_, rfl, ?_⟩; replace S := S.keep hb; clear hb; clear g1_0 g1_1 g1_2 g1_3 g1_4 g1_5 g1_6 g1_7; obtain ⟨⟨g1_0, g1_1, g1_2, g1_3⟩, g1_4, g1_5, g1_6, g1_7⟩ := box4 (S.at_blk 0 rfl)) | ((with_reducible refine gate_callee (f := 18) rfl ?_); (try (refine gate_guard (by rfl) ?_; dsimp only)); refine goesL_ (some 11) rfl rfl Tryd.func18 (by kernel_rfl) rfl #[.agg #[.int .i64 x.f0, .string x.f1, .string x.f2, .slice A0 x.f3.length c0]] rfl (by (try simp only [List.map_toArray, List.map_cons, List.map_nil]); first | done | rfl) ?_; refine (scarfref05_Copy.calls kc x.f0 x.f1 x.f2 A0 c0 x.f3 _ _ _ _ _ (S.rdC 0 rfl) (S.rdL 0 rfl) hkc.out).mono ?_; rintro e w3 ⟨v3, rfl, hr_, hb⟩; refine ⟨_, rfl, ?_⟩; obtain ⟨A3, c3, rfl, h3⟩ := rd_R hr_; replace S := S.call hb (F' := [rdV k24 A3 c3 x.f3]) (by intro a ha; rw [List.mem_singleton] at ha; subst ha; exact h3); clear hb h3 hr_; clear g1_0 g1_1 g1_2 g1_3 g1_4 g1_5 g1_6 g1_7; obtain ⟨⟨g1_0, g1_1, g1_2, g1_3⟩, g1_4, g1_5, g1_6, g1_7⟩ := box4 (S.at_blk 0 rfl)) | ((with_reducible refine gate_dst (N := 3) rfl ?_); refine box_event ?hg (N := 3) ?hd (cs := #[.int .i64 0, .string (⟨#[]⟩ : ByteArray), .string (⟨#[]⟩ : ByteArray), .slice none 0 0]) (t := 24) ?hr ?_; (case hd => rfl); (case hg => rfl); (case hr => first | (go_simp; done) | (go_simp; rfl)); intro g3 hg_ w4 hbox hb; replace S := S.box hg_ hbox hb; clear hbox hb hg_; clear g1_0 g1_1 g1_2 g1_3 g1_4 g1_5 g1_6 g1_7; obtain ⟨⟨g3_0, g3_1, g3_2, g3_3⟩, g3_4, g3_5, g3_6, g3_7⟩ := box4 (S.at_blk 0 rfl); obtain ⟨⟨g1_0, g1_1, g1_2, g1_3⟩, g1_4, g1_5, g1_6, g1_7⟩ := box4 (S.at_blk 1 rfl)) | ((with_reducible refine gate_store (t := 24) (p := 3) (v := .tmp 11) rfl ?_); refine store_event ?hg (t := 24) (p := 3) (v := .tmp 11) ?ho ?hN (w1 := ?wn_w5) ?hr ?_; (case hg => rfl); (case ho => rfl); (case hN => rfl); (case hr => first | (go_simp; done) | (go_simp; rfl)); intro w5 hw_; replace S := S.set4 (.int .i64 x.f0) (.string x.f1) (.string x.f2) (.slice A3 x.f3.length c3); rw [← hw_] at S; clear hw_; clear g3_0 g3_1 g3_2 g3_3 g3_4 g3_5 g3_6 g3_7; clear g1_0 g1_1 g1_2 g1_3 g1_4 g1_5 g1_6 g1_7; obtain ⟨⟨g3_0, g3_1, g3_2, g3_3⟩, g3_4, g3_5, g3_6, g3_7⟩ := box4 (S.at_blk 0 rfl); obtain ⟨⟨g1_0, g1_1, g1_2, g1_3⟩, g1_4, g1_5, g1_6, g1_7⟩ := box4 (S.at_blk 1 rfl)) | ((with_reducible refine gate_callee (f := 10) rfl ?_); (try (refine gate_guard (by rfl) ?_; dsimp only)); refine goesL_ (some 13) rfl rfl Tryd.func10 (by kernel_rfl) rfl #[.agg #[.int .i64 x.f0, .string x.f1, .string x.f2, .slice A0 x.f3.length c0]] rfl (by (try simp only [List.map_toArray, List.map_cons, List.map_nil]); first | done | rfl) ?_; refine (shape_Of.callsK x.f0 x.f1 x.f2 A0 c0 x.f3 _ _ _ _ _ (S.rdC 1 rfl) (S.rdL 1 rfl) hof.out).mono ?_; rintro e w6 ⟨v0, v1, v2, v3, rfl, ho0, ho1, ho2, ho3, hb, how⟩; refine ⟨_, rfl, ?_⟩; obtain ⟨gN, qN, cur, A5, c5, inner, rfl, hgN, htk, hown⟩ := how.ex; have S5 := Aside0.mk S; replace S := S.add (a := sameF w5 _) ⟨fun _ h_ => h_, fun _ _ _ => rfl⟩; have hg5_ : w5.heap.size ≤ gN := (ho0.1 gN rfl).1; obtain ⟨An, cn, en, r0⟩ := rd_N ho0 (fun k hk => hk.1); injection en with eA _ ec; subst eA ec; obtain ⟨Ap, cp, rfl, r1⟩ := rd_R ho1; obtain ⟨Az, cz, rfl, r2⟩ := rd_R ho2; obtain ⟨Ak, ck, rfl, r3⟩ := rd_S ho3; replace S := S.call hb (F' := [rdV k24 (some ⟨gN, 0, none⟩) qN pN, rdV (Kd.int .i64) Ap cp pP, rdV (Kd.int .i64) Az cz pZ, rdV (Kd.slice 3 (Kd.int .i64)) Ak ck pK, bkF gN 24 cur, ownF (.slice A5 x.f3.length c5) 24 4 x.f3.length inner]) (by intro a ha; simp only [List.mem_cons, List.not_mem_nil, or_false] at ha; rcases ha with rfl | rfl | rfl | rfl | rfl | rfl; exact r0; exact r1; exact r2; exact r3; exact ⟨⟨hg5_, blk_lt hgN⟩, hgN⟩; exact ⟨fun k hk => ⟨own_base hown k hk, own_lt hown k hk⟩, own_weaken hown (Nat.zero_le _)⟩); have hK5 := Aside0.mk (own_base hown); replace htk := Aside0.mk htk; clear hb r0 r1 r2 r3 ho0 ho1 ho2 ho3 hgN hown how hg5_; clear g3_0 g3_1 g3_2 g3_3 g3_4 g3_5 g3_6 g3_7; clear g1_0 g1_1 g1_2 g1_3 g1_4 g1_5 g1_6 g1_7; obtain ⟨⟨g3_0, g3_1, g3_2, g3_3⟩, g3_4, g3_5, g3_6, g3_7⟩ := box4 (S.at_blk 0 rfl); obtain ⟨⟨g1_0, g1_1, g1_2, g1_3⟩, g1_4, g1_5, g1_6, g1_7⟩ := box4 (S.at_blk 1 rfl)) | ((with_reducible refine gate_dst (N := 4) rfl ?_); refine box_event ?hg (N := 4) ?hd (cs := #[.slice none 0 0, .slice none 0 0, .slice none 0 0, .slice none 0 0]) (t := 30) ?hr ?_; (case hd => rfl); (case hg => rfl); (case hr => first | (go_simp; done) | (go_simp; rfl)); intro g4 hg_ w7 hbox hb; replace S := S.box hg_ hbox hb; clear hbox hb hg_; clear g3_0 g3_1 g3_2 g3_3 g3_4 g3_5 g3_6 g3_7; clear g1_0 g1_1 g1_2 g1_3 g1_4 g1_5 g1_6 g1_7; obtain ⟨⟨g4_0, g4_1, g4_2, g4_3⟩, g4_4, g4_5, g4_6, g4_7⟩ := box4 (S.at_blk 0 rfl); obtain ⟨⟨g3_0, g3_1, g3_2, g3_3⟩, g3_4, g3_5, g3_6, g3_7⟩ := box4 (S.at_blk 1 rfl); obtain ⟨⟨g1_0, g1_1, g1_2, g1_3⟩, g1_4, g1_5, g1_6, g1_7⟩ := box4 (S.at_blk 2 rfl)) | ((with_reducible refine gate_store (t := 30) (p := 4) (v := .tmp 13) rfl ?_); refine store_event ?hg (t := 30) (p := 4) (v := .tmp 13) ?ho ?hN (w1 := ?wn_w8) ?hr ?_; (case hg => rfl); (case ho => rfl); (case hN => rfl); (case hr => first | (go_simp; done) | (go_simp; rfl)); intro w8 hw_; replace S := S.set4 (.slice (some ⟨gN, 0, none⟩) pN.length qN) (.slice Ap pP.length cp) (.slice Az pZ.length cz) (.slice Ak pK.length ck); rw [← hw_] at S; clear hw_; clear g4_0 g4_1 g4_2 g4_3 g4_4 g4_5 g4_6 g4_7; clear g3_0 g3_1 g3_2 g3_3 g3_4 g3_5 g3_6 g3_7; clear g1_0 g1_1 g1_2 g1_3 g1_4 g1_5 g1_6 g1_7; obtain ⟨⟨g4_0, g4_1, g4_2, g4_3⟩, g4_4, g4_5, g4_6, g4_7⟩ := box4 (S.at_blk 0 rfl); obtain ⟨⟨g3_0, g3_1, g3_2, g3_3⟩, g3_4, g3_5, g3_6, g3_7⟩ := box4 (S.at_blk 1 rfl); obtain ⟨⟨g1_0, g1_1, g1_2, g1_3⟩, g1_4, g1_5, g1_6, g1_7⟩ := box4 (S.at_blk 2 rfl)) | ((with_reducible refine gate_callee (f := 14) rfl ?_); (try (refine gate_guard (by rfl) ?_; dsimp only)); refine goesL_ (some 19) rfl rfl Tryd.func14 (by kernel_rfl) rfl #[.agg #[.slice (some ⟨gN, 0, none⟩) pN.length qN, .slice Ap pP.length cp, .slice Az pZ.length cz, .slice Ak pK.length ck]] rfl (by (try simp only [List.map_toArray, List.map_cons, List.map_nil]); first | done | rfl) ?_; refine (shape_Tree.calls kt (some ⟨gN, 0, none⟩) qN pN Ap cp pP Az cz pZ Ak ck pK _ _ _ _ _ (S.rdC 0 rfl) (S.rdL 0 rfl) (S.rdC 1 rfl) (S.rdL 1 rfl) (S.rdC 2 rfl) (S.rdL 2 rfl) (S.rdC 3 rfl) (S.rdL 3 rfl) hkt.out).mono ?_; rintro e w9 ⟨vu, rfl, hru, hb⟩; refine ⟨_, rfl, ?_⟩; obtain ⟨AU, cU, rfl, _⟩ := rd_R hru; replace S := S.keep hb; clear hb hru; clear g4_0 g4_1 g4_2 g4_3 g4_4 g4_5 g4_6 g4_7; clear g3_0 g3_1 g3_2 g3_3 g3_4 g3_5 g3_6 g3_7; clear g1_0 g1_1 g1_2 g1_3 g1_4 g1_5 g1_6 g1_7; obtain ⟨⟨g4_0, g4_1, g4_2, g4_3⟩, g4_4, g4_5, g4_6, g4_7⟩ := box4 (S.at_blk 0 rfl); obtain ⟨⟨g3_0, g3_1, g3_2, g3_3⟩, g3_4, g3_5, g3_6, g3_7⟩ := box4 (S.at_blk 1 rfl); obtain ⟨⟨g1_0, g1_1, g1_2, g1_3⟩, g1_4, g1_5, g1_6, g1_7⟩ := box4 (S.at_blk 2 rfl)) | ((with_reducible refine gate_dst (N := 5) rfl ?_); refine box_event ?hg (N := 5) ?hd (cs := #[.int .i64 0, .string (⟨#[]⟩ : ByteArray), .string (⟨#[]⟩ : ByteArray), .slice none 0 0]) (t := 24) ?hr ?_; (case hd => rfl); (case hg => rfl); (case hr => first | (go_simp; done) | (go_simp; rfl)); intro g5 hg_ w10 hbox hb; replace S := S.box hg_ hbox hb; clear hbox hb hg_; clear g4_0 g4_1 g4_2 g4_3 g4_4 g4_5 g4_6 g4_7; clear g3_0 g3_1 g3_2 g3_3 g3_4 g3_5 g3_6 g3_7; clear g1_0 g1_1 g1_2 g1_3 g1_4 g1_5 g1_6 g1_7; obtain ⟨⟨g5_0, g5_1, g5_2, g5_3⟩, g5_4, g5_5, g5_6, g5_7⟩ := box4 (S.at_blk 0 rfl); obtain ⟨⟨g4_0, g4_1, g4_2, g4_3⟩, g4_4, g4_5, g4_6, g4_7⟩ := box4 (S.at_blk 1 rfl); obtain ⟨⟨g3_0, g3_1, g3_2, g3_3⟩, g3_4, g3_5, g3_6, g3_7⟩ := box4 (S.at_blk 2 rfl); obtain ⟨⟨g1_0, g1_1, g1_2, g1_3⟩, g1_4, g1_5, g1_6, g1_7⟩ := box4 (S.at_blk 3 rfl)) | ((with_reducible refine gate_store (t := 24) (p := 5) (v := .tmp 19) rfl ?_); refine store_event ?hg (t := 24) (p := 5) (v := .tmp 19) ?ho ?hN (w1 := ?wn_w11) ?hr ?_; (case hg => rfl); (case ho => rfl); (case hN => rfl); (case hr => first | (go_simp; done) | (go_simp; rfl)); intro w11 hw_; replace S := S.set4 (.int .i64 x.f0) (.string x.f1) (.string x.f2) (.slice AU x.f3.length cU); rw [← hw_] at S; clear hw_; clear g5_0 g5_1 g5_2 g5_3 g5_4 g5_5 g5_6 g5_7; clear g4_0 g4_1 g4_2 g4_3 g4_4 g4_5 g4_6 g4_7; clear g3_0 g3_1 g3_2 g3_3 g3_4 g3_5 g3_6 g3_7; clear g1_0 g1_1 g1_2 g1_3 g1_4 g1_5 g1_6 g1_7; obtain ⟨⟨g5_0, g5_1, g5_2, g5_3⟩, g5_4, g5_5, g5_6, g5_7⟩ := box4 (S.at_blk 0 rfl); obtain ⟨⟨g4_0, g4_1, g4_2, g4_3⟩, g4_4, g4_5, g4_6, g4_7⟩ := box4 (S.at_blk 1 rfl); obtain ⟨⟨g3_0, g3_1, g3_2, g3_3⟩, g3_4, g3_5, g3_6, g3_7⟩ := box4 (S.at_blk 2 rfl); obtain ⟨⟨g1_0, g1_1, g1_2, g1_3⟩, g1_4, g1_5, g1_6, g1_7⟩ := box4 (S.at_blk 3 rfl); have hgn_ := take4 (S.bk 4 rfl).2 htk.out; have gN0 := hgn_.1; have gN3 := hgn_.2.2; clear hgn_) | ((with_reducible refine gate_callee (f := 9) rfl ?_); (try (refine gate_guard (by rfl) ?_; dsimp only)); refine goesL_ (some 48) rfl rfl Tryd.func9 (by kernel_rfl) rfl #[] rfl (by (try simp only [List.map_toArray, List.map_cons, List.map_nil]); first | done | rfl) ?_; refine (scarflaw10_known.calls 20 true _ (htabB.out _ S.below) known_at rfl).mono ?_; rintro e w12 ⟨rfl, hb⟩; refine ⟨_, rfl, ?_⟩; replace S := S.keep hb; clear hb; clear g5_0 g5_1 g5_2 g5_3 g5_4 g5_5 g5_6 g5_7; clear g4_0 g4_1 g4_2 g4_3 g4_4 g4_5 g4_6 g4_7; clear g3_0 g3_1 g3_2 g3_3 g3_4 g3_5 g3_6 g3_7; clear g1_0 g1_1 g1_2 g1_3 g1_4 g1_5 g1_6 g1_7; obtain ⟨⟨g5_0, g5_1, g5_2, g5_3⟩, g5_4, g5_5, g5_6, g5_7⟩ := box4 (S.at_blk 0 rfl); obtain ⟨⟨g4_0, g4_1, g4_2, g4_3⟩, g4_4, g4_5, g4_6, g4_7⟩ := box4 (S.at_blk 1 rfl); obtain ⟨⟨g3_0, g3_1, g3_2, g3_3⟩, g3_4, g3_5, g3_6, g3_7⟩ := box4 (S.at_blk 2 rfl); obtain ⟨⟨g1_0, g1_1, g1_2, g1_3⟩, g1_4, g1_5, g1_6, g1_7⟩ := box4 (S.at_blk 3 rfl)) | ((with_reducible refine gate_callee (f := 13) rfl ?_); (try (refine gate_guard (by rfl) ?_; dsimp only)); refine goesL_ (some 52) rfl rfl Tryd.func13 (by kernel_rfl) rfl #[.agg #[.int .i64 x.f0, .string x.f1, .string x.f2, .slice A0 x.f3.length c0], .agg #[.int .i64 x.f0, .string x.f1, .string x.f2, .slice A3 x.f3.length c3]] rfl (by (try simp only [List.map_toArray, List.map_cons, List.map_nil]); first | done | rfl) ?_; refine (scarfref05_Same.calls ks x.f0 x.f1 x.f2 A0 c0 x.f3 x.f0 x.f1 x.f2 A3 c3 x.f3 true _ (S.rdC 8 rfl) (S.rdL 8 rfl) (S.rdC 7 rfl) (S.rdL 7 rfl) hks.out).mono ?_; rintro e w13 ⟨rfl, hb⟩; refine ⟨_, rfl, ?_⟩; replace S := S.keep hb; clear hb) | ((with_reducible refine gate_callee (f := 15) rfl ?_); (try (refine gate_guard (by rfl) ?_; dsimp only)); refine goesL_ (some 55) rfl rfl Tryd.func15 (by kernel_rfl) rfl #[.slice none 0 0] rfl (by (try simp only [List.map_toArray, List.map_cons, List.map_nil]); first | done | rfl) ?_; refine (shape_Marks.calls none 0 ([] : List S24) [] _ (htabB.out _ S.below) (Kd.C_nil _ _) (Nat.le_refl _) marks_nil).mono ?_; rintro e w14 ⟨vm, rfl, hm_, hb⟩; refine ⟨_, rfl, ?_⟩; obtain ⟨AM, cM, rfl, _⟩ := rd_S hm_; replace S := S.keep hb; clear hb hm_))
    refine bodyPost_ret (results_tmp (t := 2) rfl _ _ _) rfl ?_
    exact ⟨rfl, S.below⟩
  · obtain ⟨x0, xr, hxc⟩ : ∃ x0 xr, x.f3 = x0 :: xr := by
      cases hx3 : x.f3 with
      | nil => rw [hx3] at hk; exact absurd rfl hk
      | cons a r => exact ⟨a, r, rfl⟩
    have hk0 : (0 < x.f3.length) = True := eq_true (by omega)
    have hkn : 0 < x.f3.length := by omega
    have hk1 : ((0 : Int) < (x.f3.length : Int)) = True := eq_true (by omega)
    have hs0 : x0.f1.size ≤ 50000 := by
      refine (hsz x0 ?_).1
      obtain ⟨xa, xb, xc, xl⟩ := x
      simp only at hxc
      subst hxc
      obtain ⟨q_, hq_⟩ := head_pre x0 (preL xr)
      simp only [pre, preL, hq_]
      simp
    have hsl : (9223372036854775807 < x0.f1.size + 1) = False := eq_false (by omega)
    replace hxc := Aside0.mk hxc
    clear hk
    replace hkn := Aside0.mk hkn
    replace hs0 := Aside0.mk hs0
    go_enter Tryd.func6, Tryd.ntmps6
    go_wp2_with (first | ((with_reducible refine gate_dst (N := 1) rfl ?_); refine box_event ?hg (N := 1) ?hd (cs := #[.int .i64 x.f0, .string x.f1, .string x.f2, .slice A0 x.f3.length c0]) (t := 24) ?hr ?_; (case hd => rfl); (case hg => rfl); (case hr => first | (go_simp; done) | (go_simp; rfl)); intro g1 hg_ w1 hbox hb; replace S := S.box hg_ hbox hb; clear hbox hb hg_; obtain ⟨⟨g1_0, g1_1, g1_2, g1_3⟩, g1_4, g1_5, g1_6, g1_7⟩ := box4 (S.at_blk 0 rfl)) | ((with_reducible refine gate_callee (f := 8) rfl ?_); (try (refine gate_guard (by rfl) ?_; dsimp only)); refine goesL_ (some 7) rfl rfl Tryd.func8 (by kernel_rfl) rfl #[.agg #[.int .i64 x.f0, .string x.f1, .string x.f2, .slice A0 x.f3.length c0], .int .i64 1000] rfl (by (try simp only [List.map_toArray, List.map_cons, List.map_nil]); first | done | rfl) ?_; refine (scarflaw10_few.calls kf x.f0 x.f1 x.f2 A0 c0 x.f3 1000 true _ (S.rdC 0 rfl) (S.rdL 0 rfl) hkf.out).mono ?_; rintro e w2 ⟨rfl, hb⟩; refine ⟨_, rfl, ?_⟩; replace S := S.keep hb; clear hb; clear g1_0 g1_1 g1_2 g1_3 g1_4 g1_5 g1_6 g1_7; obtain ⟨⟨g1_0, g1_1, g1_2, g1_3⟩, g1_4, g1_5, g1_6, g1_7⟩ := box4 (S.at_blk 0 rfl)) | ((with_reducible refine gate_callee (f := 18) rfl ?_); (try (refine gate_guard (by rfl) ?_; dsimp only)); refine goesL_ (some 11) rfl rfl Tryd.func18 (by kernel_rfl) rfl #[.agg #[.int .i64 x.f0, .string x.f1, .string x.f2, .slice A0 x.f3.length c0]] rfl (by (try simp only [List.map_toArray, List.map_cons, List.map_nil]); first | done | rfl) ?_; refine (scarfref05_Copy.calls kc x.f0 x.f1 x.f2 A0 c0 x.f3 _ _ _ _ _ (S.rdC 0 rfl) (S.rdL 0 rfl) hkc.out).mono ?_; rintro e w3 ⟨v3, rfl, hr_, hb⟩; refine ⟨_, rfl, ?_⟩; obtain ⟨A3, c3, rfl, h3⟩ := rd_R hr_; replace S := S.call hb (F' := [rdV k24 A3 c3 x.f3]) (by intro a ha; rw [List.mem_singleton] at ha; subst ha; exact h3); clear hb h3 hr_; clear g1_0 g1_1 g1_2 g1_3 g1_4 g1_5 g1_6 g1_7; obtain ⟨⟨g1_0, g1_1, g1_2, g1_3⟩, g1_4, g1_5, g1_6, g1_7⟩ := box4 (S.at_blk 0 rfl)) | ((with_reducible refine gate_dst (N := 3) rfl ?_); refine box_event ?hg (N := 3) ?hd (cs := #[.int .i64 0, .string (⟨#[]⟩ : ByteArray), .string (⟨#[]⟩ : ByteArray), .slice none 0 0]) (t := 24) ?hr ?_; (case hd => rfl); (case hg => rfl); (case hr => first | (go_simp; done) | (go_simp; rfl)); intro g3 hg_ w4 hbox hb; replace S := S.box hg_ hbox hb; clear hbox hb hg_; clear g1_0 g1_1 g1_2 g1_3 g1_4 g1_5 g1_6 g1_7; obtain ⟨⟨g3_0, g3_1, g3_2, g3_3⟩, g3_4, g3_5, g3_6, g3_7⟩ := box4 (S.at_blk 0 rfl); obtain ⟨⟨g1_0, g1_1, g1_2, g1_3⟩, g1_4, g1_5, g1_6, g1_7⟩ := box4 (S.at_blk 1 rfl)) | ((with_reducible refine gate_store (t := 24) (p := 3) (v := .tmp 11) rfl ?_); refine store_event ?hg (t := 24) (p := 3) (v := .tmp 11) ?ho ?hN (w1 := ?wm_w5) ?hr ?_; (case hg => rfl); (case ho => rfl); (case hN => rfl); (case hr => first | (go_simp; done) | (go_simp; rfl)); intro w5 hw_; replace S := S.set4 (.int .i64 x.f0) (.string x.f1) (.string x.f2) (.slice A3 x.f3.length c3); rw [← hw_] at S; clear hw_; clear g3_0 g3_1 g3_2 g3_3 g3_4 g3_5 g3_6 g3_7; clear g1_0 g1_1 g1_2 g1_3 g1_4 g1_5 g1_6 g1_7; obtain ⟨⟨g3_0, g3_1, g3_2, g3_3⟩, g3_4, g3_5, g3_6, g3_7⟩ := box4 (S.at_blk 0 rfl); obtain ⟨⟨g1_0, g1_1, g1_2, g1_3⟩, g1_4, g1_5, g1_6, g1_7⟩ := box4 (S.at_blk 1 rfl)) | ((with_reducible refine gate_callee (f := 10) rfl ?_); (try (refine gate_guard (by rfl) ?_; dsimp only)); refine goesL_ (some 13) rfl rfl Tryd.func10 (by kernel_rfl) rfl #[.agg #[.int .i64 x.f0, .string x.f1, .string x.f2, .slice A0 x.f3.length c0]] rfl (by (try simp only [List.map_toArray, List.map_cons, List.map_nil]); first | done | rfl) ?_; refine (shape_Of.callsK x.f0 x.f1 x.f2 A0 c0 x.f3 _ _ _ _ _ (S.rdC 1 rfl) (S.rdL 1 rfl) hof.out).mono ?_; rintro e w6 ⟨v0, v1, v2, v3, rfl, ho0, ho1, ho2, ho3, hb, how⟩; refine ⟨_, rfl, ?_⟩; obtain ⟨gN, qN, cur, A5, c5, inner, rfl, hgN, htk, hown⟩ := how.ex; have S5 := Aside0.mk S; replace S := S.add (a := sameF w5 _) ⟨fun _ h_ => h_, fun _ _ _ => rfl⟩; have hg5_ : w5.heap.size ≤ gN := (ho0.1 gN rfl).1; obtain ⟨An, cn, en, r0⟩ := rd_N ho0 (fun k hk => hk.1); injection en with eA _ ec; subst eA ec; obtain ⟨Ap, cp, rfl, r1⟩ := rd_R ho1; obtain ⟨Az, cz, rfl, r2⟩ := rd_R ho2; obtain ⟨Ak, ck, rfl, r3⟩ := rd_S ho3; replace S := S.call hb (F' := [rdV k24 (some ⟨gN, 0, none⟩) qN pN, rdV (Kd.int .i64) Ap cp pP, rdV (Kd.int .i64) Az cz pZ, rdV (Kd.slice 3 (Kd.int .i64)) Ak ck pK, bkF gN 24 cur, ownF (.slice A5 x.f3.length c5) 24 4 x.f3.length inner]) (by intro a ha; simp only [List.mem_cons, List.not_mem_nil, or_false] at ha; rcases ha with rfl | rfl | rfl | rfl | rfl | rfl; exact r0; exact r1; exact r2; exact r3; exact ⟨⟨hg5_, blk_lt hgN⟩, hgN⟩; exact ⟨fun k hk => ⟨own_base hown k hk, own_lt hown k hk⟩, own_weaken hown (Nat.zero_le _)⟩); have hK5 := Aside0.mk (own_base hown); replace htk := Aside0.mk htk; clear hb r0 r1 r2 r3 ho0 ho1 ho2 ho3 hgN hown how hg5_; clear g3_0 g3_1 g3_2 g3_3 g3_4 g3_5 g3_6 g3_7; clear g1_0 g1_1 g1_2 g1_3 g1_4 g1_5 g1_6 g1_7; obtain ⟨⟨g3_0, g3_1, g3_2, g3_3⟩, g3_4, g3_5, g3_6, g3_7⟩ := box4 (S.at_blk 0 rfl); obtain ⟨⟨g1_0, g1_1, g1_2, g1_3⟩, g1_4, g1_5, g1_6, g1_7⟩ := box4 (S.at_blk 1 rfl)) | ((with_reducible refine gate_dst (N := 4) rfl ?_); refine box_event ?hg (N := 4) ?hd (cs := #[.slice none 0 0, .slice none 0 0, .slice none 0 0, .slice none 0 0]) (t := 30) ?hr ?_; (case hd => rfl); (case hg => rfl); (case hr => first | (go_simp; done) | (go_simp; rfl)); intro g4 hg_ w7 hbox hb; replace S := S.box hg_ hbox hb; clear hbox hb hg_; clear g3_0 g3_1 g3_2 g3_3 g3_4 g3_5 g3_6 g3_7; clear g1_0 g1_1 g1_2 g1_3 g1_4 g1_5 g1_6 g1_7; obtain ⟨⟨g4_0, g4_1, g4_2, g4_3⟩, g4_4, g4_5, g4_6, g4_7⟩ := box4 (S.at_blk 0 rfl); obtain ⟨⟨g3_0, g3_1, g3_2, g3_3⟩, g3_4, g3_5, g3_6, g3_7⟩ := box4 (S.at_blk 1 rfl); obtain ⟨⟨g1_0, g1_1, g1_2, g1_3⟩, g1_4, g1_5, g1_6, g1_7⟩ := box4 (S.at_blk 2 rfl)) | ((with_reducible refine gate_store (t := 30) (p := 4) (v := .tmp 13) rfl ?_); refine store_event ?hg (t := 30) (p := 4) (v := .tmp 13) ?ho ?hN (w1 := ?wm_w8) ?hr ?_; (case hg => rfl); (case ho => rfl); (case hN => rfl); (case hr => first | (go_simp; done) | (go_simp; rfl)); intro w8 hw_; replace S := S.set4 (.slice (some ⟨gN, 0, none⟩) pN.length qN) (.slice Ap pP.length cp) (.slice Az pZ.length cz) (.slice Ak pK.length ck); rw [← hw_] at S; clear hw_; clear g4_0 g4_1 g4_2 g4_3 g4_4 g4_5 g4_6 g4_7; clear g3_0 g3_1 g3_2 g3_3 g3_4 g3_5 g3_6 g3_7; clear g1_0 g1_1 g1_2 g1_3 g1_4 g1_5 g1_6 g1_7; obtain ⟨⟨g4_0, g4_1, g4_2, g4_3⟩, g4_4, g4_5, g4_6, g4_7⟩ := box4 (S.at_blk 0 rfl); obtain ⟨⟨g3_0, g3_1, g3_2, g3_3⟩, g3_4, g3_5, g3_6, g3_7⟩ := box4 (S.at_blk 1 rfl); obtain ⟨⟨g1_0, g1_1, g1_2, g1_3⟩, g1_4, g1_5, g1_6, g1_7⟩ := box4 (S.at_blk 2 rfl)) | ((with_reducible refine gate_callee (f := 14) rfl ?_); (try (refine gate_guard (by rfl) ?_; dsimp only)); refine goesL_ (some 19) rfl rfl Tryd.func14 (by kernel_rfl) rfl #[.agg #[.slice (some ⟨gN, 0, none⟩) pN.length qN, .slice Ap pP.length cp, .slice Az pZ.length cz, .slice Ak pK.length ck]] rfl (by (try simp only [List.map_toArray, List.map_cons, List.map_nil]); first | done | rfl) ?_; refine (shape_Tree.calls kt (some ⟨gN, 0, none⟩) qN pN Ap cp pP Az cz pZ Ak ck pK _ _ _ _ _ (S.rdC 0 rfl) (S.rdL 0 rfl) (S.rdC 1 rfl) (S.rdL 1 rfl) (S.rdC 2 rfl) (S.rdL 2 rfl) (S.rdC 3 rfl) (S.rdL 3 rfl) hkt.out).mono ?_; rintro e w9 ⟨vu, rfl, hru, hb⟩; refine ⟨_, rfl, ?_⟩; obtain ⟨gU, cU, curU, v3U, eU, hgeU, hgU, htU⟩ := first_R (hxc.out ▸ hru); rw [← hxc.out] at eU; subst eU; replace htU := Aside0.mk htU; replace S := S.more hb (a := blk gU 24 curU) (f := fun k => k = gU) ⟨fun _ => Iff.rfl, hgU⟩ (fun k hk => by omega); clear hb hru hgeU hgU; clear g4_0 g4_1 g4_2 g4_3 g4_4 g4_5 g4_6 g4_7; clear g3_0 g3_1 g3_2 g3_3 g3_4 g3_5 g3_6 g3_7; clear g1_0 g1_1 g1_2 g1_3 g1_4 g1_5 g1_6 g1_7; obtain ⟨⟨g4_0, g4_1, g4_2, g4_3⟩, g4_4, g4_5, g4_6, g4_7⟩ := box4 (S.at_blk 1 rfl); obtain ⟨⟨g3_0, g3_1, g3_2, g3_3⟩, g3_4, g3_5, g3_6, g3_7⟩ := box4 (S.at_blk 2 rfl); obtain ⟨⟨g1_0, g1_1, g1_2, g1_3⟩, g1_4, g1_5, g1_6, g1_7⟩ := box4 (S.at_blk 3 rfl)) | ((with_reducible refine gate_dst (N := 5) rfl ?_); refine box_event ?hg (N := 5) ?hd (cs := #[.int .i64 0, .string (⟨#[]⟩ : ByteArray), .string (⟨#[]⟩ : ByteArray), .slice none 0 0]) (t := 24) ?hr ?_; (case hd => rfl); (case hg => rfl); (case hr => first | (go_simp; done) | (go_simp; rfl)); intro g5 hg_ w10 hbox hb; replace S := S.box hg_ hbox hb; clear hbox hb hg_; clear g4_0 g4_1 g4_2 g4_3 g4_4 g4_5 g4_6 g4_7; clear g3_0 g3_1 g3_2 g3_3 g3_4 g3_5 g3_6 g3_7; clear g1_0 g1_1 g1_2 g1_3 g1_4 g1_5 g1_6 g1_7; obtain ⟨⟨g5_0, g5_1, g5_2, g5_3⟩, g5_4, g5_5, g5_6, g5_7⟩ := box4 (S.at_blk 0 rfl); obtain ⟨⟨g4_0, g4_1, g4_2, g4_3⟩, g4_4, g4_5, g4_6, g4_7⟩ := box4 (S.at_blk 2 rfl); obtain ⟨⟨g3_0, g3_1, g3_2, g3_3⟩, g3_4, g3_5, g3_6, g3_7⟩ := box4 (S.at_blk 3 rfl); obtain ⟨⟨g1_0, g1_1, g1_2, g1_3⟩, g1_4, g1_5, g1_6, g1_7⟩ := box4 (S.at_blk 4 rfl)) | ((with_reducible refine gate_store (t := 24) (p := 5) (v := .tmp 19) rfl ?_); refine store_event ?hg (t := 24) (p := 5) (v := .tmp 19) ?ho ?hN (w1 := ?wm_w11) ?hr ?_; (case hg => rfl); (case ho => rfl); (case hN => rfl); (case hr => first | (go_simp; done) | (go_simp; rfl)); intro w11 hw_; replace S := S.set4 (.int .i64 x.f0) (.string x.f1) (.string x.f2) (.slice (some ⟨gU, 0, none⟩) x.f3.length cU); rw [← hw_] at S; clear hw_; clear g5_0 g5_1 g5_2 g5_3 g5_4 g5_5 g5_6 g5_7; clear g4_0 g4_1 g4_2 g4_3 g4_4 g4_5 g4_6 g4_7; clear g3_0 g3_1 g3_2 g3_3 g3_4 g3_5 g3_6 g3_7; clear g1_0 g1_1 g1_2 g1_3 g1_4 g1_5 g1_6 g1_7; obtain ⟨⟨g5_0, g5_1, g5_2, g5_3⟩, g5_4, g5_5, g5_6, g5_7⟩ := box4 (S.at_blk 0 rfl); obtain ⟨⟨g4_0, g4_1, g4_2, g4_3⟩, g4_4, g4_5, g4_6, g4_7⟩ := box4 (S.at_blk 2 rfl); obtain ⟨⟨g3_0, g3_1, g3_2, g3_3⟩, g3_4, g3_5, g3_6, g3_7⟩ := box4 (S.at_blk 3 rfl); obtain ⟨⟨g1_0, g1_1, g1_2, g1_3⟩, g1_4, g1_5, g1_6, g1_7⟩ := box4 (S.at_blk 4 rfl); have hgn_ := take4 (S.bk 4 rfl).2 htk.out; have gN0 := hgn_.1; have gN3 := hgn_.2.2; clear hgn_))

    replace S := S.keep (below_drew1 (Below.refl w11.heap.size w11))
    have hcu3 : w11.drew.cell? ⟨g5, 3, none⟩ = some (.slice (some ⟨gU, 0, none⟩) x.f3.length cU) := (box4 (S.at_blk 0 rfl)).1.2.2.2
    have htu := take4 (S.at_blk 1 rfl) htU.out
    have hcu1 : w11.drew.cell? ⟨gU, 1, none⟩ = some (.string x0.f1) := htu.2.1
    have hfu1 : w11.drew.frozen? ⟨gU, 1, none⟩ = false := blk_frozen (S.at_blk 1 rfl) 1
    clear g5_0 g5_1 g5_2 g5_3 g5_4 g5_5 g5_6 g5_7; clear g4_0 g4_1 g4_2 g4_3 g4_4 g4_5 g4_6 g4_7; clear g3_0 g3_1 g3_2 g3_3 g3_4 g3_5 g3_6 g3_7; clear g1_0 g1_1 g1_2 g1_3 g1_4 g1_5 g1_6 g1_7
    clear htu gN0 gN3
    have E := trivial
    refine start_ (n := 11) (S := fun w' => True) (ds := []) #[false, false, false, false, false, false, false, false, false, false, false] (by kernel_rfl) rfl rfl trivial (fun hHeld => ?_)
    refine with_tabW keeps.tab9 keeps.bits9 (fun HT_ HW_ => ?_)
    generalize w11.drew = w13 at S hHeld hcu3 hcu1 hfu1 ⊢
    refine pure_ (i := 0) (N := some 24) (v := ?_) (a' := ?_) #[true, false, false, false, false, false, false, false, false, false, false] rfl rfl (any_of HT_.out (by kernel_rfl)) (fun _ _ _ h => h) (Or.inl ⟨by rfl, ?_⟩) ?_ ?_
    rotate_left
    · intro w'
      go_simp
      with_reducible rfl
    rotate_left
    · simp only [Act.put, List.setIfInBounds_toArray, List.set_cons_zero, List.set_cons_succ, i64_w, i32_w]
      rfl
    refine pure_ (i := 2) (N := some 26) (v := ?_) (a' := ?_) #[true, false, true, false, false, false, false, false, false, false, false] rfl rfl (any_of HT_.out (by kernel_rfl)) (fun _ _ _ h => h) (Or.inl ⟨by rfl, ?_⟩) ?_ ?_
    rotate_left
    · intro w'
      go_simp
      with_reducible rfl
    rotate_left
    · simp only [Act.put, List.setIfInBounds_toArray, List.set_cons_zero, List.set_cons_succ, i64_w, i32_w]
      rfl
    refine inv_at [1, 3, 4, 5, 6, 7, 8, 9, 10] (fun a0_ b a w' => a = putSel a0_ b [(1, 25, .slice (some ⟨gU, 0, none⟩) x.f3.length cU), (3, 27, .slice (some ⟨gU, 0, none⟩) x.f3.length cU), (4, 28, .pointer (some ⟨gU, 0, none⟩)), (5, 29, .pointer (some ⟨gU, 1, none⟩)), (6, 30, .string x0.f1), (7, 31, .string (x0.f1 ++ (⟨#[63]⟩ : ByteArray))), (8, 32, .pointer (some ⟨gU, 0, none⟩)), (9, 33, .pointer (some ⟨gU, 1, none⟩))] ∧ (((b 10 = false → w' = w13) ∧ (b 10 = true → w' = w13.setCell ⟨gU, 1, none⟩ (.string (x0.f1 ++ (⟨#[63]⟩ : ByteArray))))))) HT_.out HW_.out (by kernel_rfl) (by kernel_rfl) ?_ ?_ ?_
    · exact ⟨by simp only [putSel, Bool.false_eq_true, if_false], ⟨fun _ => rfl, fun h_ => absurd h_ (by decide)⟩⟩
    · skip
      clear E
      refine steps_cons ?_ ?_
      · rintro b a w' ⟨ha, Q_E⟩ hb_ hon hoff
        refine ⟨_, rfl, fun K hK => ?_⟩
        have e24 : a.tmps[24]? = some (.pointer (some ⟨g5, 3, none⟩)) := by rw [ha]; exact (putSel_off rfl).trans rfl
        replace ha := Aside0.mk ha
        have E := Aside0.mk Q_E
        have hw_ := E.out.1 (hoff 10 (by kernel_rfl))
        have hc_ := hcu3
        rw [← hw_] at hc_
        refine value_ (w1 := w') (v := .slice (some ⟨gU, 0, none⟩) x.f3.length cU) (by rfl) rfl ?_ ?_
        · go_simp
          (try simp only [i64_w])
          try rfl
        refine hK.out _ _ ⟨(by rw [ha.out]; exact putSel_upk 0 hb_ rfl rfl rfl), Q_E⟩
      refine steps_cons ?_ ?_
      · rintro b a w' ⟨ha, Q_E⟩ hb_ hon hoff
        refine ⟨_, rfl, fun K hK => ?_⟩
        have e26 : a.tmps[26]? = some (.pointer (some ⟨g5, 3, none⟩)) := by rw [ha]; exact (putSel_off rfl).trans rfl
        replace ha := Aside0.mk ha
        have E := Aside0.mk Q_E
        have hw_ := E.out.1 (hoff 10 (by kernel_rfl))
        have hc_ := hcu3
        rw [← hw_] at hc_
        refine value_ (w1 := w') (v := .slice (some ⟨gU, 0, none⟩) x.f3.length cU) (by rfl) rfl ?_ ?_
        · go_simp
          (try simp only [i64_w])
          try rfl
        refine hK.out _ _ ⟨(by rw [ha.out]; exact putSel_upk 1 hb_ rfl rfl rfl), Q_E⟩
      refine steps_cons ?_ ?_
      · rintro b a w' ⟨ha, Q_E⟩ hb_ hon hoff
        refine ⟨_, rfl, fun K hK => ?_⟩
        have e27 : a.tmps[27]? = some (.slice (some ⟨gU, 0, none⟩) x.f3.length cU) := by rw [ha]; exact putSel_on (e := (3, 27, .slice (some ⟨gU, 0, none⟩) x.f3.length cU)) 1 rfl rfl (hon 3 (by kernel_rfl)) rfl
        replace ha := Aside0.mk ha
        have E := Aside0.mk Q_E
        refine value_ (w1 := w') (v := .pointer (some ⟨gU, 0, none⟩)) (by rfl) rfl ?_ ?_
        · go_simp
          (try simp only [i64_w])
          try rfl
        refine hK.out _ _ ⟨(by rw [ha.out]; exact putSel_upk 2 hb_ rfl rfl rfl), Q_E⟩
      refine steps_cons ?_ ?_
      · rintro b a w' ⟨ha, Q_E⟩ hb_ hon hoff
        refine ⟨_, rfl, fun K hK => ?_⟩
        have e28 : a.tmps[28]? = some (.pointer (some ⟨gU, 0, none⟩)) := by rw [ha]; exact putSel_on (e := (4, 28, .pointer (some ⟨gU, 0, none⟩))) 2 rfl rfl (hon 4 (by kernel_rfl)) rfl
        replace ha := Aside0.mk ha
        have E := Aside0.mk Q_E
        refine value_ (w1 := w') (v := .pointer (some ⟨gU, 1, none⟩)) (by rfl) rfl ?_ ?_
        · go_simp
          (try simp only [i64_w])
          try rfl
        refine hK.out _ _ ⟨(by rw [ha.out]; exact putSel_upk 3 hb_ rfl rfl rfl), Q_E⟩
      refine steps_cons ?_ ?_
      · rintro b a w' ⟨ha, Q_E⟩ hb_ hon hoff
        refine ⟨_, rfl, fun K hK => ?_⟩
        have e29 : a.tmps[29]? = some (.pointer (some ⟨gU, 1, none⟩)) := by rw [ha]; exact putSel_on (e := (5, 29, .pointer (some ⟨gU, 1, none⟩))) 3 rfl rfl (hon 5 (by kernel_rfl)) rfl
        replace ha := Aside0.mk ha
        have E := Aside0.mk Q_E
        have hw_ := E.out.1 (hoff 10 (by kernel_rfl))
        have hc_ := hcu1
        rw [← hw_] at hc_
        refine value_ (w1 := w') (v := .string x0.f1) (by rfl) rfl ?_ ?_
        · go_simp
          (try simp only [i64_w])
          try rfl
        refine hK.out _ _ ⟨(by rw [ha.out]; exact putSel_upk 4 hb_ rfl rfl rfl), Q_E⟩
      refine steps_cons ?_ ?_
      · rintro b a w' ⟨ha, Q_E⟩ hb_ hon hoff
        refine ⟨_, rfl, fun K hK => ?_⟩
        have e30 : a.tmps[30]? = some (.string x0.f1) := by rw [ha]; exact putSel_on (e := (6, 30, .string x0.f1)) 4 rfl rfl (hon 6 (by kernel_rfl)) rfl
        replace ha := Aside0.mk ha
        have E := Aside0.mk Q_E
        refine value_ (w1 := w') (v := .string (x0.f1 ++ (⟨#[63]⟩ : ByteArray))) (by rfl) rfl ?_ ?_
        · go_simp
          (try simp only [i64_w])
          try rfl
        refine hK.out _ _ ⟨(by rw [ha.out]; exact putSel_upk 5 hb_ rfl rfl rfl), Q_E⟩
      refine steps_cons ?_ ?_
      · rintro b a w' ⟨ha, Q_E⟩ hb_ hon hoff
        refine ⟨_, rfl, fun K hK => ?_⟩
        have e25 : a.tmps[25]? = some (.slice (some ⟨gU, 0, none⟩) x.f3.length cU) := by rw [ha]; exact putSel_on (e := (1, 25, .slice (some ⟨gU, 0, none⟩) x.f3.length cU)) 0 rfl rfl (hon 1 (by kernel_rfl)) rfl
        replace ha := Aside0.mk ha
        have E := Aside0.mk Q_E
        refine value_ (w1 := w') (v := .pointer (some ⟨gU, 0, none⟩)) (by rfl) rfl ?_ ?_
        · go_simp
          (try simp only [i64_w])
          try rfl
        refine hK.out _ _ ⟨(by rw [ha.out]; exact putSel_upk 6 hb_ rfl rfl rfl), Q_E⟩
      refine steps_cons ?_ ?_
      · rintro b a w' ⟨ha, Q_E⟩ hb_ hon hoff
        refine ⟨_, rfl, fun K hK => ?_⟩
        have e32 : a.tmps[32]? = some (.pointer (some ⟨gU, 0, none⟩)) := by rw [ha]; exact putSel_on (e := (8, 32, .pointer (some ⟨gU, 0, none⟩))) 6 rfl rfl (hon 8 (by kernel_rfl)) rfl
        replace ha := Aside0.mk ha
        have E := Aside0.mk Q_E
        refine value_ (w1 := w') (v := .pointer (some ⟨gU, 1, none⟩)) (by rfl) rfl ?_ ?_
        · go_simp
          (try simp only [i64_w])
          try rfl
        refine hK.out _ _ ⟨(by rw [ha.out]; exact putSel_upk 7 hb_ rfl rfl rfl), Q_E⟩
      refine steps_cons ?_ ?_
      · rintro b a w' ⟨ha, Q_E⟩ hb_ hon hoff
        refine ⟨_, rfl, fun K hK => ?_⟩
        have e33 : a.tmps[33]? = some (.pointer (some ⟨gU, 1, none⟩)) := by rw [ha]; exact putSel_on (e := (9, 33, .pointer (some ⟨gU, 1, none⟩))) 7 rfl rfl (hon 9 (by kernel_rfl)) rfl
        have e31 : a.tmps[31]? = some (.string (x0.f1 ++ (⟨#[63]⟩ : ByteArray))) := by rw [ha]; exact putSel_on (e := (7, 31, .string (x0.f1 ++ (⟨#[63]⟩ : ByteArray)))) 5 rfl rfl (hon 7 (by kernel_rfl)) rfl
        replace ha := Aside0.mk ha
        have E := Aside0.mk Q_E
        have hw_ := E.out.1 hb_
        have hc_ := hcu1
        have hf_ := hfu1
        rw [← hw_] at hc_ hf_
        refine skip_ (w1 := w'.setCell ⟨gU, 1, none⟩ (.string (x0.f1 ++ (⟨#[63]⟩ : ByteArray)))) (by rfl) rfl ?_ ?_
        · go_simp
          try rfl
        have hx_ : w'.setCell ⟨gU, 1, none⟩ (.string (x0.f1 ++ (⟨#[63]⟩ : ByteArray))) = w13.setCell ⟨gU, 1, none⟩ (.string (x0.f1 ++ (⟨#[63]⟩ : ByteArray))) := by rw [hw_]
        refine hK.out _ _ ⟨(by rw [ha.out]; exact putSel_none (v := undef) rfl), ⟨fun h_ => absurd ((up_self b 10).symm.trans h_) (by decide), fun _ => hx_⟩⟩
      exact steps_nil
    · rintro b a w' hall ⟨ha, Q_E⟩
      clear E
      have hb1_ := hall 1 (by kernel_rfl)
      have hb3_ := hall 3 (by kernel_rfl)
      have hb4_ := hall 4 (by kernel_rfl)
      have hb5_ := hall 5 (by kernel_rfl)
      have hb6_ := hall 6 (by kernel_rfl)
      have hb7_ := hall 7 (by kernel_rfl)
      have hb8_ := hall 8 (by kernel_rfl)
      have hb9_ := hall 9 (by kernel_rfl)
      have hb10_ := hall 10 (by kernel_rfl)
      subst ha
      simp only [putSel, hb1_, hb3_, hb4_, hb5_, hb6_, hb7_, hb8_, hb9_, hb10_, if_true, Act.put, List.setIfInBounds_toArray, List.set_cons_zero, List.set_cons_succ]
      have E := Aside0.mk Q_E
      clear Q_E
      have hw14 := E.out.2 hb10_
      clear hall hb1_ hb3_ hb4_ hb5_ hb6_ hb7_ hb8_ hb9_ hb10_
      clear E hcu3 hcu1 hfu1
      replace S := S.of (S.st.set (i := 1) rfl 1 (.string (x0.f1 ++ (⟨#[63]⟩ : ByteArray))))
      rw [← hw14] at S
      clear hw14
      obtain ⟨gK, cK, curK, eK, hgK, hsK, _⟩ := first_own (S.own 5 rfl).2 hkn.out
      have hgk5 := hK5.out gK (by rw [eK]; rfl)
      have hZK := (S.own 5 rfl).1 gK (by rw [eK]; rfl)
      have hgn_ := take4 (S.bk 4 rfl).2 htk.out
      rw [eK] at hgn_
      have gN0 := hgn_.1
      have gN3 := hgn_.2.2
      clear hgn_
      obtain ⟨kv, hkv⟩ : ∃ kv, curK[0]? = some kv := ⟨_, Array.getElem?_eq_getElem (by omega)⟩
      have gK0 : w'.cell? ⟨gK, 0, none⟩ = some kv := (blk_cell hgK 0).trans hkv
      have gKf : w'.frozen? ⟨gK, 0, none⟩ = false := blk_frozen hgK 0
      replace hgk5 := Aside0.mk hgk5
      replace hZK := Aside0.mk hZK
      obtain ⟨⟨g5_0, g5_1, g5_2, g5_3⟩, g5_4, g5_5, g5_6, g5_7⟩ := box4 (S.at_blk 0 rfl); obtain ⟨⟨g4_0, g4_1, g4_2, g4_3⟩, g4_4, g4_5, g4_6, g4_7⟩ := box4 (S.at_blk 2 rfl); obtain ⟨⟨g3_0, g3_1, g3_2, g3_3⟩, g3_4, g3_5, g3_6, g3_7⟩ := box4 (S.at_blk 3 rfl); obtain ⟨⟨g1_0, g1_1, g1_2, g1_3⟩, g1_4, g1_5, g1_6, g1_7⟩ := box4 (S.at_blk 4 rfl)
      clear hgK hkv
      have hk7 : (0 < x.f3.length) = True := hk0
      go_wp2_with (first | ((with_reducible refine gate_store (t := 3) (p := 47) (v := .const (.int .i64 (-7))) rfl ?_); refine store_event ?hg (t := 3) (p := 47) (v := .const (.int .i64 (-7))) ?ho ?hN (w1 := ?wn_w15) ?hr ?_; (case hg => rfl); (case ho => rfl); (case hN => rfl); (case hr => first | (go_simp; done) | (go_simp; rfl)); intro w15 hw_; replace S := S.wild (F' := [rdV k24 A3 c3 x.f3] ++ [rdV k24 A0 c0 x.f3]) (Z' := fun k => k < w.heap.size ∨ w2.heap.size ≤ k ∧ k < w3.heap.size) (fun k h_ => .inl h_) (fun k h_ => .inl h_) (S.elder 6 rfl S5.out) (p := ⟨gK, 0, none⟩) hZK.out (fun h_ => absurd (S5.out.st.zlt _ h_) (Nat.not_lt.2 hgk5.out)) (.int .i64 (-7)); rw [← hw_] at S; clear hw_ gK0 gKf gN0 gN3; clear g5_0 g5_1 g5_2 g5_3 g5_4 g5_5 g5_6 g5_7; clear g4_0 g4_1 g4_2 g4_3 g4_4 g4_5 g4_6 g4_7; clear g3_0 g3_1 g3_2 g3_3 g3_4 g3_5 g3_6 g3_7; clear g1_0 g1_1 g1_2 g1_3 g1_4 g1_5 g1_6 g1_7; obtain ⟨⟨g5_0, g5_1, g5_2, g5_3⟩, g5_4, g5_5, g5_6, g5_7⟩ := box4 (S.at_blk 0 rfl); obtain ⟨⟨g4_0, g4_1, g4_2, g4_3⟩, g4_4, g4_5, g4_6, g4_7⟩ := box4 (S.at_blk 2 rfl); obtain ⟨⟨g3_0, g3_1, g3_2, g3_3⟩, g3_4, g3_5, g3_6, g3_7⟩ := box4 (S.at_blk 3 rfl); obtain ⟨⟨g1_0, g1_1, g1_2, g1_3⟩, g1_4, g1_5, g1_6, g1_7⟩ := box4 (S.at_blk 4 rfl)) | ((with_reducible refine gate_callee (f := 9) rfl ?_); (try (refine gate_guard (by rfl) ?_; dsimp only)); refine goesL_ (some 48) rfl rfl Tryd.func9 (by kernel_rfl) rfl #[] rfl (by (try simp only [List.map_toArray, List.map_cons, List.map_nil]); first | done | rfl) ?_; refine (scarflaw10_known.calls 20 true _ (htabB.out _ S.below) known_at rfl).mono ?_; rintro e w16 ⟨rfl, hb⟩; refine ⟨_, rfl, ?_⟩; replace S := S.keep hb; clear hb; clear g5_0 g5_1 g5_2 g5_3 g5_4 g5_5 g5_6 g5_7; clear g4_0 g4_1 g4_2 g4_3 g4_4 g4_5 g4_6 g4_7; clear g3_0 g3_1 g3_2 g3_3 g3_4 g3_5 g3_6 g3_7; clear g1_0 g1_1 g1_2 g1_3 g1_4 g1_5 g1_6 g1_7; obtain ⟨⟨g5_0, g5_1, g5_2, g5_3⟩, g5_4, g5_5, g5_6, g5_7⟩ := box4 (S.at_blk 0 rfl); obtain ⟨⟨g4_0, g4_1, g4_2, g4_3⟩, g4_4, g4_5, g4_6, g4_7⟩ := box4 (S.at_blk 2 rfl); obtain ⟨⟨g3_0, g3_1, g3_2, g3_3⟩, g3_4, g3_5, g3_6, g3_7⟩ := box4 (S.at_blk 3 rfl); obtain ⟨⟨g1_0, g1_1, g1_2, g1_3⟩, g1_4, g1_5, g1_6, g1_7⟩ := box4 (S.at_blk 4 rfl)) | ((with_reducible refine gate_callee (f := 13) rfl ?_); (try (refine gate_guard (by rfl) ?_; dsimp only)); refine goesL_ (some 52) rfl rfl Tryd.func13 (by kernel_rfl) rfl #[.agg #[.int .i64 x.f0, .string x.f1, .string x.f2, .slice A0 x.f3.length c0], .agg #[.int .i64 x.f0, .string x.f1, .string x.f2, .slice A3 x.f3.length c3]] rfl (by (try simp only [List.map_toArray, List.map_cons, List.map_nil]); first | done | rfl) ?_; refine (scarfref05_Same.calls ks x.f0 x.f1 x.f2 A0 c0 x.f3 x.f0 x.f1 x.f2 A3 c3 x.f3 true _ (S.rdC 1 rfl) (S.rdL 1 rfl) (S.rdC 0 rfl) (S.rdL 0 rfl) hks.out).mono ?_; rintro e w17 ⟨rfl, hb⟩; refine ⟨_, rfl, ?_⟩; replace S := S.keep hb; clear hb) | ((with_reducible refine gate_callee (f := 15) rfl ?_); (try (refine gate_guard (by rfl) ?_; dsimp only)); refine goesL_ (some 55) rfl rfl Tryd.func15 (by kernel_rfl) rfl #[.slice none 0 0] rfl (by (try simp only [List.map_toArray, List.map_cons, List.map_nil]); first | done | rfl) ?_; refine (shape_Marks.calls none 0 ([] : List S24) [] _ (htabB.out _ S.below) (Kd.C_nil _ _) (Nat.le_refl _) marks_nil).mono ?_; rintro e w18 ⟨vm, rfl, hm_, hb⟩; refine ⟨_, rfl, ?_⟩; obtain ⟨AM, cM, rfl, _⟩ := rd_S hm_; replace S := S.keep hb; clear hb hm_))
      refine bodyPost_ret (results_tmp (t := 2) rfl _ _ _) rfl ?_
      exact ⟨rfl, S.below⟩
end Go.Proofs.YtfmlpkeaiohknaaDoor.Q
