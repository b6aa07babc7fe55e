-- Written by a program of this session (wip/gen_rof.py) for this claim; Lean checks it.
import Derived.Test.YtfmlpkeaiohknaaDoorMSt
import Derived.Test.YtfmlpkeaiohknaaDoorMRofP
import Derived.Test.YtfmlpkeaiohknaaDoorMOut
import Derived.Test.YtfmlpkeaiohknaaDoorQx1
import Derived.Test.YtfmlpkeaiohknaaDoorMMarks
set_option linter.unusedVariables false
set_option linter.unusedSimpArgs false
namespace Go.Proofs.YtfmlpkeaiohknaaDoor.Q
open Go.RowKit Go.Proofs.YtfmlpkeaiohknaaDoorW.PrintWords Go.Proofs.YtfmlpkeaiohknaaDoorW.PrintLast Go.Proofs.YtfmlpkeaiohknaaDoorW.PrintMore Go.Proofs.YtfmlpkeaiohknaaDoorW.SL
attribute [local go_sem] max2_int min2_int max_two min_two max_three min_three max_four min_four
def rof.T5 : Bool × List (List Nat × List Nat) := (true, [([], []), ([0], [0]), ([], []), ([2], [2]), ([], []), ([3, 4], [3, 4]), ([5], [5]), ([], []), ([6, 7], [6, 7]), ([8], [8]), ([1, 9, 8], [1, 9]), ([0, 1, 2, 3, 4, 5, 6, 7, 8, 9, 10], []), ([11, 10, 10, 0, 1, 2, 3, 4, 5, 6, 7, 8, 9, 10], [10, 11])])
def rof.B5 : List Nat := [0, 1, 0, 4, 0, 28, 60, 0, 252, 508, 1023, 2047, 4095]
theorem rof.tab5 : rtab .any (opsOf Tryd.f11 5) = rof.T5 := by kernel_rfl
theorem rof.bits5 : waitsOk rof.T5.2 rof.B5 = true := by kernel_rfl
def rof.T16 : Bool × List (List Nat × List Nat) := (true, [([], []), ([0], [0]), ([], []), ([], []), ([3], [3]), ([], []), ([4, 5], [4, 5]), ([6], [6]), ([], []), ([8], [8]), ([7, 9], [7, 9]), ([1, 2, 0, 1, 2, 3, 4, 5, 6, 7, 8, 9, 10], [1, 2]), ([11, 10, 10, 0, 1, 2, 3, 4, 5, 6, 7, 8, 9, 10], [10, 11])])
def rof.B16 : List Nat := [0, 1, 0, 0, 8, 0, 56, 120, 0, 256, 1016, 2047, 4095]
theorem rof.tab16 : rtab .any (opsOf Tryd.f11 16) = rof.T16 := by kernel_rfl
theorem rof.bits16 : waitsOk rof.T16.2 rof.B16 = true := by kernel_rfl
theorem info28 : (Tryd.prog.info? 28).map (fun i => (i.zero, i.size, i.bytes)) = some (some (.slice none 0 0), 1, 24) := by kernel_rfl
/-- The reference's plan while it is made: its box, its three rows, the rows of Kids. -/
def PL (g n : Nat) (vn p z k : Value) (P Zs : List Int) (us : List Value) (K : List (List Int)) (X : List Asr) : List Asr :=
  blk g 32 #[vn, p, z, k] :: row p 3 1 n (ints P) :: row z 3 1 n (ints Zs) :: row k 27 1 n us :: grp (inn us K) :: X
theorem PL.start {w0 w : World} {Z : Nat → Prop} {g : Nat} {vn : Value} {X : List Asr} (h : St w0 Z (blk g 32 #[vn, .slice none 0 0, .slice none 0 0, .slice none 0 0] :: X) w) :
    St w0 Z (PL g 0 vn (.slice none 0 0) (.slice none 0 0) (.slice none 0 0) [] [] [] [] X) w := by
  have he : St w0 Z (grp [] :: blk g 32 #[vn, .slice none 0 0, .slice none 0 0, .slice none 0 0] :: X) w := by
    obtain ⟨f, hf, hd⟩ := h.hs
    exact ⟨h.below, h.zlt, f, ⟨fun _ => False, f, fun k => by simp, fun k h1 => h1.elim, fun k h1 => h1, hf⟩, hd⟩
  have h4 := ((he.row_nil 27 1).row_nil 3 1).row_nil 3 1
  exact h4.perm (List.perm_middle (l₁ := [row (.slice none 0 0) 3 1 0 [], row (.slice none 0 0) 3 1 0 [], row (.slice none 0 0) 27 1 0 [], grp []]))
structure PlanR (w' : World) (Z' : Nat → Prop) (s : PS) (An : Option Addr) (cn : Nat) (Ap : Option Addr) (cp : Nat) (Az : Option Addr) (cz : Nat) (Ak : Option Addr) (ck : Nat) : Prop where
  f : ∀ a ∈ [rdV k24 An cn s.N, rdV (Kd.int .i64) Ap cp s.P, rdV (Kd.int .i64) Az cz s.Z, rdV (Kd.slice 3 (Kd.int .i64)) Ak ck s.K], a.P w' Z'
theorem size_ev (y : S24) (m : Int) (h1 : (nsz y : Int) ≤ m) (h2 : m ≤ 1000000) : ∃ k, scarfref05_Size.f k y.f0 y.f1 y.f2 y.f3 m = some (nsz y : Int) := by
  have h := nodes_ev y m (by have := nsz_pos y; omega) h2
  rw [List.take_of_length_le (by rw [pre_len]; omega)] at h
  obtain ⟨k, hk⟩ := h.has
  refine ⟨k, ?_⟩
  unfold scarfref05_Size.f
  rw [hk, Option.bind_some, pre_len]
theorem PL.out {w0 w : World} {Z : Nat → Prop} {g n : Nat} {vn p z k : Value} {P Zs : List Int} {us : List Value} {K : List (List Int)} {X : List Asr} (h : St w0 Z (PL g n vn p z k P Zs us K X) w) (hP : P.length = n) (hZ : Zs.length = n) (hu : us.length = n) (hK : K.length = n) :
    Kd.R (Kd.int .i64) 3 w w0.heap.size (fun _ => True) p P ∧ Kd.R (Kd.int .i64) 3 w w0.heap.size (fun _ => True) z Zs ∧ Kd.S (Kd.slice 3 (Kd.int .i64)) 27 w w0.heap.size (fun _ => True) k K := by
  have hp : (PL g n vn p z k P Zs us K X)[1]? = some (row p 3 1 n (ints P)) := rfl
  have hz : (PL g n vn p z k P Zs us K X)[2]? = some (row z 3 1 n (ints Zs)) := rfl
  have hk : (PL g n vn p z k P Zs us K X)[3]? = some (row k 27 1 n us) := rfl
  have hg : (PL g n vn p z k P Zs us K X)[4]? = some (grp (inn us K)) := rfl
  have op := h.row_out hp; have oz := h.row_out hz; have ok_ := h.row_out hk
  refine ⟨Kd.R_of_own (enc := Value.int .i64) (by rw [hP]; exact op.1) (fun k hk => trivial), Kd.R_of_own (enc := Value.int .i64) (by rw [hZ]; exact oz.1) (fun k hk => trivial), ?_⟩
  obtain ⟨f, hr⟩ := inn_reps (ok := fun q => True ∧ some q ≠ k.ownBlock) h hg (hu.trans hK.symm) (fun j u hj q hq => by
    have hl : j < K.length := by rw [hK, ← hu]; exact (List.getElem?_eq_some_iff.1 hj).1
    exact ⟨trivial, h.row_sub_apart hk hg (inn_at hj (List.getElem?_eq_getElem hl)) (by decide) q hq⟩)
  exact ⟨f, fun q hq => trivial, us, by rw [List.length_zipIdx, hK]; exact ok_.1, hr⟩
def r5L (g n : Nat) (vn p z k : Value) (P Zs : List Int) (us : List Value) (K : List (List Int)) (sz : Int) (X : List Asr) (b : Nat → Bool) (tt zz : Value) : List Asr :=
 [blk g 32 #[vn, p, cond (b 12) zz z, k], row p 3 1 n (ints P), cond (b 10) (row zz 3 1 (n + 1) (ints Zs ++ [.int .i64 sz])) (row z 3 1 n (ints Zs)), row k 27 1 n us, grp (inn us K), cond (b 9) (row tt 3 1 1 [.int .i64 sz]) emp] ++ X
def r16L (g n : Nat) (vn p z k : Value) (P Zs : List Int) (us : List Value) (K : List (List Int)) (i : Nat) (kl : List Int) (kk : Int) (X : List Asr) (b : Nat → Bool) (tt uu : Value) : List Asr :=
 [blk g 32 #[vn, p, z, k], row p 3 1 n (ints P), row z 3 1 n (ints Zs), row k 27 1 n (cond (b 12) (us.set i uu) us), grp (cond (b 10) ((inn us K).set i (row uu 3 1 (kl.length + 1) (ints kl ++ [.int .i64 kk]))) (inn us K)), cond (b 9) (row tt 3 1 1 [.int .i64 kk]) emp] ++ X
set_option maxHeartbeats 16000000 in
set_option maxRecDepth 100000 in
theorem rof_calls (x : S24) (m : Int) (hm : (nsz x : Int) ≤ m) (hm2 : m ≤ 1000000) (A0 : Option Addr) (c0 : Nat) (w : World) (Z : Nat → Prop) (hZ : ∀ k, Z k → k < w.heap.size) (hc0 : x.f3.length ≤ c0) (hF : Kd.F k24 w Z A0 x.f3.length x.f3) :
  Calls Tryd.prog 11 #[.agg #[.int .i64 x.f0, .string x.f1, .string x.f2, .slice A0 x.f3.length c0], .int .i64 m] w fun e w' => ∃ (An : Option Addr) (cn : Nat) (Ap : Option Addr) (cp : Nat) (Az : Option Addr) (cz : Nat) (Ak : Option Addr) (ck : Nat), e = .returned (.agg #[.slice An (ofP x).N.length cn, .slice Ap (ofP x).P.length cp, .slice Az (ofP x).Z.length cz, .slice Ak (ofP x).K.length ck]) ∧ PlanR w' (fun k => Z k ∨ (w.heap.size ≤ k ∧ k < w'.heap.size)) (ofP x) An cn Ap cp Az cz Ak ck ∧ Below w.heap.size w w' := by
 have hnp := nsz_pos x
 obtain ⟨kn, hkn⟩ := (nodes_ev x m (by omega) hm2).has
 rw [List.take_of_length_le (by rw [pre_len]; omega), ← ofP_N] at hkn
 replace hkn := Aside0.mk hkn
 obtain ⟨hw1, _, hlay⟩ := addN_lay x (-1) ⟨[], [], [], []⟩ ⟨rfl, rfl, rfl⟩
 have hNl : (ofP x).N.length = nsz x := by rw [ofP_N, pre_len]
 have hPl : (ofP x).P.length = nsz x := hw1.p.trans hNl
 have hZl : (ofP x).Z.length = nsz x := hw1.z.trans hNl
 have hKl : (ofP x).K.length = nsz x := hw1.k.trans hNl
 have hlay : Lay (ofP x) x 0 (-1) := hlay
 clear hw1
 have S : Stt w (fun k => k < w.heap.size) [] [rdO k24 Z A0 c0 x.f3] w := Stt.start w (by intro a ha; rw [List.mem_singleton] at ha; subst ha; exact ⟨hc0, hF, hZ⟩)
 replace hZ := Aside0.mk hZ
 clear hF hc0
 have hu24 := Tryd.underlying24
 have hu32 := Tryd.underlying32
 obtain ⟨n, hn⟩ : ∃ n, n = nsz x := ⟨_, rfl⟩
 rw [← hn] at hNl hPl hZl hKl hnp hm
 obtain ⟨pN, hpN⟩ : ∃ q, q = (ofP x).N := ⟨_, rfl⟩
 rw [← hpN] at hNl hkn
 replace hNl := Aside0.mk hNl
 replace hpN := Aside0.mk hpN
 replace hn := Aside0.mk hn
 replace hPl := Aside0.mk hPl
 replace hZl := Aside0.mk hZl
 replace hKl := Aside0.mk hKl
 go_enter Tryd.func11, Tryd.ntmps11
 go_wp2_with (first | ((with_reducible refine gate_dst (N := 2) rfl ?_); refine box_event ?hg (N := 2) ?hd (cs := #[.int .i64 x.f0, .string x.f1, .string x.f2, .slice A0 x.f3.length c0]) (t := 24) ?hr ?_; (case hd => rfl); (case hg => rfl); (case hr => first | (go_simp; done) | (go_simp; rfl)); intro g2 hg_ w1 hbox hb; replace S := S.box hg_ hbox hb; clear hbox hb hg_; obtain ⟨⟨g2_0, g2_1, g2_2, g2_3⟩, g2_4, g2_5, g2_6, g2_7⟩ := box4 (S.at_blk 0 rfl)) | ((with_reducible refine gate_dst (N := 4) rfl ?_); refine box_event ?hg (N := 4) ?hd (cs := #[.slice none 0 0, .slice none 0 0, .slice none 0 0, .slice none 0 0]) (t := 32) ?hr ?_; (case hd => rfl); (case hg => rfl); (case hr => first | (go_simp; done) | (go_simp; rfl)); intro g4 hg_ w2 hbox hb; replace S := S.box hg_ hbox hb; clear hbox hb hg_; clear g2_0 g2_1 g2_2 g2_3 g2_4 g2_5 g2_6 g2_7; obtain ⟨⟨g4_0, g4_1, g4_2, g4_3⟩, g4_4, g4_5, g4_6, g4_7⟩ := box4 (S.at_blk 0 rfl); obtain ⟨⟨g2_0, g2_1, g2_2, g2_3⟩, g2_4, g2_5, g2_6, g2_7⟩ := box4 (S.at_blk 1 rfl)) | ((with_reducible refine gate_callee (f := 17) rfl ?_); (try (refine gate_guard (by rfl) ?_; dsimp only)); refine goesL_ (some 12) rfl rfl Tryd.func17 (by kernel_rfl) rfl #[.agg #[.int .i64 x.f0, .string x.f1, .string x.f2, .slice A0 x.f3.length c0], .int .i64 m] rfl (by (try simp only [List.map_toArray, List.map_cons, List.map_nil]); first | done | rfl) ?_; refine (scarfref05_Nodes.calls kn x.f0 x.f1 x.f2 Z A0 c0 x.f3 m _ _ (Kd.V_mk (S.rdo 0 rfl).1 (S.rdo 0 rfl).2.1) hkn.out).mono ?_; rintro e w3 ⟨vn, rfl, hn_, hb⟩; refine ⟨_, rfl, ?_⟩; have hw2 := Aside0.mk S.below.size; obtain ⟨An, cn, rfl, hln_, hFn_⟩ := Kd.N_V (base' := 0) (Kd.N_bound hn_); replace S := S.callZ hb (F' := [rdO k24 (fun k => (Z k ∨ w2.heap.size ≤ k) ∧ k < w3.heap.size) An cn pN]) (by intro a ha; rw [List.mem_singleton] at ha; subst ha; exact ⟨hln_, hFn_, fun k hk => hk.1.elim (fun h_ => .inl (hZ.out k h_)) (fun h_ => .inr ⟨h_, hk.2⟩)⟩); clear hb hn_ hln_ hFn_; clear g4_0 g4_1 g4_2 g4_3 g4_4 g4_5 g4_6 g4_7; clear g2_0 g2_1 g2_2 g2_3 g2_4 g2_5 g2_6 g2_7; obtain ⟨⟨g4_0, g4_1, g4_2, g4_3⟩, g4_4, g4_5, g4_6, g4_7⟩ := box4 (S.at_blk 0 rfl); obtain ⟨⟨g2_0, g2_1, g2_2, g2_3⟩, g2_4, g2_5, g2_6, g2_7⟩ := box4 (S.at_blk 1 rfl)) | ((with_reducible refine gate_dst (N := 5) rfl ?_); refine box_event ?hg (N := 5) ?hd (cs := #[.slice none 0 0, .slice none 0 0, .slice none 0 0, .slice none 0 0]) (t := 32) ?hr ?_; (case hd => rfl); (case hg => rfl); (case hr => first | (go_simp; done) | (go_simp; rfl)); intro g5 hg_ w4 hbox hb; replace S := S.box hg_ hbox hb; clear hbox hb hg_; clear g4_0 g4_1 g4_2 g4_3 g4_4 g4_5 g4_6 g4_7; clear g2_0 g2_1 g2_2 g2_3 g2_4 g2_5 g2_6 g2_7; obtain ⟨⟨g5_0, g5_1, g5_2, g5_3⟩, g5_4, g5_5, g5_6, g5_7⟩ := box4 (S.at_blk 0 rfl); obtain ⟨⟨g4_0, g4_1, g4_2, g4_3⟩, g4_4, g4_5, g4_6, g4_7⟩ := box4 (S.at_blk 1 rfl); obtain ⟨⟨g2_0, g2_1, g2_2, g2_3⟩, g2_4, g2_5, g2_6, g2_7⟩ := box4 (S.at_blk 2 rfl)) | ((with_reducible refine gate_store (t := 32) (p := 5) (v := .tmp 13) rfl ?_); refine store_event ?hg (t := 32) (p := 5) (v := .tmp 13) ?ho ?hN (w1 := ?wq_1) ?hr ?_; (case hg => rfl); (case ho => rfl); (case hN => rfl); (case hr => first | (go_simp; done) | (go_simp; rfl)); intro w5 hw_; replace S := S.set4 (.slice An pN.length cn) (.slice none 0 0) (.slice none 0 0) (.slice none 0 0); rw [← hw_] at S; clear hw_; clear g5_0 g5_1 g5_2 g5_3 g5_4 g5_5 g5_6 g5_7; clear g4_0 g4_1 g4_2 g4_3 g4_4 g4_5 g4_6 g4_7; clear g2_0 g2_1 g2_2 g2_3 g2_4 g2_5 g2_6 g2_7; obtain ⟨⟨g5_0, g5_1, g5_2, g5_3⟩, g5_4, g5_5, g5_6, g5_7⟩ := box4 (S.at_blk 0 rfl); obtain ⟨⟨g4_0, g4_1, g4_2, g4_3⟩, g4_4, g4_5, g4_6, g4_7⟩ := box4 (S.at_blk 1 rfl); obtain ⟨⟨g2_0, g2_1, g2_2, g2_3⟩, g2_4, g2_5, g2_6, g2_7⟩ := box4 (S.at_blk 2 rfl)))
 replace S : Stt w (fun k => k < w.heap.size ∨ (w2.heap.size ≤ k ∧ k < w3.heap.size)) (PL g5 0 (.slice An pN.length cn) (.slice none 0 0) (.slice none 0 0) (.slice none 0 0) [] [] [] [] [blk g4 32 #[.slice none 0 0, .slice none 0 0, .slice none 0 0, .slice none 0 0], blk g2 24 #[.int .i64 x.f0, .string x.f1, .string x.f2, .slice A0 x.f3.length c0]]) [rdO k24 (fun k => (Z k ∨ w2.heap.size ≤ k) ∧ k < w3.heap.size) An cn pN, rdO k24 Z A0 c0 x.f3] w5 := S.with (PL.start S.st)
 clear g5_0 g5_1 g5_2 g5_3 g5_4 g5_5 g5_6 g5_7; clear g4_0 g4_1 g4_2 g4_3 g4_4 g4_5 g4_6 g4_7; clear g2_0 g2_1 g2_2 g2_3 g2_4 g2_5 g2_6 g2_7
 go_loopg [6] n (fun kq v6 w'' => ∃ (ii : Int) (i : Nat) (p z k : Value) (P Zs : List Int) (us : List Value) (KK : List (List Int)), v6 = .int .i64 ii ∧ Aside0 (ii = (i : Int)) ∧ i ≤ n ∧ kq = n - i ∧ Aside0 (P = List.replicate i (-1) ∧ Zs = (pN.take i).map (fun y => (nsz y : Int)) ∧ us = List.replicate i (.slice none 0 0) ∧ KK = List.replicate i []) ∧ Stt w (fun k => k < w.heap.size ∨ (w2.heap.size ≤ k ∧ k < w3.heap.size)) (PL g5 i (.slice An pN.length cn) p z k P Zs us KK [blk g4 32 #[.slice none 0 0, .slice none 0 0, .slice none 0 0, .slice none 0 0], blk g2 24 #[.int .i64 x.f0, .string x.f1, .string x.f2, .slice A0 x.f3.length c0]]) [rdO k24 (fun k => (Z k ∨ w2.heap.size ≤ k) ∧ k < w3.heap.size) An cn pN, rdO k24 Z A0 c0 x.f3] w'')
 case atStart => exact ⟨0, 0, _, _, _, [], [], [], [], rfl, ⟨rfl⟩, Nat.zero_le _, rfl, ⟨rfl, rfl, rfl, rfl⟩, S⟩
 case round =>
  clear S
  obtain ⟨ii, i, p, z, k, P, Zs, us, KK, rfl, hii, hi, hgk, hst, S⟩ := hrel
  obtain ⟨wb, rfl⟩ : ∃ q, q = wr := ⟨_, rfl⟩
  have hq := (box4 (S.at_blk 0 rfl)).1
  have hq0 := hq.1
  by_cases hin : ii < (pN.length : Int)
  · have hib := decide_eq_true hin
    have p0 : 0 ≤ ii := by have := hii.out; omega
    obtain ⟨ad, cs, eA, hcl, hFK, hcc, hok⟩ := Kd.F_get (S.rdo 0 rfl).2.1 z24 ii p0 hin
    subst eA
    have hzb := (S.rdo 0 rfl).2.2 _ (hok (by decide))
    obtain ⟨y, hy⟩ : ∃ y, y = pN.getD ii.toNat z24 := ⟨_, rfl⟩
    rw [← hy] at hFK
    have hyi : pN[i]? = some y := by rw [hy, hii.out]; have : i < pN.length := by have := hii.out; omega
                                     simp [List.getD_eq_getElem?_getD, List.getElem?_eq_getElem this]
    obtain ⟨A3, c3, rfl, hl3, hF3⟩ := k24_openF hFK
    have hx0 : wb.cell? (ad.add (ii.toNat * 4)) = some (.int .i64 y.f0) := hcc 0 _ rfl
    have hx1 : wb.cell? ⟨(ad.add (ii.toNat * 4)).block, (ad.add (ii.toNat * 4)).off + 1, none⟩ = some (.string y.f1) := by rw [← add_field _ _ 1 (by omega)]; exact hcc 1 _ rfl
    have hx2 : wb.cell? ⟨(ad.add (ii.toNat * 4)).block, (ad.add (ii.toNat * 4)).off + 2, none⟩ = some (.string y.f2) := by rw [← add_field _ _ 2 (by omega)]; exact hcc 2 _ rfl
    have hx3 : wb.cell? ⟨(ad.add (ii.toNat * 4)).block, (ad.add (ii.toNat * 4)).off + 3, none⟩ = some (.slice A3 y.f3.length c3) := by rw [← add_field _ _ 3 (by omega)]; exact hcc 3 _ rfl
    have hab : (ad.add (ii.toNat * 4)).block = ad.block := add_block _ _
    have hys : nsz y ≤ n := by rw [hn.out]; exact sub_szN x (hpN.out ▸ hyi)
    obtain ⟨ks, hks⟩ := size_ev y m (by omega) hm2
    obtain ⟨sz, hsz⟩ : ∃ sz : Int, sz = nsz y := ⟨_, rfl⟩
    rw [← hsz] at hks
    replace hks := Aside0.mk hks
    replace hsz := Aside0.mk hsz
    replace hab := Aside0.mk hab
    replace hyi := Aside0.mk hyi
    replace hys := Aside0.mk hys
    have hin' := hin
    replace p0 := eq_true p0
    replace hin := eq_true hin
    have hib2 := Aside0.mk hin'
    clear hin' hcc hcl hFK hy hq hok
    go_wp2
    obtain ⟨Az_, cz_, eZ⟩ := own_slice (S.rowAt 2 rfl)
    obtain ⟨Ap_, cp_, eP⟩ := own_slice (S.rowAt 1 rfl)
    obtain ⟨Ak_, ck_, eK⟩ := own_slice (S.rowAt 3 rfl)
    subst eZ eP eK
    have Sd := S.keep (below_drew1 (Below.refl wb.heap.size wb))
    have hx0d := ((below_drew1 (Below.refl wb.heap.size wb)).cell (World.block_lt_of_cell? _ _ hx0)).trans hx0
    have hx1d := ((below_drew1 (Below.refl wb.heap.size wb)).cell (World.block_lt_of_cell? _ _ hx1)).trans hx1
    have hx2d := ((below_drew1 (Below.refl wb.heap.size wb)).cell (World.block_lt_of_cell? _ _ hx2)).trans hx2
    have hx3d := ((below_drew1 (Below.refl wb.heap.size wb)).cell (World.block_lt_of_cell? _ _ hx3)).trans hx3
    have hF3d := Kd.F_drew hF3
    have hokZ : ∀ k, (fun k => (Z k ∨ w2.heap.size ≤ k) ∧ k < w3.heap.size) k → (fun k => k < w.heap.size ∨ (w2.heap.size ≤ k ∧ k < w3.heap.size)) k := (S.rdo 0 rfl).2.2
    have hi6 : i ≤ 1000000 := by omega
    clear hx0 hx1 hx2 hx3 hF3 S
    have E : (St w (fun k => k < w.heap.size ∨ (w2.heap.size ≤ k ∧ k < w3.heap.size)) (r5L g5 i (.slice (some ad) pN.length cn) (.slice Ap_ i cp_) (.slice Az_ i cz_) (.slice Ak_ i ck_) P Zs us KK sz [blk g4 32 #[.slice none 0 0, .slice none 0 0, .slice none 0 0, .slice none 0 0], blk g2 24 #[.int .i64 x.f0, .string x.f1, .string x.f2, .slice A0 x.f3.length c0]] (fun _ => false) (.bool false) (.bool false)) wb.drew ∧ Same w (fun k => k < w.heap.size ∨ (w2.heap.size ≤ k ∧ k < w3.heap.size)) wb.drew wb.drew) :=
      ⟨Sd.st.emp_new.perm (List.perm_middle (l₁ := [blk g5 32 #[.slice (some ad) pN.length cn, .slice Ap_ i cp_, .slice Az_ i cz_, .slice Ak_ i ck_], row (.slice Ap_ i cp_) 3 1 i (ints P), row (.slice Az_ i cz_) 3 1 i (ints Zs), row (.slice Ak_ i ck_) 27 1 i us, grp (inn us KK)])).symm, Same.refl _ _ _⟩
    refine start_ (n := 13) (S := fun w' => True) (ds := []) #[false, false, false, false, false, false, false, false, false, false, false, false, false] (by kernel_rfl) rfl rfl trivial (fun hHeld => ?_)
    refine with_tabW rof.tab5 rof.bits5 (fun HT_ HW_ => ?_)
    generalize wb.drew = w5d at E Sd hx0d hx1d hx2d hx3d hF3d hHeld ⊢
    refine pure_ (i := 0) (N := some 21) (v := ?_) (a' := ?_) #[true, false, false, false, false, false, false, false, false, false, false, false, false] rfl rfl (any_of HT_.out (by kernel_rfl)) (fun _ _ _ h => h) (Or.inl ⟨by rfl, ?_⟩) ?_ ?_
    rotate_left
    · intro w'
      go_simp
      with_reducible rfl
    rotate_left
    · simp only [Act.put, List.setIfInBounds_toArray, List.set_cons_zero, List.set_cons_succ, i64_w, i32_w]
      rfl
    refine pure_ (i := 2) (N := some 23) (v := ?_) (a' := ?_) #[true, false, true, false, false, false, false, false, false, false, false, false, false] rfl rfl (any_of HT_.out (by kernel_rfl)) (fun _ _ _ h => h) (Or.inl ⟨by rfl, ?_⟩) ?_ ?_
    rotate_left
    · intro w'
      go_simp
      with_reducible rfl
    rotate_left
    · simp only [Act.put, List.setIfInBounds_toArray, List.set_cons_zero, List.set_cons_succ, i64_w, i32_w]
      rfl
    refine pure_ (i := 4) (N := some 25) (v := ?_) (a' := ?_) #[true, false, true, false, true, false, false, false, false, false, false, false, false] rfl rfl (any_of HT_.out (by kernel_rfl)) (fun _ _ _ h => h) (Or.inl ⟨by rfl, ?_⟩) ?_ ?_
    rotate_left
    · intro w'
      go_simp
      with_reducible rfl
    rotate_left
    · simp only [Act.put, List.setIfInBounds_toArray, List.set_cons_zero, List.set_cons_succ, i64_w, i32_w]
      rfl
    refine pure_ (i := 7) (N := some 28) (v := ?_) (a' := ?_) #[true, false, true, false, true, false, false, true, false, false, false, false, false] rfl rfl (any_of HT_.out (by kernel_rfl)) (fun _ _ _ h => h) (Or.inl ⟨by rfl, ?_⟩) ?_ ?_
    rotate_left
    · intro w'
      go_simp
      with_reducible rfl
    rotate_left
    · simp only [Act.put, List.setIfInBounds_toArray, List.set_cons_zero, List.set_cons_succ, i64_w, i32_w]
      rfl
    refine inv_at [1, 3, 5, 6, 8, 9, 10, 11, 12] (fun a0_ b a w' => ∃ (tt : Value) (zz : Value), a = putSel a0_ b [(1, 22, .slice Az_ i cz_), (3, 24, .slice (some ad) pN.length cn), (5, 26, .pointer (some (ad.add (ii.toNat * 4)))), (6, 27, (.agg #[.int .i64 y.f0, .string y.f1, .string y.f2, .slice A3 y.f3.length c3] : Value)), (8, 29, .int .i64 sz), (9, 30, tt), (10, 31, zz), (11, 32, .pointer (some ⟨g5, 2, none⟩))] ∧ ((St w (fun k => k < w.heap.size ∨ (w2.heap.size ≤ k ∧ k < w3.heap.size)) (r5L g5 i (.slice (some ad) pN.length cn) (.slice Ap_ i cp_) (.slice Az_ i cz_) (.slice Ak_ i ck_) P Zs us KK sz [blk g4 32 #[.slice none 0 0, .slice none 0 0, .slice none 0 0, .slice none 0 0], blk g2 24 #[.int .i64 x.f0, .string x.f1, .string x.f2, .slice A0 x.f3.length c0]] b tt zz) w' ∧ Same w (fun k => k < w.heap.size ∨ (w2.heap.size ≤ k ∧ k < w3.heap.size)) w5d w'))) HT_.out HW_.out (by kernel_rfl) (by kernel_rfl) ?_ ?_ ?_
    · exact ⟨.bool false, .bool false, by simp only [putSel, Bool.false_eq_true, if_false], E⟩
    · skip
      clear E
      refine steps_cons ?_ ?_
      · rintro b a w' ⟨tt, zz, ha, Q_E⟩ hb_ hon hoff
        refine ⟨_, rfl, fun K hK => ?_⟩
        have e21 : a.tmps[21]? = some (.pointer (some ⟨g5, 2, none⟩)) := by rw [ha]; exact (putSel_off rfl).trans rfl
        replace ha := Aside0.mk ha
        have E := Aside0.mk Q_E
        have hc_ : w'.cell? ⟨g5, 2, none⟩ = some (.slice Az_ i cz_) := (blk_cell (E.out.1.at_blk (i := 0) rfl) 2).trans (by rw [(hoff 12 (by kernel_rfl))]; rfl)
        refine value_ (w1 := w') (v := .slice Az_ i cz_) (by rfl) rfl ?_ ?_
        · go_simp
          (try simp only [i64_w])
          try rfl
        refine hK.out _ _ ⟨tt, zz, (by rw [ha.out]; exact putSel_upk 0 hb_ rfl rfl rfl), Q_E⟩
      refine steps_cons ?_ ?_
      · rintro b a w' ⟨tt, zz, ha, Q_E⟩ hb_ hon hoff
        refine ⟨_, rfl, fun K hK => ?_⟩
        have e23 : a.tmps[23]? = some (.pointer (some ⟨g5, 0, none⟩)) := by rw [ha]; exact (putSel_off rfl).trans rfl
        replace ha := Aside0.mk ha
        have E := Aside0.mk Q_E
        have hc_ : w'.cell? ⟨g5, 0, none⟩ = some (.slice (some ad) pN.length cn) := (blk_cell (E.out.1.at_blk (i := 0) rfl) 0).trans rfl
        refine value_ (w1 := w') (v := .slice (some ad) pN.length cn) (by rfl) rfl ?_ ?_
        · go_simp
          (try simp only [i64_w])
          try rfl
        refine hK.out _ _ ⟨tt, zz, (by rw [ha.out]; exact putSel_upk 1 hb_ rfl rfl rfl), Q_E⟩
      refine steps_cons ?_ ?_
      · rintro b a w' ⟨tt, zz, ha, Q_E⟩ hb_ hon hoff
        refine ⟨_, rfl, fun K hK => ?_⟩
        have e24 : a.tmps[24]? = some (.slice (some ad) pN.length cn) := by rw [ha]; exact putSel_on (e := (3, 24, .slice (some ad) pN.length cn)) 1 rfl rfl (hon 3 (by kernel_rfl)) rfl
        have e25 : a.tmps[25]? = some (.int .i64 ii) := by rw [ha]; exact (putSel_off rfl).trans rfl
        replace ha := Aside0.mk ha
        have E := Aside0.mk Q_E
        refine value_ (w1 := w') (v := .pointer (some (ad.add (ii.toNat * 4)))) (by rfl) rfl ?_ ?_
        · go_simp
          (try simp only [i64_w])
          try rfl
        refine hK.out _ _ ⟨tt, zz, (by rw [ha.out]; exact putSel_upk 2 hb_ rfl rfl rfl), Q_E⟩
      refine steps_cons ?_ ?_
      · rintro b a w' ⟨tt, zz, ha, Q_E⟩ hb_ hon hoff
        refine ⟨_, rfl, fun K hK => ?_⟩
        have e26 : a.tmps[26]? = some (.pointer (some (ad.add (ii.toNat * 4)))) := by rw [ha]; exact putSel_on (e := (5, 26, .pointer (some (ad.add (ii.toNat * 4))))) 2 rfl rfl (hon 5 (by kernel_rfl)) rfl
        replace ha := Aside0.mk ha
        have E := Aside0.mk Q_E
        have hc0_ := E.out.2.cell (by first | exact hab.out ▸ hzb | exact hzb) hx0d
        have hc1_ := E.out.2.cell (by first | exact hab.out ▸ hzb | exact hzb) hx1d
        have hc2_ := E.out.2.cell (by first | exact hab.out ▸ hzb | exact hzb) hx2d
        have hc3_ := E.out.2.cell (by first | exact hab.out ▸ hzb | exact hzb) hx3d
        refine value_ (w1 := w') (v := (.agg #[.int .i64 y.f0, .string y.f1, .string y.f2, .slice A3 y.f3.length c3] : Value)) (by rfl) rfl ?_ ?_
        · go_simp
          (try simp only [i64_w])
          try rfl
        refine hK.out _ _ ⟨tt, zz, (by rw [ha.out]; exact putSel_upk 3 hb_ rfl rfl rfl), Q_E⟩
      refine steps_cons ?_ ?_
      · rintro b a w' ⟨tt, zz, ha, Q_E⟩ hb_ hon hoff
        refine ⟨_, rfl, fun K hK => ?_⟩
        have e27 : a.tmps[27]? = some ((.agg #[.int .i64 y.f0, .string y.f1, .string y.f2, .slice A3 y.f3.length c3] : Value)) := by rw [ha]; exact putSel_on (e := (6, 27, (.agg #[.int .i64 y.f0, .string y.f1, .string y.f2, .slice A3 y.f3.length c3] : Value))) 3 rfl rfl (hon 6 (by kernel_rfl)) rfl
        have e28 : a.tmps[28]? = some (.int .i64 m) := by rw [ha]; exact (putSel_off rfl).trans rfl
        replace ha := Aside0.mk ha
        have E := Aside0.mk Q_E
        refine goes_ Tryd.func20 (by kernel_rfl) rfl #[(.agg #[.int .i64 y.f0, .string y.f1, .string y.f2, .slice A3 y.f3.length c3] : Value), .int .i64 m] (by rfl) rfl rfl (by first | (simp only [List.map_toArray, List.map_cons, List.map_nil, Act.eval, Array.getD_eq_getD_getElem?, Option.getD_some, e27, e28]; done) | (simp only [List.map_toArray, List.map_cons, List.map_nil, Act.eval, Array.getD_eq_getD_getElem?, Option.getD_some, e27, e28]; rfl)) ?_
        refine (scarfref05_Size.calls ks y.f0 y.f1 y.f2 A3 c3 y.f3 m sz _ (Kd.F_now (E.out.2.f hF3d (fun k h_ => .inl (hokZ k h_)))) hl3 hks.out).mono ?_
        rintro e w24 ⟨rfl, hb⟩
        refine ⟨_, rfl, ?_⟩
        have K_ := E.out.1.keep hb
        have S3_ := K_.2
        refine hK.out _ _ ⟨tt, zz, (by rw [ha.out]; exact putSel_upk 4 hb_ rfl rfl rfl), ⟨K_.1, E.out.2.trans S3_⟩⟩
      refine steps_cons ?_ ?_
      · rintro b a w' ⟨tt, zz, ha, Q_E⟩ hb_ hon hoff
        refine ⟨_, rfl, fun K hK => ?_⟩
        have e29 : a.tmps[29]? = some (.int .i64 sz) := by rw [ha]; exact putSel_on (e := (8, 29, .int .i64 sz)) 4 rfl rfl (hon 8 (by kernel_rfl)) rfl
        replace ha := Aside0.mk ha
        have E := Aside0.mk Q_E
        refine value_ (w1 := w'.alloc (.cells #[.int .i64 sz] 3)) (v := (.slice (some ⟨w'.heap.size, 0, none⟩) 1 1)) (by rfl) rfl ?_ ?_
        · go_simp
          try rfl
        have S2_ := E.out.1.lit (i := 5) (by simp only [r5L, hb_]; rfl) 3 1 1 (by decide) (by decide) [.int .i64 sz] rfl
        have S3_ : (St w (fun k => k < w.heap.size ∨ (w2.heap.size ≤ k ∧ k < w3.heap.size)) (r5L g5 i (.slice (some ad) pN.length cn) (.slice Ap_ i cp_) (.slice Az_ i cz_) (.slice Ak_ i ck_) P Zs us KK sz [blk g4 32 #[.slice none 0 0, .slice none 0 0, .slice none 0 0, .slice none 0 0], blk g2 24 #[.int .i64 x.f0, .string x.f1, .string x.f2, .slice A0 x.f3.length c0]] (up b 9) (.slice (some ⟨w'.heap.size, 0, none⟩) 1 1) zz) (w'.alloc (.cells #[.int .i64 sz] 3)) ∧ Same w (fun k => k < w.heap.size ∨ (w2.heap.size ≤ k ∧ k < w3.heap.size)) w5d (w'.alloc (.cells #[.int .i64 sz] 3))) := ⟨by have h_ := S2_.1; simp only [r5L, List.cons_append, List.nil_append, List.set_cons_zero, List.set_cons_succ, List.setIfInBounds_toArray, up, Nat.reduceEqDiff, reduceIte, cond_true, cond_false, hb_, (hoff 10 (by kernel_rfl)), (hoff 12 (by kernel_rfl))] at h_ ⊢; exact h_, E.out.2.trans S2_.2⟩
        refine hK.out _ _ ⟨(.slice (some ⟨w'.heap.size, 0, none⟩) 1 1), zz, (by rw [ha.out]; exact putSel_upk 5 hb_ rfl rfl rfl), S3_⟩
      refine steps_cons ?_ ?_
      · rintro b a w' ⟨tt, zz, ha, Q_E⟩ hb_ hon hoff
        refine ⟨_, rfl, fun K hK => ?_⟩
        have e22 : a.tmps[22]? = some (.slice Az_ i cz_) := by rw [ha]; exact putSel_on (e := (1, 22, .slice Az_ i cz_)) 0 rfl rfl (hon 1 (by kernel_rfl)) rfl
        have e30 : a.tmps[30]? = some (tt) := by rw [ha]; exact putSel_on (e := (9, 30, tt)) 5 rfl rfl (hon 9 (by kernel_rfl)) rfl
        replace ha := Aside0.mk ha
        have E := Aside0.mk Q_E
        refine app_step (by rfl) (.tmp 22) (.tmp 30) 27 3 (.int .i64 0) 1 8 rfl Tryd.underlying27 info3 rfl (by decide) (by decide) (.slice Az_ i cz_) tt i (ints Zs) [.int .i64 sz] (eval_of e22) (eval_of e30) (by simp [Value.oneCell']) (E.out.1.at_row (i := 2) (by simp only [r5L, hb_]; rfl)) (E.out.1.at_row (i := 5) (by simp only [r5L, (hon 9 (by kernel_rfl))]; rfl)) (by omega) ?_
        intro v1 w1 ho hg hat
        have S2_ := E.out.1.row_upd (i := 2) (by simp only [r5L, hb_]; rfl) ho hg hat
        have S3_ : (St w (fun k => k < w.heap.size ∨ (w2.heap.size ≤ k ∧ k < w3.heap.size)) (r5L g5 i (.slice (some ad) pN.length cn) (.slice Ap_ i cp_) (.slice Az_ i cz_) (.slice Ak_ i ck_) P Zs us KK sz [blk g4 32 #[.slice none 0 0, .slice none 0 0, .slice none 0 0, .slice none 0 0], blk g2 24 #[.int .i64 x.f0, .string x.f1, .string x.f2, .slice A0 x.f3.length c0]] (up b 10) tt v1) w1 ∧ Same w (fun k => k < w.heap.size ∨ (w2.heap.size ≤ k ∧ k < w3.heap.size)) w5d w1) := ⟨by have h_ := S2_.1; simp only [r5L, List.cons_append, List.nil_append, List.set_cons_zero, List.set_cons_succ, List.setIfInBounds_toArray, up, Nat.reduceEqDiff, reduceIte, cond_true, cond_false, hb_, (hon 9 (by kernel_rfl)), (hoff 12 (by kernel_rfl))] at h_ ⊢; exact h_, E.out.2.trans S2_.2⟩
        refine hK.out _ _ ⟨tt, v1, (by rw [ha.out]; exact putSel_upk 6 hb_ rfl rfl rfl), S3_⟩
      refine steps_cons ?_ ?_
      · rintro b a w' ⟨tt, zz, ha, Q_E⟩ hb_ hon hoff
        refine ⟨_, rfl, fun K hK => ?_⟩
        have e5 : a.tmps[5]? = some (.pointer (some ⟨g5, 0, none⟩)) := by rw [ha]; exact (putSel_off rfl).trans rfl
        replace ha := Aside0.mk ha
        have E := Aside0.mk Q_E
        refine value_ (w1 := w') (v := .pointer (some ⟨g5, 2, none⟩)) (by rfl) rfl ?_ ?_
        · go_simp
          (try simp only [i64_w])
          try rfl
        refine hK.out _ _ ⟨tt, zz, (by rw [ha.out]; exact putSel_upk 7 hb_ rfl rfl rfl), Q_E⟩
      refine steps_cons ?_ ?_
      · rintro b a w' ⟨tt, zz, ha, Q_E⟩ hb_ hon hoff
        refine ⟨_, rfl, fun K hK => ?_⟩
        have e32 : a.tmps[32]? = some (.pointer (some ⟨g5, 2, none⟩)) := by rw [ha]; exact putSel_on (e := (11, 32, .pointer (some ⟨g5, 2, none⟩))) 7 rfl rfl (hon 11 (by kernel_rfl)) rfl
        have e31 : a.tmps[31]? = some (zz) := by rw [ha]; exact putSel_on (e := (10, 31, zz)) 6 rfl rfl (hon 10 (by kernel_rfl)) rfl
        replace ha := Aside0.mk ha
        have E := Aside0.mk Q_E
        have hb0_ := E.out.1.at_blk (i := 0) rfl
        have hc_ : w'.cell? ⟨g5, 2, none⟩ = some (.slice Az_ i cz_) := (blk_cell hb0_ 2).trans (by rw [hb_]; rfl)
        have hf_ := blk_frozen hb0_ 2
        obtain ⟨A_, c_, en_⟩ := own_slice (E.out.1.at_row (i := 2) (by simp only [r5L, (hon 10 (by kernel_rfl))]; rfl))
        refine skip_ (w1 := w'.setCell ⟨g5, 2, none⟩ zz) (by rfl) rfl ?_ ?_
        · rw [en_] at e31 ⊢
          go_simp
          try rfl
        have S2_ := E.out.1.set (i := 0) rfl 2 zz
        have S3_ : (St w (fun k => k < w.heap.size ∨ (w2.heap.size ≤ k ∧ k < w3.heap.size)) (r5L g5 i (.slice (some ad) pN.length cn) (.slice Ap_ i cp_) (.slice Az_ i cz_) (.slice Ak_ i ck_) P Zs us KK sz [blk g4 32 #[.slice none 0 0, .slice none 0 0, .slice none 0 0, .slice none 0 0], blk g2 24 #[.int .i64 x.f0, .string x.f1, .string x.f2, .slice A0 x.f3.length c0]] (up b 12) tt zz) (w'.setCell ⟨g5, 2, none⟩ zz) ∧ Same w (fun k => k < w.heap.size ∨ (w2.heap.size ≤ k ∧ k < w3.heap.size)) w5d (w'.setCell ⟨g5, 2, none⟩ zz)) := ⟨by have h_ := S2_.1; simp only [r5L, List.cons_append, List.nil_append, List.set_cons_zero, List.set_cons_succ, List.setIfInBounds_toArray, up, Nat.reduceEqDiff, reduceIte, cond_true, cond_false, hb_, (hon 10 (by kernel_rfl)), (hon 9 (by kernel_rfl))] at h_ ⊢; exact h_, E.out.2.trans S2_.2⟩
        refine hK.out _ _ ⟨tt, zz, (by rw [ha.out]; exact putSel_none (v := undef) rfl), S3_⟩
      exact steps_nil
    · rintro b a w' hall ⟨tt, zz, ha, Q_E⟩
      clear E
      have hb1_ := hall 1 (by kernel_rfl)
      have hb3_ := hall 3 (by kernel_rfl)
      have hb5_ := hall 5 (by kernel_rfl)
      have hb6_ := hall 6 (by kernel_rfl)
      have hb8_ := hall 8 (by kernel_rfl)
      have hb9_ := hall 9 (by kernel_rfl)
      have hb10_ := hall 10 (by kernel_rfl)
      have hb11_ := hall 11 (by kernel_rfl)
      have hb12_ := hall 12 (by kernel_rfl)
      subst ha
      simp only [putSel, hb1_, hb3_, hb5_, hb6_, hb8_, hb9_, hb10_, hb11_, hb12_, if_true, Act.put, List.setIfInBounds_toArray, List.set_cons_zero, List.set_cons_succ]
      have E := Aside0.mk Q_E
      clear Q_E
      have S2_ := E.out; simp only [r5L, cond_true, hb9_, hb10_, hb12_] at S2_
      clear hall hb1_ hb3_ hb5_ hb6_ hb8_ hb9_ hb10_ hb11_ hb12_
      replace S2_ := Sd.of S2_
      have S := (S2_.perm (List.perm_middle (l₁ := [blk g5 32 #[.slice (some ad) pN.length cn, .slice Ap_ i cp_, zz, .slice Ak_ i ck_], row (.slice Ap_ i cp_) 3 1 i (ints P), row zz 3 1 (i + 1) (ints Zs ++ [.int .i64 sz]), row (.slice Ak_ i ck_) 27 1 i us, grp (inn us KK)]))).drop
      clear S2_ E Sd hx0d hx1d hx2d hx3d hF3d
      obtain ⟨Azz, czz, ezz⟩ := own_slice (S.rowAt 2 rfl)
      subst ezz
      obtain ⟨⟨g5_0, g5_1, g5_2, g5_3⟩, g5_4, g5_5, g5_6, g5_7⟩ := box4 (S.at_blk 0 rfl)
      go_wp2_with (first | ((with_reducible refine gate_builtin (b := .append) (xs := #[.tmp 34, .tmp 35]) rfl ?_); at_builtin; have e_ := S.lit0 3 1 [.int .i64 (-1)] rfl; refine app_list rfl (.tmp 34) (.tmp 35) 27 3 (.int .i64 0) 1 8 rfl Tryd.underlying27 info3 rfl (by decide) (by decide) (.slice Ap_ i cp_) (.slice (some ⟨w'.heap.size, 0, none⟩) 1 1) i (ints P) [.int .i64 (-1)] rfl rfl (by simp [Value.oneCell']) (e_.rowAt 2 rfl) (e_.rowAt 0 rfl) (by omega) ?_; intro v1_ w6 ho hg hat; replace S := (e_.updRow 2 rfl ho hg hat).drop; clear ho hg hat e_; obtain ⟨Ap2, cp2, ep_⟩ := own_slice (S.rowAt 1 rfl); subst ep_; clear g5_0 g5_1 g5_2 g5_3 g5_4 g5_5 g5_6 g5_7; obtain ⟨⟨g5_0, g5_1, g5_2, g5_3⟩, g5_4, g5_5, g5_6, g5_7⟩ := box4 (S.at_blk 0 rfl)) | ((with_reducible refine gate_store (t := 27) (p := 37) (v := .tmp 36) rfl ?_); refine store_event ?hg (t := 27) (p := 37) (v := .tmp 36) ?ho ?hN (w1 := ?wq_2) ?hr ?_; (case hg => rfl); (case ho => rfl); (case hN => rfl); (case hr => first | (go_simp; done) | (go_simp; rfl)); intro w7 hw_; replace S := S.set41 (.slice Ap2 (i + 1) cp2); rw [← hw_] at S; clear hw_; clear g5_0 g5_1 g5_2 g5_3 g5_4 g5_5 g5_6 g5_7; obtain ⟨⟨g5_0, g5_1, g5_2, g5_3⟩, g5_4, g5_5, g5_6, g5_7⟩ := box4 (S.at_blk 0 rfl)) | ((with_reducible refine gate_builtin (b := .append) (xs := #[.tmp 39, .tmp 40]) rfl ?_); at_builtin; have e_ := S.lit0 27 1 [.slice none 0 0] rfl; refine app_list rfl (.tmp 39) (.tmp 40) 28 27 (.slice none 0 0) 1 24 rfl Tryd.underlying28 info27 rfl (by decide) (by decide) (.slice Ak_ i ck_) (.slice (some ⟨w7.heap.size, 0, none⟩) 1 1) i us [.slice none 0 0] rfl rfl (by simp [Value.oneCell']) (e_.rowAt 4 rfl) (e_.rowAt 0 rfl) (by omega) ?_; intro v1_ w8 ho hg hat; replace S := (e_.updRow 4 rfl ho hg hat).drop; clear ho hg hat e_; obtain ⟨Ak2, ck2, ep_⟩ := own_slice (S.rowAt 3 rfl); subst ep_; clear g5_0 g5_1 g5_2 g5_3 g5_4 g5_5 g5_6 g5_7; obtain ⟨⟨g5_0, g5_1, g5_2, g5_3⟩, g5_4, g5_5, g5_6, g5_7⟩ := box4 (S.at_blk 0 rfl)) | ((with_reducible refine gate_store (t := 28) (p := 42) (v := .tmp 41) rfl ?_); refine store_event ?hg (t := 28) (p := 42) (v := .tmp 41) ?ho ?hN (w1 := ?wq_3) ?hr ?_; (case hg => rfl); (case ho => rfl); (case hN => rfl); (case hr => first | (go_simp; done) | (go_simp; rfl)); intro w9 hw_; replace S := S.set43 (.slice Ak2 (i + 1) ck2); rw [← hw_] at S; clear hw_; clear g5_0 g5_1 g5_2 g5_3 g5_4 g5_5 g5_6 g5_7; obtain ⟨⟨g5_0, g5_1, g5_2, g5_3⟩, g5_4, g5_5, g5_6, g5_7⟩ := box4 (S.at_blk 0 rfl)))
      obtain ⟨hPe, hZe, hUe, hKe⟩ := hst.out
      have hul : us.length = KK.length := by rw [hUe, hKe]; simp
      replace S := S.with (S.st.sub_nil (i := 4) rfl 3 1)
      have hPL : PL g5 (i + 1) (.slice (some ad) pN.length cn) (.slice Ap2 (i + 1) cp2) (.slice Azz (i + 1) czz) (.slice Ak2 (i + 1) ck2) (P ++ [-1]) (Zs ++ [sz]) (us ++ [.slice none 0 0]) (KK ++ [[]]) [blk g4 32 #[.slice none 0 0, .slice none 0 0, .slice none 0 0, .slice none 0 0], blk g2 24 #[.int .i64 x.f0, .string x.f1, .string x.f2, .slice A0 x.f3.length c0]] = [blk g5 32 #[.slice (some ad) pN.length cn, .slice Ap2 (i + 1) cp2, .slice Azz (i + 1) czz, .slice Ak2 (i + 1) ck2], row (.slice Ap2 (i + 1) cp2) 3 1 (i + 1) (ints P ++ [.int .i64 (-1)]), row (.slice Azz (i + 1) czz) 3 1 (i + 1) (ints Zs ++ [.int .i64 sz]), row (.slice Ak2 (i + 1) ck2) 27 1 (i + 1) (us ++ [.slice none 0 0]), grp (inn us KK ++ [row (.slice none 0 0) 3 1 0 []])] ++ [blk g4 32 #[.slice none 0 0, .slice none 0 0, .slice none 0 0, .slice none 0 0], blk g2 24 #[.int .i64 x.f0, .string x.f1, .string x.f2, .slice A0 x.f3.length c0]] := by
        simp only [PL, ints, List.map_append, List.map_cons, List.map_nil]
        rw [inn_snoc hul]
        rfl
      have hil : i < pN.length := by have := hib2.out; have := hii.out; omega
      have hyi' := hyi.out
      have hiw : wrap64 (ii + 1) = ((i + 1 : Nat) : Int) := by have := hii.out; unfold wrap64; omega
      have hst2 : Aside0 (P ++ [-1] = List.replicate (i + 1) (-1) ∧ Zs ++ [sz] = (pN.take (i + 1)).map (fun y => (nsz y : Int)) ∧ us ++ [.slice none 0 0] = List.replicate (i + 1) (.slice none 0 0) ∧ KK ++ [[]] = List.replicate (i + 1) []) := by
        refine ⟨?_, ?_, ?_, ?_⟩
        · rw [hPe, List.replicate_succ']
        · rw [hZe, List.take_succ_eq_append_getElem hil, List.map_append, hsz.out]
          congr 1
          rw [List.getElem?_eq_getElem hil] at hyi'
          injection hyi' with hyi'
          rw [hyi']; rfl
        · rw [hUe, List.replicate_succ']
        · rw [hKe, List.replicate_succ']
      have hn1 := hNl.out
      replace hst2 := Aside0.mk hst2
      replace hiw := Aside0.mk hiw
      replace hgk := Aside0.mk hgk
      replace hn1 := Aside0.mk hn1
      clear hyi' hPe hZe hUe hKe hul g5_0 g5_1 g5_2 g5_3 g5_4 g5_5 g5_6 g5_7
      go_roundg (n - (i + 1))
      case measure => have := hgk.out; have := hn1.out; omega
      case rel => exact ⟨wrap64 (ii + 1), i + 1, _, _, _, P ++ [-1], Zs ++ [sz], us ++ [.slice none 0 0], KK ++ [[]], by first | rfl | (simp; done), hiw.out ▸ ⟨rfl⟩, by have := hn1.out; omega, rfl, hst2.out, by rw [hPL]; exact S⟩

  · have hib := decide_eq_false hin
    have hie : i = n := by have := hNl.out; have := hii.out; omega
    obtain ⟨hPe, hZe, hUe, hKe⟩ := hst.out
    rw [hie] at S hPe hZe hUe hKe
    have hPI : PInv (ofP x).P P 0 1 := by rw [hPe, hn.out]; exact PInv.start hlay (by rw [hPl.out, hn.out])
    have hZx : Zs = (ofP x).Z := by rw [hZe, List.take_of_length_le (by rw [hNl.out]; exact Nat.le_refl _), ofP_Z, hpN.out]
    have hst2 : Aside0 (PInv (ofP x).P P 0 1 ∧ us.length = n ∧ KK = (ofP x).K.take 0 ++ List.replicate (n - 0) []) := ⟨hPI, by rw [hUe]; simp, by rw [hKe]; simp⟩
    rw [hZx] at S
    replace hst2 := Aside0.mk hst2
    clear hPI hZx hPe hZe hUe hKe hst hie hgk hi hii
    obtain ⟨gP, cP, eP, _⟩ := own_set (S.rowAt 1 rfl) hnp undef
    obtain ⟨gZ, cZ, eZ, _⟩ := own_set (S.rowAt 2 rfl) hnp undef
    obtain ⟨gK, cK, eK, _⟩ := own_set (S.rowAt 3 rfl) hnp undef
    subst eP eZ eK
    go_wp2
    go_loopg [7] n (fun kq v7 w'' => ∃ (ii : Int) (i : Nat) (P : List Int) (us : List Value) (KK : List (List Int)), v7 = .int .i64 ii ∧ Aside0 (ii = (i : Int)) ∧ i ≤ n ∧ kq = n - i ∧ Aside0 (PInv (ofP x).P P i (i + 1) ∧ us.length = n ∧ KK = (ofP x).K.take i ++ List.replicate (n - i) []) ∧ Stt w (fun k => k < w.heap.size ∨ (w2.heap.size ≤ k ∧ k < w3.heap.size)) (PL g5 n (.slice An pN.length cn) (.slice (some ⟨gP, 0, none⟩) n cP) (.slice (some ⟨gZ, 0, none⟩) n cZ) (.slice (some ⟨gK, 0, none⟩) n cK) P (ofP x).Z us KK [blk g4 32 #[.slice none 0 0, .slice none 0 0, .slice none 0 0, .slice none 0 0], blk g2 24 #[.int .i64 x.f0, .string x.f1, .string x.f2, .slice A0 x.f3.length c0]]) [rdO k24 (fun k => (Z k ∨ w2.heap.size ≤ k) ∧ k < w3.heap.size) An cn pN, rdO k24 Z A0 c0 x.f3] w'')
    case atStart => exact ⟨0, 0, P, us, KK, rfl, ⟨rfl⟩, Nat.zero_le _, rfl, hst2.out, S⟩
    case round =>
      clear S hq hq0 hst2
      obtain ⟨ii, i, P, us, KK, rfl, hii, hi, hgk, hst, S⟩ := hrel
      obtain ⟨wc, rfl⟩ : ∃ q, q = wr := ⟨_, rfl⟩
      have hq := (box4 (S.at_blk 0 rfl)).1
      have hq0 := hq.1
      have hq1 := hq.2.1
      have hq2 := hq.2.2.1
      have hq3 := hq.2.2.2
      by_cases hin : ii < (pN.length : Int)
      · have hib := decide_eq_true hin
        have p0 : 0 ≤ ii := by have := hii.out; omega
        have hil : i < pN.length := by have := hii.out; omega
        have hiN : i < n := by have := hNl.out; omega
        obtain ⟨ad, cs, eA, hcl, hFK, hcc, hok⟩ := Kd.F_get (S.rdo 0 rfl).2.1 z24 ii p0 hin
        subst eA
        obtain ⟨y, hy⟩ : ∃ y, y = pN.getD ii.toNat z24 := ⟨_, rfl⟩
        have hyi : pN[i]? = some y := by rw [hy, hii.out]; simp [List.getD_eq_getElem?_getD, List.getElem?_eq_getElem hil]
        obtain ⟨qy, hly⟩ := ofP_at x (hpN.out ▸ hyi)
        have hys : nsz y ≤ n := by rw [hn.out]; exact sub_szN x (hpN.out ▸ hyi)
        have hyl : y.f3.length ≤ nszL y.f3 := len_nszL _
        have hyn := nsz_eq y
        have hin' := Aside0.mk hin
        have p0' := Aside0.mk p0
        replace hil := Aside0.mk hil
        replace hiN := Aside0.mk hiN
        have hy2 := Aside0.mk hy
        replace hyi := Aside0.mk hyi
        replace hys := Aside0.mk hys
        replace hyl := Aside0.mk hyl
        replace hyn := Aside0.mk hyn
        replace p0 := eq_true p0
        replace hin := eq_true hin
        clear hcl hFK hcc hok hy
        go_wp2
        go_loopg [8, 9] y.f3.length (fun kq v8 v9 w'' => ∃ (jj : Int) (j : Nat) (kk : Int) (pos : Nat) (P : List Int) (us : List Value) (KK : List (List Int)), v8 = .int .i64 kk ∧ v9 = .int .i64 jj ∧ Aside0 (jj = (j : Int)) ∧ Aside0 (kk = (pos : Int) ∧ pos = i + 1 + nszL (y.f3.take j)) ∧ j ≤ y.f3.length ∧ kq = y.f3.length - j ∧ Aside0 (PInv (ofP x).P P i pos ∧ us.length = n ∧ KK = (ofP x).K.take i ++ places (y.f3.take j) (i + 1) :: List.replicate (n - (i + 1)) []) ∧ Stt w (fun k => k < w.heap.size ∨ (w2.heap.size ≤ k ∧ k < w3.heap.size)) (PL g5 n (.slice (some ad) pN.length cn) (.slice (some ⟨gP, 0, none⟩) n cP) (.slice (some ⟨gZ, 0, none⟩) n cZ) (.slice (some ⟨gK, 0, none⟩) n cK) P (ofP x).Z us KK [blk g4 32 #[.slice none 0 0, .slice none 0 0, .slice none 0 0, .slice none 0 0], blk g2 24 #[.int .i64 x.f0, .string x.f1, .string x.f2, .slice A0 x.f3.length c0]]) [rdO k24 (fun k => (Z k ∨ w2.heap.size ≤ k) ∧ k < w3.heap.size) (some ad) cn pN, rdO k24 Z A0 c0 x.f3] w'')
        case atStart =>
          obtain ⟨h1_, h2_, h3_⟩ := hst.out
          exact ⟨0, 0, wrap64 (ii + 1), i + 1, P, us, KK, rfl, rfl, ⟨rfl⟩, ⟨by have := hii.out; have := hiN.out; unfold wrap64; omega, by simp [nszL]⟩, Nat.zero_le _, rfl, ⟨h1_, h2_, by
            rw [h3_, show n - i = (n - (i + 1)) + 1 by have := hiN.out; omega, List.replicate_succ]; rfl⟩, S⟩
        case round =>
          clear S hq hq0 hq1 hq2 hq3
          obtain ⟨jj, j, kk, pos, P, us, KK, rfl, rfl, hjj, hkk, hj, hgk2, hst2, S⟩ := hrel
          obtain ⟨wd, rfl⟩ : ∃ q, q = wr := ⟨_, rfl⟩
          have hq := (box4 (S.at_blk 0 rfl)).1
          have hq0 := hq.1
          have hq1 := hq.2.1
          have hq2 := hq.2.2.1
          have hq3 := hq.2.2.2
          have hqf := (box4 (S.at_blk 0 rfl)).2
          obtain ⟨hPI, hul, hKe⟩ := hst2.out
          obtain ⟨ad', cs, eA, hcl, hFK, hcc, hok⟩ := Kd.F_get (S.rdo 0 rfl).2.1 z24 ii p0'.out hin'.out
          injection eA with eA
          subst eA
          rw [← hy2.out] at hFK
          obtain ⟨A3, c3, rfl, hl3, hF3⟩ := k24_openF hFK
          have hx3 : wd.cell? ⟨(ad.add (ii.toNat * 4)).block, (ad.add (ii.toNat * 4)).off + 3, none⟩ = some (.slice A3 y.f3.length c3) := by rw [← add_field _ _ 3 (by omega)]; exact hcc 3 _ rfl
          clear hcl hFK hcc hok hF3 hl3 hq
          by_cases hjl : jj < (y.f3.length : Int)
          · have hjb := decide_eq_true hjl
            have hjn : j < y.f3.length := by have := hjj.out; omega
            obtain ⟨kid, hkid⟩ : ∃ kid, y.f3[j]? = some kid := ⟨_, List.getElem?_eq_getElem hjn⟩
            obtain ⟨hPI2, hpx⟩ := PInv.step (x := x) (by rw [hPl.out, hn.out]) hPI hly hkid hkk.out.2
            have hpn : pos < n := by rw [hn.out]; exact hpx
            have hkt : kk.toNat = pos := by rw [hkk.out.1]; simp
            have hit : ii.toNat = i := by rw [hii.out]; simp
            have hkN : kk < (pN.length : Int) := by have := hkk.out.1; have := hNl.out; omega
            have hkb := decide_eq_true hkN
            have k0 : 0 ≤ kk := by have := hkk.out.1; omega
            have hkn2 : kk < (n : Int) := by have := hkk.out.1; omega
            have hin2 : ii < (n : Int) := by have := hii.out; have := hiN.out; omega
            obtain ⟨hoP, hgP, ⟨tP, htP, hcP⟩, hfP⟩ := own_set' (S.rowAt 1 rfl) (k := kk.toNat) (by omega) (.int .i64 ii)
            obtain ⟨_, _, ⟨tZ, htZ, hcZ⟩, _⟩ := own_set' (S.rowAt 2 rfl) (k := kk.toNat) (by omega) undef
            have hZk : (ofP x).Z[pos]? = some (nsz kid : Int) := by
              have hL := layK_L hly
              have hsplit : y.f3 = y.f3.take j ++ kid :: y.f3.drop (j + 1) := by
                have e : y.f3[j] = kid := (List.getElem?_eq_some_iff.1 hkid).2
                rw [← e, ← List.drop_eq_getElem_cons hjn, List.take_append_drop]
              rw [hsplit, layL_app] at hL
              have h2 := hL.2
              simp only [LayL] at h2
              rw [show i + 1 + nszL (y.f3.take j) = pos from hkk.out.2.symm] at h2
              exact layK_Z h2.1
            have etZ : tZ = .int .i64 (nsz kid : Int) := by
              rw [hkt] at htZ
              simp only [ints, List.getElem?_map, hZk, Option.map_some] at htZ
              injection htZ with htZ
              exact htZ.symm
            rw [etZ] at hcZ
            obtain ⟨sz, hsz⟩ : ∃ sz : Int, sz = nsz kid := ⟨_, rfl⟩
            rw [← hsz] at hcZ
            have hset : (ints P).set kk.toNat (.int .i64 ii) = ints (P.set pos (i : Int)) := by rw [hkt, hii.out]; simp [ints, List.map_set]
            obtain ⟨ui, hui⟩ : ∃ ui, us[ii.toNat]? = some ui := ⟨_, List.getElem?_eq_getElem (by rw [hul, hit]; exact hiN.out)⟩
            have hKl2 : (ofP x).K.length = n := hKl.out
            have hKi : KK[ii.toNat]? = some (places (y.f3.take j) (i + 1)) := by
              rw [hKe, hit, List.getElem?_append_right (by rw [List.length_take]; omega)]
              have : i - ((ofP x).K.take i).length = 0 := by rw [List.length_take]; have := hiN.out; omega
              rw [this]; rfl
            obtain ⟨kl, hkl⟩ : ∃ kl, kl = places (y.f3.take j) (i + 1) := ⟨_, rfl⟩
            rw [← hkl] at hKi
            have hkll : kl.length ≤ 1000000 := by
              rw [hkl]
              have h1 : ∀ (l : List S24) (a : Nat), (places l a).length = l.length := fun l => by
                induction l with
                | nil => intro a; rfl
                | cons k r ih => intro a; simp [places, ih]
              rw [h1, List.length_take]
              have := hyl.out; have := hyn.out; have := hys.out; omega
            have hinn := inn_at hui hKi
            have hkidn : nsz kid ≤ n := by
              have h1 := nszL_get hkid
              have h2 := nszL_drop y.f3 j
              have := hyn.out; have := hys.out; omega
            have hn6 : n ≤ 1000000 := by omega
            have htk : nszL (y.f3.take (j + 1)) = nszL (y.f3.take j) + nsz kid := by
              rw [List.take_succ_eq_append_getElem hjn, nszL_app]
              have e : y.f3[j] = kid := (List.getElem?_eq_some_iff.1 hkid).2
              rw [e]; simp [nszL]
            have hplc : places (y.f3.take (j + 1)) (i + 1) = kl ++ [(pos : Int)] := by
              rw [List.take_succ_eq_append_getElem hjn, places_app, hkl]
              have e : y.f3[j] = kid := (List.getElem?_eq_some_iff.1 hkid).2
              rw [e, ← hkk.out.2]; rfl
            have hiu : ii.toNat < n := by omega
            have hgk3 := Aside0.mk hgk2
            have hi' := Aside0.mk hi
            replace k0 := eq_true k0
            have hkN' := eq_true hkN
            have hkn3 := eq_true hkn2
            have hin3 := eq_true hin2
            replace hsz := Aside0.mk hsz
            replace hset := Aside0.mk hset
            replace hui := Aside0.mk hui
            replace hKi := Aside0.mk hKi
            replace hkl := Aside0.mk hkl
            replace hplc := Aside0.mk hplc
            replace htk := Aside0.mk htk
            replace hkt := Aside0.mk hkt
            replace hit := Aside0.mk hit
            replace hul := Aside0.mk hul
            replace hKe := Aside0.mk hKe
            replace hkid := Aside0.mk hkid
            replace hKl2 := Aside0.mk hKl2
            have hKl2' := hKl2
            have hoPs := Aside0.mk hoP
            have hcZ' := Aside0.mk hcZ
            have hZk2 := Aside0.mk hZk
            clear htP htZ hZk etZ hst2 hoP hgk2 hcZ hKl2
            obtain ⟨hqf0, hqf1, hqf2, hqf3⟩ := hqf
            go_wp2_with (first | ((with_reducible refine gate_store (t := 3) (p := 74) (v := .tmp 73) rfl ?_); refine store_event ?hg (t := 3) (p := 74) (v := .tmp 73) ?ho ?hN (w1 := ?wq_4) ?hr ?_; (case hg => rfl); (case ho => rfl); (case hN => rfl); (case hr => first | (go_simp; done) | (go_simp; rfl)); intro w10 hw_; replace S := S.updRow 1 rfl hoPs.out hgP (.inl rfl); rw [← hw_] at S; clear hw_))
            replace S : Stt w (fun k => k < w.heap.size ∨ (w2.heap.size ≤ k ∧ k < w3.heap.size)) (PL g5 n (.slice (some ad) pN.length cn) (.slice (some ⟨gP, 0, none⟩) n cP) (.slice (some ⟨gZ, 0, none⟩) n cZ) (.slice (some ⟨gK, 0, none⟩) n cK) (P.set pos (i : Int)) (ofP x).Z us KK [blk g4 32 #[.slice none 0 0, .slice none 0 0, .slice none 0 0, .slice none 0 0], blk g2 24 #[.int .i64 x.f0, .string x.f1, .string x.f2, .slice A0 x.f3.length c0]]) [rdO k24 (fun k => (Z k ∨ w2.heap.size ≤ k) ∧ k < w3.heap.size) (some ad) cn pN, rdO k24 Z A0 c0 x.f3] w10 := by
              have h_ := S
              rw [hset.out] at h_
              exact h_
            obtain ⟨P2, hP2⟩ : ∃ q, q = P.set pos (i : Int) := ⟨_, rfl⟩
            rw [← hP2] at S
            replace hP2 := Aside0.mk hP2
            have Sd := S.keep (below_drew1 (Below.refl w10.heap.size w10))
            clear S hq0 hq1 hq2 hq3 hqf0 hqf1 hqf2 hqf3 hcP hfP hx3 hgP hoPs
            have E : (St w (fun k => k < w.heap.size ∨ (w2.heap.size ≤ k ∧ k < w3.heap.size)) (r16L g5 n (.slice (some ad) pN.length cn) (.slice (some ⟨gP, 0, none⟩) n cP) (.slice (some ⟨gZ, 0, none⟩) n cZ) (.slice (some ⟨gK, 0, none⟩) n cK) P2 (ofP x).Z us KK ii.toNat kl kk [blk g4 32 #[.slice none 0 0, .slice none 0 0, .slice none 0 0, .slice none 0 0], blk g2 24 #[.int .i64 x.f0, .string x.f1, .string x.f2, .slice A0 x.f3.length c0]] (fun _ => false) (.bool false) (.bool false)) w10.drew ∧ Same w (fun k => k < w.heap.size ∨ (w2.heap.size ≤ k ∧ k < w3.heap.size)) w10.drew w10.drew) :=
              ⟨Sd.st.emp_new.perm (List.perm_middle (l₁ := [blk g5 32 #[.slice (some ad) pN.length cn, .slice (some ⟨gP, 0, none⟩) n cP, .slice (some ⟨gZ, 0, none⟩) n cZ, .slice (some ⟨gK, 0, none⟩) n cK], row (.slice (some ⟨gP, 0, none⟩) n cP) 3 1 n (ints P2), row (.slice (some ⟨gZ, 0, none⟩) n cZ) 3 1 n (ints (ofP x).Z), row (.slice (some ⟨gK, 0, none⟩) n cK) 27 1 n us, grp (inn us KK)])).symm, Same.refl _ _ _⟩
            refine start_ (n := 13) (S := fun w' => True) (ds := []) #[false, false, false, false, false, false, false, false, false, false, false, false, false] (by kernel_rfl) rfl rfl trivial (fun hHeld => ?_)
            refine with_tabW rof.tab16 rof.bits16 (fun HT_ HW_ => ?_)
            generalize w10.drew = w16 at E Sd hHeld ⊢
            refine pure_ (i := 0) (N := some 75) (v := ?_) (a' := ?_) #[true, false, false, false, false, false, false, false, false, false, false, false, false] rfl rfl (any_of HT_.out (by kernel_rfl)) (fun _ _ _ h => h) (Or.inl ⟨by rfl, ?_⟩) ?_ ?_
            rotate_left
            · intro w'
              go_simp
              with_reducible rfl
            rotate_left
            · simp only [Act.put, List.setIfInBounds_toArray, List.set_cons_zero, List.set_cons_succ, i64_w, i32_w]
              rfl
            refine pure_ (i := 2) (N := some 77) (v := ?_) (a' := ?_) #[true, false, true, false, false, false, false, false, false, false, false, false, false] rfl rfl (any_of HT_.out (by kernel_rfl)) (fun _ _ _ h => h) (Or.inl ⟨by rfl, ?_⟩) ?_ ?_
            rotate_left
            · intro w'
              go_simp
              with_reducible rfl
            rotate_left
            · simp only [Act.put, List.setIfInBounds_toArray, List.set_cons_zero, List.set_cons_succ, i64_w, i32_w]
              rfl
            refine pure_ (i := 3) (N := some 78) (v := ?_) (a' := ?_) #[true, false, true, true, false, false, false, false, false, false, false, false, false] rfl rfl (any_of HT_.out (by kernel_rfl)) (fun _ _ _ h => h) (Or.inl ⟨by rfl, ?_⟩) ?_ ?_
            rotate_left
            · intro w'
              go_simp
              with_reducible rfl
            rotate_left
            · simp only [Act.put, List.setIfInBounds_toArray, List.set_cons_zero, List.set_cons_succ, i64_w, i32_w]
              rfl
            refine pure_ (i := 5) (N := some 80) (v := ?_) (a' := ?_) #[true, false, true, true, false, true, false, false, false, false, false, false, false] rfl rfl (any_of HT_.out (by kernel_rfl)) (fun _ _ _ h => h) (Or.inl ⟨by rfl, ?_⟩) ?_ ?_
            rotate_left
            · intro w'
              go_simp
              with_reducible rfl
            rotate_left
            · simp only [Act.put, List.setIfInBounds_toArray, List.set_cons_zero, List.set_cons_succ, i64_w, i32_w]
              rfl
            refine pure_ (i := 8) (N := some 83) (v := ?_) (a' := ?_) #[true, false, true, true, false, true, false, false, true, false, false, false, false] rfl rfl (any_of HT_.out (by kernel_rfl)) (fun _ _ _ h => h) (Or.inl ⟨by rfl, ?_⟩) ?_ ?_
            rotate_left
            · intro w'
              go_simp
              with_reducible rfl
            rotate_left
            · simp only [Act.put, List.setIfInBounds_toArray, List.set_cons_zero, List.set_cons_succ, i64_w, i32_w]
              rfl
            refine inv_at [1, 4, 6, 7, 9, 10, 11, 12] (fun a0_ b a w' => ∃ (tt : Value) (uu : Value), a = putSel a0_ b [(1, 76, .slice (some ⟨gK, 0, none⟩) n cK), (4, 79, .slice (some ⟨gK, 0, none⟩) n cK), (6, 81, .pointer (some ⟨gK, ii.toNat, none⟩)), (7, 82, ui), (9, 84, tt), (10, 85, uu), (11, 86, .pointer (some ⟨gK, ii.toNat, none⟩))] ∧ ((St w (fun k => k < w.heap.size ∨ (w2.heap.size ≤ k ∧ k < w3.heap.size)) (r16L g5 n (.slice (some ad) pN.length cn) (.slice (some ⟨gP, 0, none⟩) n cP) (.slice (some ⟨gZ, 0, none⟩) n cZ) (.slice (some ⟨gK, 0, none⟩) n cK) P2 (ofP x).Z us KK ii.toNat kl kk [blk g4 32 #[.slice none 0 0, .slice none 0 0, .slice none 0 0, .slice none 0 0], blk g2 24 #[.int .i64 x.f0, .string x.f1, .string x.f2, .slice A0 x.f3.length c0]] b tt uu) w' ∧ Same w (fun k => k < w.heap.size ∨ (w2.heap.size ≤ k ∧ k < w3.heap.size)) w16 w'))) HT_.out HW_.out (by kernel_rfl) (by kernel_rfl) ?_ ?_ ?_
            · exact ⟨.bool false, .bool false, by simp only [putSel, Bool.false_eq_true, if_false], E⟩
            · skip
              clear E
              refine steps_cons ?_ ?_
              · rintro b a w' ⟨tt, uu, ha, Q_E⟩ hb_ hon hoff
                refine ⟨_, rfl, fun K hK => ?_⟩
                have e75 : a.tmps[75]? = some (.pointer (some ⟨g5, 3, none⟩)) := by rw [ha]; exact (putSel_off rfl).trans rfl
                replace ha := Aside0.mk ha
                have E := Aside0.mk Q_E
                have hc_ : w'.cell? ⟨g5, 3, none⟩ = some (.slice (some ⟨gK, 0, none⟩) n cK) := (blk_cell (E.out.1.at_blk (i := 0) rfl) 3).trans rfl
                refine value_ (w1 := w') (v := .slice (some ⟨gK, 0, none⟩) n cK) (by rfl) rfl ?_ ?_
                · go_simp
                  (try simp only [i64_w])
                  try rfl
                refine hK.out _ _ ⟨tt, uu, (by rw [ha.out]; exact putSel_upk 0 hb_ rfl rfl rfl), Q_E⟩
              refine steps_cons ?_ ?_
              · rintro b a w' ⟨tt, uu, ha, Q_E⟩ hb_ hon hoff
                refine ⟨_, rfl, fun K hK => ?_⟩
                have e78 : a.tmps[78]? = some (.pointer (some ⟨g5, 3, none⟩)) := by rw [ha]; exact (putSel_off rfl).trans rfl
                replace ha := Aside0.mk ha
                have E := Aside0.mk Q_E
                have hc_ : w'.cell? ⟨g5, 3, none⟩ = some (.slice (some ⟨gK, 0, none⟩) n cK) := (blk_cell (E.out.1.at_blk (i := 0) rfl) 3).trans rfl
                refine value_ (w1 := w') (v := .slice (some ⟨gK, 0, none⟩) n cK) (by rfl) rfl ?_ ?_
                · go_simp
                  (try simp only [i64_w])
                  try rfl
                refine hK.out _ _ ⟨tt, uu, (by rw [ha.out]; exact putSel_upk 1 hb_ rfl rfl rfl), Q_E⟩
              refine steps_cons ?_ ?_
              · rintro b a w' ⟨tt, uu, ha, Q_E⟩ hb_ hon hoff
                refine ⟨_, rfl, fun K hK => ?_⟩
                have e79 : a.tmps[79]? = some (.slice (some ⟨gK, 0, none⟩) n cK) := by rw [ha]; exact putSel_on (e := (4, 79, .slice (some ⟨gK, 0, none⟩) n cK)) 1 rfl rfl (hon 4 (by kernel_rfl)) rfl
                have e80 : a.tmps[80]? = some (.int .i64 ii) := by rw [ha]; exact (putSel_off rfl).trans rfl
                replace ha := Aside0.mk ha
                have E := Aside0.mk Q_E
                refine value_ (w1 := w') (v := .pointer (some ⟨gK, ii.toNat, none⟩)) (by rfl) rfl ?_ ?_
                · go_simp
                  (try simp only [i64_w])
                  try rfl
                refine hK.out _ _ ⟨tt, uu, (by rw [ha.out]; exact putSel_upk 2 hb_ rfl rfl rfl), Q_E⟩
              refine steps_cons ?_ ?_
              · rintro b a w' ⟨tt, uu, ha, Q_E⟩ hb_ hon hoff
                refine ⟨_, rfl, fun K hK => ?_⟩
                have e81 : a.tmps[81]? = some (.pointer (some ⟨gK, ii.toNat, none⟩)) := by rw [ha]; exact putSel_on (e := (6, 81, .pointer (some ⟨gK, ii.toNat, none⟩))) 2 rfl rfl (hon 6 (by kernel_rfl)) rfl
                replace ha := Aside0.mk ha
                have E := Aside0.mk Q_E
                obtain ⟨_, _, ⟨t_, ht_, hc_⟩, hf_⟩ := own_set' (E.out.1.at_row (i := 3) (by simp only [r16L, (hoff 12 (by kernel_rfl))]; rfl)) hiu undef
                have et_ : t_ = ui := Option.some.inj (ht_.symm.trans hui.out)
                rw [et_] at hc_
                refine value_ (w1 := w') (v := ui) (by rfl) rfl ?_ ?_
                · go_simp
                  (try simp only [i64_w])
                  try rfl
                refine hK.out _ _ ⟨tt, uu, (by rw [ha.out]; exact putSel_upk 3 hb_ rfl rfl rfl), Q_E⟩
              refine steps_cons ?_ ?_
              · rintro b a w' ⟨tt, uu, ha, Q_E⟩ hb_ hon hoff
                refine ⟨_, rfl, fun K hK => ?_⟩
                have e83 : a.tmps[83]? = some (.int .i64 kk) := by rw [ha]; exact (putSel_off rfl).trans rfl
                replace ha := Aside0.mk ha
                have E := Aside0.mk Q_E
                refine value_ (w1 := w'.alloc (.cells #[.int .i64 kk] 3)) (v := (.slice (some ⟨w'.heap.size, 0, none⟩) 1 1)) (by rfl) rfl ?_ ?_
                · go_simp
                  try rfl
                have S2_ := E.out.1.lit (i := 5) (by simp only [r16L, hb_]; rfl) 3 1 1 (by decide) (by decide) [.int .i64 kk] rfl
                have S3_ : (St w (fun k => k < w.heap.size ∨ (w2.heap.size ≤ k ∧ k < w3.heap.size)) (r16L g5 n (.slice (some ad) pN.length cn) (.slice (some ⟨gP, 0, none⟩) n cP) (.slice (some ⟨gZ, 0, none⟩) n cZ) (.slice (some ⟨gK, 0, none⟩) n cK) P2 (ofP x).Z us KK ii.toNat kl kk [blk g4 32 #[.slice none 0 0, .slice none 0 0, .slice none 0 0, .slice none 0 0], blk g2 24 #[.int .i64 x.f0, .string x.f1, .string x.f2, .slice A0 x.f3.length c0]] (up b 9) (.slice (some ⟨w'.heap.size, 0, none⟩) 1 1) uu) (w'.alloc (.cells #[.int .i64 kk] 3)) ∧ Same w (fun k => k < w.heap.size ∨ (w2.heap.size ≤ k ∧ k < w3.heap.size)) w16 (w'.alloc (.cells #[.int .i64 kk] 3))) := ⟨by have h_ := S2_.1; simp only [r16L, List.cons_append, List.nil_append, List.set_cons_zero, List.set_cons_succ, List.setIfInBounds_toArray, up, Nat.reduceEqDiff, reduceIte, cond_true, cond_false, hb_, (hoff 10 (by kernel_rfl)), (hoff 12 (by kernel_rfl))] at h_ ⊢; exact h_, E.out.2.trans S2_.2⟩
                refine hK.out _ _ ⟨(.slice (some ⟨w'.heap.size, 0, none⟩) 1 1), uu, (by rw [ha.out]; exact putSel_upk 4 hb_ rfl rfl rfl), S3_⟩
              refine steps_cons ?_ ?_
              · rintro b a w' ⟨tt, uu, ha, Q_E⟩ hb_ hon hoff
                refine ⟨_, rfl, fun K hK => ?_⟩
                have e82 : a.tmps[82]? = some (ui) := by rw [ha]; exact putSel_on (e := (7, 82, ui)) 3 rfl rfl (hon 7 (by kernel_rfl)) rfl
                have e84 : a.tmps[84]? = some (tt) := by rw [ha]; exact putSel_on (e := (9, 84, tt)) 4 rfl rfl (hon 9 (by kernel_rfl)) rfl
                replace ha := Aside0.mk ha
                have E := Aside0.mk Q_E
                have hi5_ : (r16L g5 n (.slice (some ad) pN.length cn) (.slice (some ⟨gP, 0, none⟩) n cP) (.slice (some ⟨gZ, 0, none⟩) n cZ) (.slice (some ⟨gK, 0, none⟩) n cK) P2 (ofP x).Z us KK ii.toNat kl kk [blk g4 32 #[.slice none 0 0, .slice none 0 0, .slice none 0 0, .slice none 0 0], blk g2 24 #[.int .i64 x.f0, .string x.f1, .string x.f2, .slice A0 x.f3.length c0]] b tt uu)[4]? = some (grp (inn us KK)) := by simp only [r16L, hb_]; rfl
                refine app_step (by rfl) (.tmp 82) (.tmp 84) 27 3 (.int .i64 0) 1 8 rfl Tryd.underlying27 info3 rfl (by decide) (by decide) ui tt kl.length (ints kl) [.int .i64 kk] (eval_of e82) (eval_of e84) (by simp [Value.oneCell']) (E.out.1.sub_row hi5_ hinn) (E.out.1.at_row (i := 5) (by simp only [r16L, (hon 9 (by kernel_rfl))]; rfl)) (by omega) ?_
                intro v1 w1 ho hg hat
                have S2_ := E.out.1.sub_upd hi5_ hinn (row_step ho hg hat)
                have S3_ : (St w (fun k => k < w.heap.size ∨ (w2.heap.size ≤ k ∧ k < w3.heap.size)) (r16L g5 n (.slice (some ad) pN.length cn) (.slice (some ⟨gP, 0, none⟩) n cP) (.slice (some ⟨gZ, 0, none⟩) n cZ) (.slice (some ⟨gK, 0, none⟩) n cK) P2 (ofP x).Z us KK ii.toNat kl kk [blk g4 32 #[.slice none 0 0, .slice none 0 0, .slice none 0 0, .slice none 0 0], blk g2 24 #[.int .i64 x.f0, .string x.f1, .string x.f2, .slice A0 x.f3.length c0]] (up b 10) tt v1) w1 ∧ Same w (fun k => k < w.heap.size ∨ (w2.heap.size ≤ k ∧ k < w3.heap.size)) w16 w1) := ⟨by have h_ := S2_.1; simp only [r16L, List.cons_append, List.nil_append, List.set_cons_zero, List.set_cons_succ, List.setIfInBounds_toArray, up, Nat.reduceEqDiff, reduceIte, cond_true, cond_false, hb_, (hon 9 (by kernel_rfl)), (hoff 12 (by kernel_rfl))] at h_ ⊢; exact h_, E.out.2.trans S2_.2⟩
                refine hK.out _ _ ⟨tt, v1, (by rw [ha.out]; exact putSel_upk 5 hb_ rfl rfl rfl), S3_⟩
              refine steps_cons ?_ ?_
              · rintro b a w' ⟨tt, uu, ha, Q_E⟩ hb_ hon hoff
                refine ⟨_, rfl, fun K hK => ?_⟩
                have e76 : a.tmps[76]? = some (.slice (some ⟨gK, 0, none⟩) n cK) := by rw [ha]; exact putSel_on (e := (1, 76, .slice (some ⟨gK, 0, none⟩) n cK)) 0 rfl rfl (hon 1 (by kernel_rfl)) rfl
                have e77 : a.tmps[77]? = some (.int .i64 ii) := by rw [ha]; exact (putSel_off rfl).trans rfl
                replace ha := Aside0.mk ha
                have E := Aside0.mk Q_E
                refine value_ (w1 := w') (v := .pointer (some ⟨gK, ii.toNat, none⟩)) (by rfl) rfl ?_ ?_
                · go_simp
                  (try simp only [i64_w])
                  try rfl
                refine hK.out _ _ ⟨tt, uu, (by rw [ha.out]; exact putSel_upk 6 hb_ rfl rfl rfl), Q_E⟩
              refine steps_cons ?_ ?_
              · rintro b a w' ⟨tt, uu, ha, Q_E⟩ hb_ hon hoff
                refine ⟨_, rfl, fun K hK => ?_⟩
                have e86 : a.tmps[86]? = some (.pointer (some ⟨gK, ii.toNat, none⟩)) := by rw [ha]; exact putSel_on (e := (11, 86, .pointer (some ⟨gK, ii.toNat, none⟩))) 6 rfl rfl (hon 11 (by kernel_rfl)) rfl
                have e85 : a.tmps[85]? = some (uu) := by rw [ha]; exact putSel_on (e := (10, 85, uu)) 5 rfl rfl (hon 10 (by kernel_rfl)) rfl
                replace ha := Aside0.mk ha
                have E := Aside0.mk Q_E
                have hi4_ : (r16L g5 n (.slice (some ad) pN.length cn) (.slice (some ⟨gP, 0, none⟩) n cP) (.slice (some ⟨gZ, 0, none⟩) n cZ) (.slice (some ⟨gK, 0, none⟩) n cK) P2 (ofP x).Z us KK ii.toNat kl kk [blk g4 32 #[.slice none 0 0, .slice none 0 0, .slice none 0 0, .slice none 0 0], blk g2 24 #[.int .i64 x.f0, .string x.f1, .string x.f2, .slice A0 x.f3.length c0]] b tt uu)[3]? = some (row (.slice (some ⟨gK, 0, none⟩) n cK) 27 1 n us) := by simp only [r16L, hb_]; rfl
                obtain ⟨ho_, hg_, ⟨t_, ht_, hc_⟩, hf_⟩ := own_set' (E.out.1.at_row hi4_) hiu uu
                obtain ⟨A_, c_, en_⟩ := own_slice (E.out.1.sub_row (i := 4) (j := ii.toNat) (L := (inn us KK).set ii.toNat (row uu 3 1 (kl.length + 1) (ints kl ++ [.int .i64 kk]))) (by simp only [r16L, (hon 10 (by kernel_rfl))]; rfl) (by rw [List.getElem?_set_self (by have := (List.getElem?_eq_some_iff.1 hinn).1; exact this)]))
                refine skip_ (w1 := w'.setCell ⟨gK, ii.toNat, none⟩ uu) (by rfl) rfl ?_ ?_
                · rw [en_] at e85 ⊢
                  go_simp
                  try rfl
                have S2_ := E.out.1.row_upd hi4_ ho_ hg_ (.inl rfl)
                have S3_ : (St w (fun k => k < w.heap.size ∨ (w2.heap.size ≤ k ∧ k < w3.heap.size)) (r16L g5 n (.slice (some ad) pN.length cn) (.slice (some ⟨gP, 0, none⟩) n cP) (.slice (some ⟨gZ, 0, none⟩) n cZ) (.slice (some ⟨gK, 0, none⟩) n cK) P2 (ofP x).Z us KK ii.toNat kl kk [blk g4 32 #[.slice none 0 0, .slice none 0 0, .slice none 0 0, .slice none 0 0], blk g2 24 #[.int .i64 x.f0, .string x.f1, .string x.f2, .slice A0 x.f3.length c0]] (up b 12) tt uu) (w'.setCell ⟨gK, ii.toNat, none⟩ uu) ∧ Same w (fun k => k < w.heap.size ∨ (w2.heap.size ≤ k ∧ k < w3.heap.size)) w16 (w'.setCell ⟨gK, ii.toNat, none⟩ uu)) := ⟨by have h_ := S2_.1; simp only [r16L, List.cons_append, List.nil_append, List.set_cons_zero, List.set_cons_succ, List.setIfInBounds_toArray, up, Nat.reduceEqDiff, reduceIte, cond_true, cond_false, hb_, (hon 10 (by kernel_rfl)), (hon 9 (by kernel_rfl))] at h_ ⊢; exact h_, E.out.2.trans S2_.2⟩
                refine hK.out _ _ ⟨tt, uu, (by rw [ha.out]; exact putSel_none (v := undef) rfl), S3_⟩
              exact steps_nil
            · rintro b a w' hall ⟨tt, uu, ha, Q_E⟩
              clear E
              have hb1_ := hall 1 (by kernel_rfl)
              have hb4_ := hall 4 (by kernel_rfl)
              have hb6_ := hall 6 (by kernel_rfl)
              have hb7_ := hall 7 (by kernel_rfl)
              have hb9_ := hall 9 (by kernel_rfl)
              have hb10_ := hall 10 (by kernel_rfl)
              have hb11_ := hall 11 (by kernel_rfl)
              have hb12_ := hall 12 (by kernel_rfl)
              subst ha
              simp only [putSel, hb1_, hb4_, hb6_, hb7_, hb9_, hb10_, hb11_, hb12_, if_true, Act.put, List.setIfInBounds_toArray, List.set_cons_zero, List.set_cons_succ]
              have E := Aside0.mk Q_E
              clear Q_E
              have S2_ := E.out; simp only [r16L, cond_true, hb9_, hb10_, hb12_] at S2_
              clear hall hb1_ hb4_ hb6_ hb7_ hb9_ hb10_ hb11_ hb12_
              replace S2_ := Sd.of S2_
              have S := (S2_.perm (List.perm_middle (l₁ := [blk g5 32 #[.slice (some ad) pN.length cn, .slice (some ⟨gP, 0, none⟩) n cP, .slice (some ⟨gZ, 0, none⟩) n cZ, .slice (some ⟨gK, 0, none⟩) n cK], row (.slice (some ⟨gP, 0, none⟩) n cP) 3 1 n (ints P2), row (.slice (some ⟨gZ, 0, none⟩) n cZ) 3 1 n (ints (ofP x).Z), row (.slice (some ⟨gK, 0, none⟩) n cK) 27 1 n (us.set ii.toNat uu), grp ((inn us KK).set ii.toNat (row uu 3 1 (kl.length + 1) (ints kl ++ [.int .i64 kk])))]))).drop
              have hlen : us.length = KK.length := by
                rw [hul.out, hKe.out]; simp only [List.length_append, List.length_take, List.length_cons, List.length_replicate]
                have := hKl2'.out; have := hiN.out; omega
              replace S : Stt w (fun k => k < w.heap.size ∨ (w2.heap.size ≤ k ∧ k < w3.heap.size)) (PL g5 n (.slice (some ad) pN.length cn) (.slice (some ⟨gP, 0, none⟩) n cP) (.slice (some ⟨gZ, 0, none⟩) n cZ) (.slice (some ⟨gK, 0, none⟩) n cK) P2 (ofP x).Z (us.set ii.toNat uu) (KK.set ii.toNat (kl ++ [kk])) [blk g4 32 #[.slice none 0 0, .slice none 0 0, .slice none 0 0, .slice none 0 0], blk g2 24 #[.int .i64 x.f0, .string x.f1, .string x.f2, .slice A0 x.f3.length c0]]) [rdO k24 (fun k => (Z k ∨ w2.heap.size ≤ k) ∧ k < w3.heap.size) (some ad) cn pN, rdO k24 Z A0 c0 x.f3] w' := by
                have e : inn (us.set ii.toNat uu) (KK.set ii.toNat (kl ++ [kk])) = (inn us KK).set ii.toNat (row uu 3 1 (kl.length + 1) (ints kl ++ [.int .i64 kk])) := by
                  rw [inn_set _ _ hlen]; simp [ints]
                unfold PL
                rw [e]
                exact S
              clear S2_ E Sd
              have hq2 := (box4 (S.at_blk 0 rfl)).1.2.2.1
              obtain ⟨_, _, ⟨tZ, htZ, hcZ⟩, _⟩ := own_set' (S.rowAt 2 rfl) (k := kk.toNat) (by rw [hkt.out]; exact hpn) undef
              have etZ : tZ = .int .i64 sz := by
                rw [hkt.out] at htZ
                simp only [ints, List.getElem?_map, hZk2.out, Option.map_some] at htZ
                injection htZ with htZ
                rw [hsz.out]
                exact htZ.symm
              rw [etZ] at hcZ
              have hjw : wrap64 (jj + 1) = ((j + 1 : Nat) : Int) := by have := hjj.out; have := hyl.out; have := hyn.out; have := hys.out; unfold wrap64; omega
              have hkw : wrap64 (kk + sz) = ((pos + nsz kid : Nat) : Int) := by have := hkk.out.1; have := hsz.out; unfold wrap64; omega
              have hrel3 : Aside0 (PInv (ofP x).P P2 i (pos + nsz kid) ∧ (us.set ii.toNat uu).length = n ∧ KK.set ii.toNat (kl ++ [kk]) = (ofP x).K.take i ++ places (y.f3.take (j + 1)) (i + 1) :: List.replicate (n - (i + 1)) []) := by
                refine ⟨hP2.out ▸ hPI2, by rw [List.length_set]; exact hul.out, ?_⟩
                rw [hKe.out, hit.out, List.set_append_right _ _ (by rw [List.length_take]; omega), hplc.out, hkk.out.1]
                have : i - ((ofP x).K.take i).length = 0 := by rw [List.length_take]; have := hiN.out; have := hKl2'.out; omega
                rw [this]; rfl
              have hpos2 : Aside0 (pos + nsz kid = i + 1 + nszL (y.f3.take (j + 1))) := ⟨by rw [htk.out]; have := hkk.out.2; omega⟩
              replace hrel3 := Aside0.mk hrel3
              replace hjw := Aside0.mk hjw
              replace hkw := Aside0.mk hkw
              replace hpos2 := Aside0.mk hpos2
              clear htZ etZ hlen
              go_wp2
              go_roundg (y.f3.length - (j + 1))
              case measure => have := hgk3.out; omega
              case rel => exact ⟨wrap64 (jj + 1), j + 1, wrap64 (kk + sz), pos + nsz kid, P2, us.set ii.toNat uu, KK.set ii.toNat (kl ++ [kk]), rfl, rfl, ⟨hjw.out⟩, ⟨hkw.out, hpos2.out.out⟩, by omega, rfl, hrel3.out, S⟩
          · have hjb := decide_eq_false hjl
            have hje : j = y.f3.length := by have := hjj.out; omega
            have hiw : wrap64 (ii + 1) = ((i + 1 : Nat) : Int) := by have := hii.out; have := hiN.out; have := hn; unfold wrap64; omega
            have hrel2 : Aside0 (PInv (ofP x).P P (i + 1) (i + 1 + 1) ∧ us.length = n ∧ KK = (ofP x).K.take (i + 1) ++ List.replicate (n - (i + 1)) []) := by
              have hp0 := hkk.out.2
              rw [hje, List.take_length] at hp0 hKe
              rw [hp0] at hPI
              refine ⟨PInv.next hlay (by rw [hPl.out, hn.out]) hPI hly, hul, ?_⟩
              rw [hKe]
              have hki := layK_K hly
              have hkl_ := (List.getElem?_eq_some_iff.1 hki).1
              rw [List.take_succ_eq_append_getElem hkl_, List.append_assoc]
              congr 1
              have e : (ofP x).K[i] = places y.f3 (i + 1) := (List.getElem?_eq_some_iff.1 hki).2
              rw [e]; rfl
            replace hrel2 := Aside0.mk hrel2
            replace hiw := Aside0.mk hiw
            replace hiN := Aside0.mk hiN
            clear hst2 hst hPI hul hKe hje
            go_wp2
            go_roundg (n - (i + 1))
            case measure => have := hgk; have := hiN.out.out; omega
            case rel => exact ⟨wrap64 (ii + 1), i + 1, P, us, KK, by first | rfl | (simp; done), ⟨hiw.out⟩, by have := hiN.out.out; omega, rfl, hrel2.out, S⟩
      · have hib := decide_eq_false hin
        have hie : i = n := by have := hNl.out; have := hii.out; omega
        obtain ⟨hPI, hul, hKe⟩ := hst.out
        rw [hie] at hPI hKe
        have hPe : P = (ofP x).P := by
          rw [hn.out] at hPI
          exact PInv.fin hlay (by rw [hPl.out, hn.out]) hPI
        have hKe2 : KK = (ofP x).K := by
          rw [hKe, List.take_of_length_le (by rw [hKl.out]; exact Nat.le_refl _)]; simp
        rw [hPe, hKe2] at S
        replace hul := Aside0.mk hul
        clear hst hPI hKe hPe hKe2 hie hii hgk hi
        obtain ⟨⟨e0, e1, e2, e3⟩, e4, e5, e6, e7⟩ := box4 (S.at_blk 5 rfl)
        go_wp2_with (first | ((with_reducible refine gate_store (t := 32) (p := 4) (v := .tmp 94) rfl ?_); refine store_event ?hg (t := 32) (p := 4) (v := .tmp 94) ?ho ?hN (w1 := ?wq_5) ?hr ?_; (case hg => rfl); (case ho => rfl); (case hN => rfl); (case hr => first | (go_simp; done) | (go_simp; rfl)); intro w20 hw_; replace S := (S.perm (front_perm (i := 5) rfl)).set4 (.slice An pN.length cn) (.slice (some ⟨gP, 0, none⟩) n cP) (.slice (some ⟨gZ, 0, none⟩) n cZ) (.slice (some ⟨gK, 0, none⟩) n cK); rw [← hw_] at S; clear hw_))
        have hbk := S.at_blk 0 rfl
        have hO := PL.out S.drop.st (by rw [hPl.out]) (by rw [hZl.out]) hul.out (by rw [hKl.out])
        refine bodyPost_ret (results_cell_row rfl _ _ g4 32 _ (0, 0) _ rfl hbk hu32 rfl rfl) rfl ?_
        obtain ⟨_, _, q1_, r1⟩ := rd_R hO.1
        obtain ⟨_, _, q2_, r2⟩ := rd_R hO.2.1
        obtain ⟨_, _, q3_, r3⟩ := rd_S hO.2.2
        injection q1_ with qa_ _ qb_
        injection q2_ with qc_ _ qd_
        injection q3_ with qe_ _ qf_
        subst qa_ qb_ qc_ qd_ qe_ qf_
        refine ⟨An, cn, some ⟨gP, 0, none⟩, cP, some ⟨gZ, 0, none⟩, cZ, some ⟨gK, 0, none⟩, cK, ?_, ⟨?_⟩, S.below⟩
        · rw [← hpN.out, hPl.out, hZl.out, hKl.out]
        · intro a ha
          simp only [List.mem_cons, List.not_mem_nil, or_false] at ha
          have hoN := S.rdo 0 rfl
          rcases ha with rfl | rfl | rfl | rfl
          · rw [← hpN.out]
            exact ⟨hoN.1, Kd.F_mono (Kd.F_bound hoN.2.1) (fun k hk => hk.1.1.elim (fun h_ => .inl h_) (fun h_ => .inr ⟨Nat.le_trans hw2.out h_, hk.2⟩))⟩
          · exact ⟨r1.1, Kd.F_mono r1.2 (fun k hk => .inr hk)⟩
          · exact ⟨r2.1, Kd.F_mono r2.2 (fun k hk => .inr hk)⟩
          · exact ⟨r3.1, Kd.F_mono r3.2 (fun k hk => .inr hk)⟩
end Go.Proofs.YtfmlpkeaiohknaaDoor.Q
