/- The texts of this claim that lie below its row, in their order: GR2 GR6 MRofP MRof GS9a GS7 GK8 GS8. -/
import Derived.Deep.RegionLaw
import Derived.Deep.RegionHeld3
import Derived.Deep.DeepCutAuto
import Derived.Deep.CutBlock
import Derived.Deep.Cut
import Derived.Test.YtfmlpkeaiohknaaZA16
set_option linter.unusedVariables false
set_option linter.unusedSimpArgs false
set_option maxHeartbeats 16000000
set_option maxRecDepth 100000
open Array renaming getD_eq_getD_getElem? -> Qh
open Bool renaming false -> BK, false_eq_true -> R5
open Go renaming World -> Pe, Calls -> PJ, bodyPost_ret -> Qf, Value -> Pd, bytes -> Qz, undef -> Pc, heap_alloc_new -> Pv
open Go.Act renaming eval -> Q1, put -> Ph
open Go.Region renaming wanted -> PR
open Go.RowKit renaming wrap64 -> Pq
open Go.RowKit.Below renaming heap_setCell -> QI, refl -> Pn
open Go.Value renaming int -> PE, oneCell' -> QL
open Go.World renaming block_lt_of_cell? -> Pb
open Int renaming toNat_natCast -> PO
open List renaming mem_cons -> Qg, mem_cons_of_mem -> R9, not_mem_nil -> Sm, length_map -> PM, length_take -> Pp, length_nil -> Qu, nil_append -> Pu, length_append -> PK, take_of_length_le -> Ql, mem_map -> PF, mem_cons_self -> QY, getElem?_eq_getElem -> Pg, getD_eq_getElem?_getD -> Pt, getElem?_map -> PU, getElem?_eq_some_iff -> Pf, drop_eq_getElem_cons -> R6, mem_singleton -> PC, append_assoc -> PP, cons_append -> PA, replicate -> Pz, take_append_drop -> Ro, getElem?_set_self -> Q0, ext_getElem? -> RK, getElem?_eq_none -> QC, getElem?_drop -> Qk, perm_middle -> Rf, map_toArray -> PN, map_cons -> Py, map_nil -> PZ, setIfInBounds_toArray -> GW, set_cons_zero -> Pa, set_cons_succ -> NB, map_append -> Qs, replicate_succ' -> RS, take_succ_eq_append_getElem -> Qw, length_cons -> PX
open List.Perm renaming swap -> Qq
open Nat renaming zero_le -> Qa, le_refl -> Ps, le_trans -> Qo, reduceEqDiff -> PH
open Option renaming getD_some -> QG, map_some -> Ra
open Option.some renaming inj -> Px
open Or renaming inl -> PD
namespace Go.Proofs.Q
open Go Go.RowKit Go.Lib Go.Sort Go.Proofs.V.Words Go.Proofs.V.Last Go.Proofs.V.More Go.Proofs.V.SL
attribute [local go_sem] BI BJ BY BZ Bu Bv BL BM
def NH (w : Pe) (nE : Nat) (R : Nat ⊕ List Kn) (e : Ending) (w' : Pe) : Prop := match R with
 | .inl i => e = .returned (.tuple #[.agg #[.int .i64 0, .string (⟨#[]⟩ : ByteArray), .string (⟨#[]⟩ : ByteArray), .slice none 0 0], .int .i64 (i : Int), .int .i64 10])
 | .inr ks => ∃ A c, e = .returned (.tuple #[.agg #[.int .i64 (BH ks 0).f0, .string (BH ks 0).f1, .string (BH ks 0).f2, .slice A (BH ks 0).f3.length c], .int .i64 (nE : Int), .int .i64 0]) /\ (AF AY A c (BH ks 0).f3).P w' (fun k => w.heap.size <= k /\ k < w'.heap.size)
theorem N6 {w0 w : Pe} {Z : Nat -> Prop} {L : List Bj} {F : List FA} {a : FA} (S : Au w0 Z L F w) (h : a.P w Z) : Au w0 Z L (a :: F) w := ⟨S.st, fun b hb => by rcases Qg.1 hb with rfl | hb; exact h; exact S.fr b hb, S.old⟩
theorem LT {w0 w : Pe} {Z : Nat -> Prop} {L : List Bj} {F : List FA} {a : FA} (S : Au w0 Z L (a :: F) w) : Au w0 Z L F w := ⟨S.st, fun b hb => S.fr b (R9 _ hb), S.old⟩
theorem IF (x : B8) (ys : List Dm) {an ap az ak B : Option Addr} {cn cp cz ck d a1 a2 : Nat} (w : Pe) (hN : Kd.C AY w an (Bk x).N.length (Bk x).N) (hcn : (Bk x).N.length <= cn) (hK : Kd.C (Kd.slice 3 (Kd.int .i64)) w ak (Bk x).K.length (Bk x).K) (hck : (Bk x).K.length <= ck) (hE : Kd.C FW w B ys.length (ys.map Jq)) (hd : ys.length <= d) (hp : CX x) (hel : ys.length <= 10000) (hin : ∀ y ∈ ys, in64 y.f1) :
    PJ Try.prog 11 #[.agg #[.slice an (Bk x).N.length cn, .slice ap a1 cp, .slice az a2 cz, .slice ak (Bk x).K.length ck], .slice B ys.length d] w fun e w' => Below w.heap.size w w' /\ NH w ys.length (BV (Bd x) ys 0) e w' := by
  have hKl : (Bk x).K.length = (Bk x).N.length := (Dy x (-1) ⟨[], [], [], []⟩ ⟨rfl, rfl, rfl⟩).1.k;have hKm : ∀ i, ((Bk x).K.getD i []).length <= 1000 := (NW hp.sz).kle;obtain ⟨N, hNe⟩ : ∃ N, (Bk x).N = N := ⟨_, rfl⟩;obtain ⟨K, hKe⟩ : ∃ K, (Bk x).K = K := ⟨_, rfl⟩;have hlf := fun (i : Nat) (hi : i < (Bk x).N.length) => Jr hp hi
  have hgl := D4 x;have hln := hp.len;rw [hNe] at hN hcn hKl hlf hgl hln ⊢;rw [hKe] at hK hck hKl hKm hlf ⊢;have S : Au w (fun k => k < w.heap.size) [] [AF AY an cn N, AF (Kd.slice 3 (Kd.int .i64)) ak ck K, AF FW B d (ys.map Jq)] w := Au.start w (by intro a ha; simp only [Qg, Sm, or_false] at ha; rcases ha with rfl | rfl | rfl; exact ⟨hcn, Kd.C_F Cy hN⟩; exact ⟨hck, Kd.C_F (Kd.heap_slice 3 (Kd.heap_int .i64)) hK⟩; exact ⟨by rw [PM]; exact hd, Kd.C_F IU (by rw [PM]; exact hE)⟩);have hS0 := A7.mk S;obtain ⟨ls, hls⟩ : ∃ ls, (Bd x).map As = ls := ⟨_, rfl⟩;rw [hls] at hlf;have hll : ls.length = N.length := by rw [<- hls, PM, hgl]
  obtain ⟨nN, hnN⟩ : ∃ n, N.length = n := ⟨_, rfl⟩;obtain ⟨nK, hnK⟩ : ∃ n, K.length = n := ⟨_, rfl⟩;obtain ⟨nE, hnE⟩ : ∃ n, ys.length = n := ⟨_, rfl⟩;obtain ⟨R, hR⟩ : ∃ R, BV (Bd x) ys 0 = R := ⟨_, rfl⟩;have HB := A7.mk (⟨hnN, by have := hp.sz; omega, by omega, by omega, hll, hnE⟩ : N.length = nN /\ nN <= 1000 /\ nE <= 10000 /\ nK = nN /\ ls.length = N.length /\ ys.length = nE);rw [hR, hnN, hnK, hnE];rw [hnN] at hlf;have hlf := A7.mk hlf;have hKm := A7.mk hKm;have hls := A7.mk hls;have hR := A7.mk hR;have hin := A7.mk hin;have hp := A7.mk hp;have hnK := A7.mk hnK;clear hN hcn hK hck hE hd hel hKl hNe hKe hgl hln hll hnN hnE;have hu24 := Try.underlying24;have hu39 := Try.underlying39;have hu55 := Try.underlying55;have hu66 := Try.underlying66;have hu64 := Try.underlying64;have hu36 := Try.underlying36;have hu25 := Try.underlying25;have hmix : Try.prog.follows .mixedOrders = true := by kernel_rfl
  go_enter Try.func11, Try.ntmps11
  go_upto_block 0 with (first | ((with_reducible refine AE (N := 2) rfl ?_); refine Aw ?hg (N := 2) ?hd (cs := #[.slice an nN cn, .slice ap a1 cp, .slice az a2 cz, .slice ak nK ck]) (t := 39) ?hr ?_; (case hd => rfl); (case hg => rfl); (case hr => first | (go_simp; done) | (go_simp; rfl)); intro g2 hg_ w1 hbox hb; replace S := S.box hg_ hbox hb; clear hbox hb hg_) | ((with_reducible refine AE (N := 4) rfl ?_); refine Aw ?hg (N := 4) ?hd (cs := #[.int .i64 0, .string (⟨#[]⟩ : ByteArray), .string (⟨#[]⟩ : ByteArray), .slice none 0 0]) (t := 24) ?hr ?_; (case hd => rfl); (case hg => rfl); (case hr => first | (go_simp; done) | (go_simp; rfl)); intro g4 hg_ w2 hbox hb; replace S := S.box hg_ hbox hb; clear hbox hb hg_; obtain ⟨⟨u0, u1, u2, u3⟩, u4, u5, u6, u7⟩ := box4 (S.at_blk 1 rfl)))
  have S0 := A7.mk (D8 (d := CL) (e := 66) (B := w.heap.size) S);clear S u0 u1 u2 u3 u4 u5 u6 u7
  go_cut [7] (fun v7 W => ∃ A c, v7 = .slice A nN c /\ A7 (Au w (fun k => k < w.heap.size) [Bo CL 66 w.heap.size (.slice A nN c) ls, Al g4 24 #[.int .i64 0, .string (⟨#[]⟩ : ByteArray), .string (⟨#[]⟩ : ByteArray), .slice none 0 0], Al g2 39 #[.slice an nN cn, .slice ap a1 cp, .slice az a2 cz, .slice ak nK ck]] [AF AY an cn N, AF (Kd.slice 3 (Kd.int .i64)) ak ck K, AF FW B d (ys.map Jq)] W))
  case first =>
    go_wp2_with fail
    go_loopg [7, 8] (nN + 1) (fun kq v7 v8 W => ∃ (i : Nat), v8 = .int .i64 (i : Int) /\ A7 (i <= nN /\ kq = nN - i + 1) /\ A7 (Au w (fun k => k < w.heap.size) [Bo CL 66 w.heap.size v7 (ls.take i), Al g4 24 #[.int .i64 0, .string (⟨#[]⟩ : ByteArray), .string (⟨#[]⟩ : ByteArray), .slice none 0 0], Al g2 39 #[.slice an nN cn, .slice ap a1 cp, .slice az a2 cz, .slice ak nK ck]] [AF AY an cn N, AF (Kd.slice 3 (Kd.int .i64)) ak ck K, AF FW B d (ys.map Jq)] W))
    case atStart => exact ⟨0, rfl, ⟨Qa _, rfl⟩, S0⟩
    case round =>
      clear S0;obtain ⟨i, rfl, hi, SW⟩ := hrel;obtain ⟨fr, hfr, hR_⟩ := SW.out.rowOf_at (i := 0) rfl;obtain ⟨Av, cv, ev⟩ := Kd.R_slice hR_;have hLT := A7.mk (show (ls.take i).length = i by rw [Pp]; have := hi.out.1; have := HB.out; omega);rw [hLT.out] at ev;subst ev;clear hR_ hfr fr;obtain ⟨⟨u0, u1, u2, u3⟩, u4, u5, u6, u7⟩ := box4 (SW.out.at_blk 2 rfl);by_cases hlt2 : i < nN
      · have i1 : decide ((i : Int) < (nN : Int)) = true := decide_eq_true (by omega);have i2 : (0 : Int) <= (i : Int) := by omega
        have i3 : (i : Int) < (nN : Int) := by omega
        have i4 : (i : Int) < (nK : Int) := by have := HB.out.2.2.2.1; omega
        obtain ⟨adN, A3, c3, rfl, n0, n1, n2, n3, _⟩ := Cw (SW.out.rdC 0 rfl) (i : Int) i2 (by rw [HB.out.1]; exact i3);simp only [PO] at n0 n1 n2 n3;obtain ⟨y0, hy0⟩ : ∃ y, (Aj N (i : Int)).f0 = y := ⟨_, rfl⟩;obtain ⟨y1, hy1⟩ : ∃ y, (Aj N (i : Int)).f1 = y := ⟨_, rfl⟩;obtain ⟨y2, hy2⟩ : ∃ y, (Aj N (i : Int)).f2 = y := ⟨_, rfl⟩;obtain ⟨y3, hy3⟩ : ∃ y, (Aj N (i : Int)).f3.length = y := ⟨_, rfl⟩;rw [hy0] at n0;rw [hy1] at n1;rw [hy2] at n2;rw [hy3] at n3;have hwi : Pq ((i : Int) + 1) = ((i + 1 : Nat) : Int) := by have := HB.out.2.1; unfold Pq; omega
        have hwi := A7.mk hwi;obtain ⟨kl, hkl0⟩ : ∃ kl, K.getD i [] = kl := ⟨_, rfl⟩;have hleaf : ls[i]? = some ⟨(i : Int), ⟨y0, y1, y2, []⟩, kl⟩ := by
          rw [hlf.out i hlt2, <- hy0, <- hy1, <- hy2, hkl0];unfold Aj;rw [PO]
        have hleaf := A7.mk hleaf;have hkl := A7.mk (show kl.length <= 1000 by rw [<- hkl0]; exact hKm.out i);have HL := A7.mk (⟨hlt2, hkl0⟩ : _ /\ _);clear hy0 hy1 hy2 hy3 hlt2 hkl0
        go_upto_region 6 with ((with_reducible refine AE (N := 9) rfl ?_); refine Aw ?hg (N := 9) ?hd (cs := #[.int .i64 0, .string (⟨#[]⟩ : ByteArray), .string (⟨#[]⟩ : ByteArray), .slice none 0 0]) (t := 24) ?hr ?_; (case hd => rfl); (case hg => rfl); (case hr => first | (go_simp; done) | (go_simp; rfl)); intro g9 hg_ w5 hbox hb; have S5 := A7.mk (SW.out.box hg_ hbox hb); clear hbox hb hg_; obtain ⟨⟨q0, q1, q2, q3⟩, q4, q5, q6, q7⟩ := box4 (S5.out.at_blk 0 rfl))
        replace S5 := S5.out.set4 (.int .i64 y0) (.string y1) (.string y2) (.slice A3 y3 c3);clear q0 q1 q2 q3 q4 q5 q6 q7 u0 u1 u2 u3 u4 u5 u6 u7;replace S5 := S5.perm (Qq _ _ _);obtain ⟨wq, hwq, S5⟩ := Fc S5;rw [<- hwq];clear hwq n0 n1 n2 n3;obtain ⟨adK, A5, c5, rfl, hKw, hrw⟩ := Iw hS0.out (j := 1) rfl i (by rw [hnK.out]; have := HB.out.2.2.2.1; have := HL.out.1; omega);rw [HL.out.2] at hKw hrw;have hKlt := Pb _ _ hKw;have hrd := FA.step _ hrw (fun k hk _ => S5.below.block k hk) (fun _ h => h);have SA := K9 (N6 S5 hrd) S5.below.size;clear hrd hrw;obtain ⟨⟨q0, q1, q2, q3⟩, q4, q5, q6, q7⟩ := box4 (S5.at_blk 1 rfl);obtain ⟨⟨qa0, qa1, qa2, qa3⟩, qa4, qa5, qa6, qa7⟩ := box4 (SA.at_blk 2 rfl);obtain ⟨⟨u0, u1, u2, u3⟩, u4, u5, u6, u7⟩ := box4 (S5.at_blk 3 rfl);obtain ⟨⟨ua0, ua1, ua2, ua3⟩, ua4, ua5, ua6, ua7⟩ := box4 (SA.at_blk 4 rfl);have hKc := (Cc (SA.below.block _ hKlt)).trans hKw;have hKc' := (Cc (S5.below.block _ hKlt)).trans hKw;have hKw := A7.mk (⟨hKlt, hKw⟩ : _ /\ _);clear hKlt;have S12 := SA.drew;have hC5 := S12.rdC 0 rfl;have HS := A7.mk (⟨S12.below, S12.below.size⟩ : _ /\ _);obtain ⟨ok, o1, o2, o3⟩ := DA S12;clear S12 SA;clear S5 SW
        go_region_held3 (fun w' => w'.cell? ⟨g9, 0, none⟩ = some (.int .i64 y0) /\ w'.cell? ⟨g9, 1, none⟩ = some (.string y1) /\ w'.cell? ⟨g9, 2, none⟩ = some (.string y2) /\ w'.cell? ⟨g2, 3, none⟩ = some (.slice (some adK) nK ck) /\ w'.cell? (adK.add i) = some (.slice A5 kl.length c5)) (first | (refine ⟨?_, ?_, ?_, ?_, ?_⟩ <;> assumption) | go_keep) (first
          | (refine Kd.R_append_rows_step (Kd.int .i64) (w0 := w) w.heap.size (by rfl) (.tmp 34) (.tmp 39) 36 3 (.int .i64 0) 8 (by rfl) Try.underlying36 Ca rfl (by decide) (by omega) (.slice (some ⟨wq.heap.size, 0, none⟩) 0 0) [] kl A5 kl.length c5 ok (fun _ => False) (by simp [Q1, Ph]) (by simp [Q1, Ph]) o2 hC5 (fun _ _ h => h) (fun _ h => h.elim) o1 HS.out.1 HS.out.2 (by have := hkl.out; simp only [Qu]; omega) ?_; intro v13 w13 hR13 _ hg13 _; have S13 := o3 v13 w13 _ hR13 hg13; rw [Pu] at S13 hR13; obtain ⟨A13, c13, e13⟩ := Kd.R_slice hR13; subst e13; obtain ⟨⟨x0, x1, x2, x3⟩, x4, x5, x6, x7⟩ := box4 (S13.at_blk 2 rfl); obtain ⟨⟨xa0, xa1, xa2, xa3⟩, xa4, xa5, xa6, xa7⟩ := box4 (S13.at_blk 4 rfl); have hKc3 := (Cc (S13.below.block _ hKw.out.1)).trans hKw.out.2; replace S13 := A7.mk S13; clear o1 o2 o3 hR13 hg13)
          | (obtain ⟨ok, okp, p1, p2, p3, p4, p5⟩ := S13.out.rowOf_app; refine Kd.R_append_step CL (w0 := w) w.heap.size (by rfl) (.tmp 25) (.tmp 42) 64 66 (.agg #[(.int .i64 0), (.int .i64 0), (.string ⟨#[]⟩), (.string ⟨#[]⟩), (.slice none 0 0), (.slice none 0 0)]) 96 (by rfl) Try.underlying64 FR rfl (by decide) (by omega) (.slice Av i cv) (ls.take i) (⟨(i : Int), ⟨y0, y1, y2, []⟩, kl⟩ : DD) [.int .i64 (i : Int), .int .i64 y0, .string y1, .string y2, .slice none 0 0, .slice A13 kl.length c13] ok okp (by simp [Q1, Ph]) (by simp [Q1, Ph]) (Fj _ _ _ (⟨(i : Int), ⟨y0, y1, y2, []⟩, kl⟩ : DD) (Kd.R_nil _ _ _ _ _) p4) p1 p2 p3 S13.out.below S13.out.below.size (by have := hi.out.1; have := HB.out.2.1; rw [Pp]; omega) ?_; intro v14 w14 hR14 _ hg14 _; have S14 := p5 v14 w14 _ hR14 hg14; obtain ⟨A14, c14, e14⟩ := Kd.R_slice hR14; rw [PK, hLT.out, List.length_singleton] at e14; subst e14; obtain ⟨⟨xb0, xb1, xb2, xb3⟩, xb4, xb5, xb6, xb7⟩ := box4 (S14.at_blk 1 rfl); obtain ⟨⟨xc0, xc1, xc2, xc3⟩, xc4, xc5, xc6, xc7⟩ := box4 (S14.at_blk 3 rfl); have hKc4 := (Cc (S14.below.block _ hKw.out.1)).trans hKw.out.2; replace S14 := A7.mk S14; clear p1 p2 p3 p4 p5 hR14 hg14))
        all_goals (
          go_wp2_with fail
          go_roundg (nN - i)
          case rel => exact ⟨i + 1, by rw [hwi.out], ⟨by have := HL.out.1; omega, by have := HL.out.1; omega⟩, ⟨by
            have S15 := LT (BW S14.out);rw [List.take_add_one, hleaf.out];exact S15⟩⟩
          case measure => have := hi.out; have := HL.out.1; omega)
      · have hik : i = nN := by have := hi.out.1; omega
        have i1 : decide ((i : Int) < (nN : Int)) = BK := decide_eq_false (by omega);have i1c : ¬ (i : Int) < (nN : Int) := by omega
        have SX := SW.out;rw [hik, Ql (by have := HB.out; omega)] at SX;have SX := A7.mk SX;clear SW;have hik := A7.mk hik;clear hlt2
        go_wp2_with fail
        go_meet;exact ⟨Av, cv, rfl, SX⟩
  case rest =>
    clear S0;obtain ⟨A, c, rfl, S1⟩ := hcut;have S1 := S1.out;rw [<- hls.out] at S1;have S1 := A7.mk S1
    go_wp2_with fail
    go_loopg [7, 10] (nE + 1) (fun kq v7 v10 W => ∃ (i : Nat) (A : Option Addr) (n c : Nat) (ks : List Kn), v7 = .slice A n c /\ v10 = .int .i64 (i : Int) /\ A7 (i <= nE /\ kq = nE - i + 1) /\ A7 (BV ks (ys.drop i) i = R /\ CQ ks /\ ks.length <= 1000 + i /\ ks[0]?.map (·.id) = some 0) /\ A7 (Au w (fun k => k < w.heap.size) [Bo CL 66 w.heap.size (.slice A n c) (ks.map As), Al g4 24 #[.int .i64 0, .string (⟨#[]⟩ : ByteArray), .string (⟨#[]⟩ : ByteArray), .slice none 0 0], Al g2 39 #[.slice an nN cn, .slice ap a1 cp, .slice az a2 cz, .slice ak nK ck]] [AF AY an cn N, AF (Kd.slice 3 (Kd.int .i64)) ak ck K, AF FW B d (ys.map Jq)] W))
    case atStart => exact ⟨0, A, nN, c, Bd x, rfl, rfl, ⟨Qa _, rfl⟩, ⟨hR.out, Dz hp.out, by rw [D4, hp.out.len]; have := hp.out.sz; omega, IE hp.out⟩, S1⟩
    case round =>
      clear S1;obtain ⟨i, A2, n2, c2, ks, rfl, rfl, hi, hk, SW⟩ := hrel;obtain ⟨fr, hfr, hR_⟩ := SW.out.rowOf_at (i := 0) rfl;obtain ⟨ad, cv, ev⟩ := Kd.R_slice1 hR_ (by rw [PM]; refine List.length_pos_iff.2 (fun e => ?_); have h9 := hk.out.2.2.2; rw [e] at h9; cases h9);injection ev with e1 e2 e3
      subst e1;clear e2 e3 hR_ hfr fr cv;have h0m : (0 : Int) ∈ ks.map (·.id) := by
        have h9 := hk.out.2.2.2;cases ks with
        | nil => cases h9
        | cons k r => have : k.id = 0 := by simpa using h9
                      exact PF.2 ⟨k, QY, this⟩
      have h0m := A7.mk h0m;have hgw := A7.mk (⟨BG (SW.out.at_blk 1 rfl), SW.out.below.size⟩ : _ /\ _);by_cases hlt2 : i < nE
      · have i1 : decide ((i : Int) < (nE : Int)) = true := decide_eq_true (by omega);have i2 : (0 : Int) <= (i : Int) := by omega
        have i3 : (i : Int) < (nE : Int) := by omega
        obtain ⟨adE, rfl, l0, l1, l2, l3, l4, l5, l6⟩ := M6 (SW.out.rdC 2 rfl) (i : Int) i2 (by rw [PM, HB.out.2.2.2.2.2]; exact i3);have hl : i < ys.length := by rw [HB.out.2.2.2.2.2]; exact hlt2
        obtain ⟨y, hy⟩ : ∃ y, ys[i]? = some y := ⟨_, Pg hl⟩;have hrd : Ao (ys.map Jq) (i : Int) = Jq y := by
          unfold Ao;rw [PO, Pt, PU, hy];rfl
        rw [hrd] at l0 l1 l2 l3 l4 l5 l6;simp only [PO] at l0 l1 l2 l3 l4 l5 l6;have hdr : ys.drop i = y :: ys.drop (i + 1) := by
          obtain ⟨hl, he⟩ := Pf.1 hy;rw [<- he]; exact R6 hl
        have hz64 := hin.out y (List.mem_of_getElem? hy);have hrun := hk.out.1;rw [hdr, BV] at hrun;obtain ⟨z0, z1, z2, z3, z4, z5, z6⟩ := y;dsimp only [Jq] at l0 l1 l2 l3 l4 l5 l6 hz64;obtain ⟨r, hdo⟩ : ∃ r, Ce ks ⟨z0, z1, z2, z3, z4, z5, z6⟩ = r := ⟨_, rfl⟩;rw [show Ce ks (DM ⟨z0, z1, z2, z3, z4, z5, z6⟩) = r from hdo] at hrun;have hrun := A7.mk hrun;have hdo := A7.mk hdo;have hz64 := A7.mk hz64;have HN := A7.mk hlt2;have hwi : Pq ((i : Int) + 1) = ((i + 1 : Nat) : Int) := by have := HB.out.2.2.1; unfold Pq; omega
        have hwi := A7.mk hwi;clear hlt2 hy hrd hdr hl;cases r with
        | none =>
          go_wp2_with (first | (go_at_call 23; refine (I8 (SW.out) hk.out.2.1 hk.out.2.2.2 (by have := hk.out.2.2.1; have := HB.out.2.2.1; have := hi.out.1; omega) z0 z1 z2 z3 z4 z5 z6 hz64.out).mono ?_; rw [hdo.out]; rintro e_ w5 ⟨A5, n5, c5, rfl, S5⟩; replace S5 := A7.mk S5; obtain ⟨⟨v0, v1, v2, v3⟩, v4, v5, v6, v7⟩ := box4 (S5.out.at_blk 1 rfl)))
          have S7 := (S5.out.perm (Qq _ _ _)).set4 (.int .i64 0) (.string (⟨#[]⟩ : ByteArray)) (.string (⟨#[]⟩ : ByteArray)) (.slice none 0 0);refine Qf (DF rfl _ _ g4 24 #[.int .i64 0, .string (⟨#[]⟩ : ByteArray), .string (⟨#[]⟩ : ByteArray), .slice none 0 0] (0, 0) _ rfl (S7.at_blk 0 rfl) Try.underlying24 rfl (by kernel_rfl)) rfl ?_;refine ⟨S7.below, ?_⟩;rw [<- hrun.out];rfl
        | some ks' =>
          go_wp2_with (first | (go_at_call 23; refine (I8 (SW.out) hk.out.2.1 hk.out.2.2.2 (by have := hk.out.2.2.1; have := HB.out.2.2.1; have := hi.out.1; omega) z0 z1 z2 z3 z4 z5 z6 hz64.out).mono ?_; rw [hdo.out]; rintro e_ w5 ⟨A5, n5, c5, rfl, S5⟩; replace S5 := A7.mk S5))
          go_roundg (nE - i)
          case rel => exact ⟨i + 1, A5, n5, c5, ks', rfl, by rw [hwi.out], ⟨by have := HN.out; omega, by have := HN.out; omega⟩, ⟨hrun.out, Fp hk.out.2.1 hz64.out hdo.out, by have := Gj hdo.out; have := hk.out.2.2.1; omega, K8 hk.out.2.1 hk.out.2.2.2 hdo.out⟩, S5⟩
          case measure => have := hi.out; have := HN.out; omega
      · have hik : i = nE := by have := hi.out.1; omega
        have i1 : decide ((i : Int) < (nE : Int)) = BK := decide_eq_false (by omega);have i1c : ¬ (i : Int) < (nE : Int) := by omega
        have hrun := hk.out.1;rw [List.drop_of_length_le (by rw [HB.out.2.2.2.2.2, hik]; exact Ps _), BV] at hrun;have hrun := A7.mk hrun;obtain ⟨t, ht⟩ : ∃ t, BH ks 0 = t := ⟨_, rfl⟩;have ht := A7.mk ht;have hik := A7.mk hik;clear hlt2
        go_wp2_with (first | (go_at_call 24; refine (NG SW.out (i := 0) rfl hk.out.2.1 (by have := hk.out.2.2.1; have := HB.out.2.2.1; have := hi.out.1; omega) h0m.out).mono ?_; rw [ht.out]; rintro e_ w6 ⟨A6, c6, rfl, hb1, hP6⟩; have S6 := A7.mk (SW.out.call hb1 (F' := [AF AY A6 c6 t.f3]) (by intro a ha; rw [PC] at ha; subst ha; exact hP6)); replace hP6 := A7.mk hP6; clear hb1; obtain ⟨⟨v0, v1, v2, v3⟩, v4, v5, v6, v7⟩ := box4 (S6.out.at_blk 1 rfl)))
        have S7 := (S6.out.perm (Qq _ _ _)).set4 (.int .i64 t.f0) (.string t.f1) (.string t.f2) (.slice A6 t.f3.length c6);refine Qf (DF rfl _ _ g4 24 #[.int .i64 t.f0, .string t.f1, .string t.f2, .slice A6 t.f3.length c6] (0, 0) _ rfl (S7.at_blk 0 rfl) Try.underlying24 rfl (by kernel_rfl)) rfl ?_;refine ⟨S7.below, ?_⟩;rw [<- hrun.out];refine ⟨A6, c6, by rw [ht.out]; rfl, ?_⟩;rw [ht.out];refine (AF AY A6 c6 t.f3).step hP6.out (fun k hk hl => ?_) (fun k hk => ⟨Qo hgw.out.2 hk.1, Nat.lt_of_lt_of_le hk.2 ?_⟩)
        · have hn : k ≠ g4 := by have := hgw.out.1; have := hk.1; omega
          exact (QI _ _ _ k hn).trans ((QI _ _ _ k hn).trans ((QI _ _ _ k hn).trans (QI _ _ _ k hn)))
        · exact ((((Pn 0 w6).setCell (Qa _) _).setCell (Qa _) _).setCell (Qa _) _).setCell (Qa _) _ |>.size
end Go.Proofs.Q
namespace Go.Proofs.Q
open Go.RowKit Go.Proofs.V.Words Go.Proofs.V.Last Go.Proofs.V.More
mutual
theorem Fy {s : PS} : ∀ (x : B8) (at_ : Nat) (p : Int) (N rest : List B8), FX s x at_ p -> N.drop at_ = pre x ++ rest -> ∀ i, at_ <= i -> i < at_ + BT x -> ∃ y q rest', FX s y i q /\ N.drop i = pre y ++ rest'
 | ⟨a, b, c, l⟩, at_, p, N, rest, h, hN, i, h0, h1 => by
  by_cases he : i = at_
  ·subst he; exact ⟨_, _, _, h, hN⟩
  ·simp only [FX, BT] at h h1;refine I9 l (at_ + 1) at_ N rest h.2.2.2 ?_ i (by omega) (by omega)
   rw [<- List.drop_drop, hN];simp [pre]
theorem I9 {s : PS} : ∀ (l : List B8) (a : Nat) (p : Int) (N rest : List B8), DE s l a p -> N.drop a = E1 l ++ rest -> ∀ i, a <= i -> i < a + BE l -> ∃ y q rest', FX s y i q /\ N.drop i = pre y ++ rest'
 | [], a, p, N, rest, h, hN, i, h0, h1 => by simp only [BE] at h1; omega
 | k :: r, a, p, N, rest, h, hN, i, h0, h1 => by
  simp only [DE, BE] at h h1;simp only [E1, PP] at hN;by_cases hc : i < a + BT k
  ·exact Fy k a p N _ h.1 hN i h0 hc
  ·refine I9 r (a + BT k) p N rest h.2 ?_ i (by omega) (by omega);rw [<- List.drop_drop, hN, <- Cm k, List.drop_left]
end
theorem GR (x : B8) (r : List B8) : ∃ q, pre x ++ r = x :: q := by
 obtain ⟨a, b, c, l⟩ := x; exact ⟨_, by simp [pre]; rfl⟩
theorem Ka {s : PS} {x : B8} {a : Nat} {p : Int} (h : FX s x a p) : s.P[a]? = some p := by obtain ⟨_, _, _, l⟩ := x; exact h.1
theorem IG {s : PS} {x : B8} {a : Nat} {p : Int} (h : FX s x a p) : s.Z[a]? = some (BT x : Int) := by obtain ⟨_, _, _, l⟩ := x; exact h.2.1
theorem Ow {s : PS} {x : B8} {a : Nat} {p : Int} (h : FX s x a p) : s.K[a]? = some (Cf x.f3 (a + 1)) := by obtain ⟨_, _, _, l⟩ := x; exact h.2.2.1
theorem N7 {s : PS} {x : B8} {a : Nat} {p : Int} (h : FX s x a p) : DE s x.f3 (a + 1) a := by obtain ⟨_, _, _, l⟩ := x; exact h.2.2.2
theorem Kb (x : B8) : BT x = 1 + BE x.f3 := by obtain ⟨_, _, _, l⟩ := x; rfl
theorem Js : ∀ (l m : List B8), BE (l ++ m) = BE l + BE m
 | [], m => by simp [BE]
 | x :: r, m => by simp only [PA, BE, Js r m]; omega
theorem GS {s : PS} : ∀ (l m : List B8) (a : Nat) (p : Int), DE s (l ++ m) a p ↔ DE s l a p /\ DE s m (a + BE l) p
 | [], m, a, p => by simp [DE, BE]
 | x :: r, m, a, p => by
  simp only [PA, DE, BE];rw [GS r m];rw [show a + BT x + BE r = a + (BT x + BE r) by omega];exact ⟨fun h => ⟨⟨h.1, h.2.1⟩, h.2.2⟩, fun h => ⟨h.1.1, h.1.2, h.2⟩⟩
theorem GT : ∀ (l m : List B8) (a : Nat), Cf (l ++ m) a = Cf l a ++ Cf m (a + BE l)
 | [], m, a => by simp [Cf, BE]
 | x :: r, m, a => by
  simp only [PA, Cf, BE, GT r m];rw [show a + BT x + BE r = a + (BT x + BE r) by omega]
theorem GU (x : B8) : 0 < BT x := by rw [Kb]; omega
mutual
theorem par {s : PS} : ∀ (x : B8) (a : Nat) (p : Int), FX s x a p -> ∀ k, a < k -> k < a + BT x -> ∃ (v : Nat) (y : B8) (q : Int), s.P[k]? = some (v : Int) /\ a <= v /\ v < k /\ FX s y v q /\ k < v + BT y
 | ⟨a0, b0, c0, l⟩, a, p, h, k, h0, h1 => by
  have h' := h;simp only [FX, BT] at h h1;rcases ON l (a + 1) a h.2.2.2 k (by omega) (by omega) with hk | ⟨v, y, q, e1, e2, e3, e4, e5⟩
  ·exact ⟨a, _, p, hk, Ps _, h0, h', by simp only [BT]; omega⟩
  ·exact ⟨v, y, q, e1, by omega, e3, e4, e5⟩
theorem ON {s : PS} : ∀ (l : List B8) (a : Nat) (p : Int), DE s l a p -> ∀ k, a <= k -> k < a + BE l -> s.P[k]? = some p \/ ∃ (v : Nat) (y : B8) (q : Int), s.P[k]? = some (v : Int) /\ a <= v /\ v < k /\ FX s y v q /\ k < v + BT y
 | [], a, p, h, k, h0, h1 => by simp only [BE] at h1; omega
 | x :: r, a, p, h, k, h0, h1 => by
  simp only [DE, BE] at h h1;by_cases hc : k < a + BT x
  ·by_cases he : k = a
   ·subst he; exact .inl (Ka h.1)
   ·exact .inr (par x a p h.1 k (by omega) hc)
  ·rcases ON r (a + BT x) p h.2 k (by omega) (by omega) with hk | ⟨v, y, q, e1, e2, e3, e4, e5⟩
   ·exact .inl hk
   ·exact .inr ⟨v, y, q, e1, by omega, e3, e4, e5⟩
end
structure DV (sP P : List Int) (i pos : Nat) : Prop where
 len : P.length = sP.length
 at_ : ∀ (k : Nat) (v : Int), sP[k]? = some v -> P[k]? = some (if v < i \/ (v = i /\ k < pos) then v else -1)
section
variable {s : PS} {x : B8} (hx : FX s x 0 (-1)) (hl : s.P.length = BT x)
include hx hl
theorem FS {k : Nat} {v : Int} (h : s.P[k]? = some v) : (k = 0 /\ v = -1) \/ ∃ (u : Nat) (y : B8) (q : Int), v = u /\ u < k /\ FX s y u q /\ k < u + BT y := by
 have hk := (Pf.1 h).1;by_cases h0 : k = 0
 ·subst h0;rw [Ka hx] at h;injection h with h
  exact .inl ⟨rfl, h.symm⟩
 ·obtain ⟨u, y, q, e1, _, e3, e4, e5⟩ := par x 0 (-1) hx k (by omega) (by omega);rw [h] at e1;injection e1 with e1
  exact .inr ⟨u, y, q, e1, e3, e4, e5⟩
theorem DV.start : DV s.P (Pz (BT x) (-1)) 0 1 := by
 refine ⟨by simp [hl], fun k v h => ?_⟩;have hk := (Pf.1 h).1;rw [List.getElem?_replicate, if_pos (by omega)]
 congr 1
 rcases FS hx hl h with ⟨_, hv⟩ | ⟨u, y, q, hv, hu, _, _⟩
 ·subst hv; simp
 ·rw [if_neg];intro hc;rcases hc with hc | hc <;> omega
omit hx in
theorem DV.step {P : List Int} {i pos : Nat} {y : B8} {q : Int} {j : Nat} {kid : B8} (h : DV s.P P i pos) (hy : FX s y i q) (hj : y.f3[j]? = some kid) (hpos : pos = i + 1 + BE (y.f3.take j)) :
  DV s.P (P.set pos (i : Int)) i (pos + BT kid) /\ pos < BT x := by
 have hjl := (Pf.1 hj).1;have hsplit : y.f3 = y.f3.take j ++ kid :: y.f3.drop (j + 1) := by
  have e : y.f3[j] = kid := (Pf.1 hj).2;rw [<- e, <- R6 hjl, Ro]
 have hL := N7 hy;rw [hsplit, GS] at hL;obtain ⟨_, hL⟩ := hL;simp only [DE] at hL;rw [show i + 1 + BE (y.f3.take j) = pos by omega] at hL;have hkid := hL.1;have hPp := Ka hkid;have hpl := (Pf.1 hPp).1;refine ⟨⟨by simp [h.len], fun k v hv => ?_⟩, by omega⟩;by_cases hk : k = pos
 ·subst hk;rw [hPp] at hv;injection hv with hv
  rw [Q0 (by rw [h.len]; exact hpl), <- hv];have := GU kid;rw [if_pos (Or.inr ⟨rfl, by omega⟩)]
 ·rw [List.getElem?_set_ne (Ne.symm hk), h.at_ k v hv]
  congr 1
  have hiff : (v < (i : Int) \/ (v = i /\ k < pos)) ↔ (v < (i : Int) \/ (v = i /\ k < pos + BT kid)) := by
   constructor
   ·rintro (h1 | h1)
    ·exact .inl h1
    ·exact .inr ⟨h1.1, by omega⟩
   ·rintro (h1 | h1)
    ·exact .inl h1
    ·by_cases hkp : k < pos
     ·exact .inr ⟨h1.1, hkp⟩
     ·obtain ⟨u, y', q', e1, e2, _, _, _⟩ := par kid pos i hkid k (by omega) h1.2;rw [hv] at e1;injection e1 with e1
      omega
  by_cases hc : v < (i : Int) \/ (v = i /\ k < pos)
  ·rw [if_pos hc, if_pos (hiff.1 hc)]
  ·rw [if_neg hc, if_neg (fun h => hc (hiff.2 h))]
theorem DV.next {P : List Int} {i : Nat} {y : B8} {q : Int} (h : DV s.P P i (i + 1 + BE y.f3)) (hy : FX s y i q) : DV s.P P (i + 1) (i + 2) := by
 refine ⟨h.len, fun k v hv => ?_⟩;rw [h.at_ k v hv]
 congr 1
 have hiff : (v < (i : Int) \/ (v = i /\ k < i + 1 + BE y.f3)) ↔ (v < ((i + 1 : Nat) : Int) \/ (v = ((i + 1 : Nat) : Int) /\ k < i + 2)) := by
  rcases FS hx hl hv with ⟨_, h1⟩ | ⟨u, y', q', h1, h2, h3, h4⟩
  ·subst h1;constructor
   ·intro _; exact .inl (by omega)
   ·intro _; exact .inl (by omega)
  ·constructor
   ·rintro (h5 | h5)
    ·exact .inl (by omega)
    ·exact .inl (by omega)
   ·rintro (h5 | h5)
    ·by_cases hvi : v = (i : Int)
     ·right;refine ⟨hvi, ?_⟩;have hu : u = i := by omega
      subst hu;have e1 := IG h3;rw [IG hy] at e1;injection e1 with e1
      have e2 := Kb y;omega
     ·exact .inl (by omega)
    ·omega
 by_cases hc : v < (i : Int) \/ (v = i /\ k < i + 1 + BE y.f3)
 ·rw [if_pos hc, if_pos (hiff.1 hc)]
 ·rw [if_neg hc, if_neg (fun h => hc (hiff.2 h))]
theorem DV.fin {P : List Int} (h : DV s.P P (BT x) (BT x + 1)) : P = s.P := by
 apply RK;intro k;cases hk : s.P[k]? with
 | none => rw [QC (by rw [h.len]; exact List.getElem?_eq_none_iff.1 hk)]
 | some v =>
  rw [h.at_ k v hk];have hkl := (Pf.1 hk).1;rw [if_pos];rcases FS hx hl hk with ⟨_, h1⟩ | ⟨u, y', q', h1, h2, h3, h4⟩
  ·exact .inl (by omega)
  ·exact .inl (by omega)
end
theorem OO (x : B8) : (Bk x).Z = (Bk x).N.map fun y => (BT y : Int) := by
 obtain ⟨w1, ag, lay⟩ := Dy x (-1) ⟨[], [], [], []⟩ ⟨rfl, rfl, rfl⟩;have hN : (Bk x).N = pre x := J0 x;have hZl : (Bk x).Z.length = (Bk x).N.length := w1.z;apply RK;intro k;by_cases hk : k < BT x
 ·obtain ⟨y, q, rest, hy, hd⟩ := Fy x 0 (-1) (pre x) [] lay (by simp) k (by omega) (by omega);obtain ⟨r2, hr2⟩ := GR y rest;have h1 : (pre x)[k]? = some y := by
   have : ((pre x).drop k)[0]? = some y := by rw [hd, hr2]; rfl
   simpa using this
  have h2 : (Bk x).Z[k]? = some (BT y : Int) := IG hy;rw [h2, PU, hN, h1];rfl
 ·rw [QC (by rw [hZl, hN, Cm]; omega), QC (by rw [PM, hN, Cm]; omega)]
theorem Ox (x : B8) {i : Nat} {y : B8} (h : (Bk x).N[i]? = some y) : ∃ q, FX (Bk x) y i q := by
 obtain ⟨w1, ag, lay⟩ := Dy x (-1) ⟨[], [], [], []⟩ ⟨rfl, rfl, rfl⟩;rw [J0] at h;have hl := (Pf.1 h).1;rw [Cm] at hl;obtain ⟨v, q, rest, hv, hN⟩ := Fy x 0 (-1) (pre x) [] lay (by simp) i (by omega) (by omega);obtain ⟨w, hw⟩ := GR v rest;have : ((pre x).drop i)[0]? = some v := by rw [hN, hw]; rfl
 simp only [Qk, Nat.add_zero] at this;rw [h] at this;injection this with this
 exact ⟨q, this ▸ hv⟩
theorem KP (x : B8) {i : Nat} {y : B8} (h : (Bk x).N[i]? = some y) : BT y <= BT x := by
 obtain ⟨w1, ag, lay⟩ := Dy x (-1) ⟨[], [], [], []⟩ ⟨rfl, rfl, rfl⟩;rw [J0] at h;have hl := (Pf.1 h).1;rw [Cm] at hl;obtain ⟨v, q, rest, hv, hN⟩ := Fy x 0 (-1) (pre x) [] lay (by simp) i (by omega) (by omega);obtain ⟨w, hw⟩ := GR v rest;have h1 : ((pre x).drop i)[0]? = some v := by rw [hN, hw]; rfl
 simp only [Qk, Nat.add_zero] at h1;rw [h] at h1;injection h1 with h1
 have h2 := congrArg List.length hN;rw [List.length_drop, PK, Cm, Cm] at h2;rw [h1]; omega
end Go.Proofs.Q
namespace Go.Proofs.Q
open Go.RowKit Go.Proofs.V.Words Go.Proofs.V.Last Go.Proofs.V.More Go.Proofs.V.SL
attribute [local go_sem] BI BJ BY BZ Bu Bv BL BM
theorem GV {α : Type} : ∀ {l : List α} {i : Nat} {a : α}, l[i]? = some a -> l.Perm (a :: l.eraseIdx i)
 | [], _, _, h => by simp at h
 | b :: r, 0, a, h => by simp at h; subst h; exact List.Perm.refl _
 | b :: r, i + 1, a, h => by
  have h1 := GV (l := r) (i := i) (a := a) (by simpa using h);exact (List.Perm.cons b h1).trans (Qq a b _)
theorem Jt {P : Program} {ops : Array Oper} {o : Oper} {rest : List Oper} {a : Act} {Q : Exit -> Act -> Pe -> Prop} {W : Pe} (hgd : o.guard = none) (s x : Operand) (t e : TypeId) (z : Pd) (size Qz : Nat)
  (ho : o.op = .call { callee := .builtin .append, args := #[s, x], argTypes := #[t, t] })
  (ht : P.underlying t = some (.slice e)) (hinfo : (P.info? e).map (fun i => (i.zero, i.size, i.bytes)) = some (some z, size, Qz)) (hz : z.cells.size = size) (hs0 : 0 < size) (hb0 : 0 < Qz)
  (v u : Pd) (n : Nat) (xs ys : List Pd) (hs : a.eval s = v) (hx : a.eval x = u) (h1 : ∀ u ∈ ys, u.oneCell' = true)
  (HO : W.ownsRow 0 e size v n xs) (HX : W.ownsRow 0 e size u 1 ys) (hl : (n + 1) * Qz <= 140737488355328)
  (h : ∀ v1 w1, w1.ownsRow 0 e size v1 (n + 1) (xs ++ ys) -> W.grownBy w1 v.ownBlock -> (v1.ownBlock = v.ownBlock \/ ∃ b, v1.ownBlock = some b /\ W.heap.size <= b) -> wpList P ops Q rest (a.put o.dst v1) w1) : wpList P ops Q (o :: rest) a W := by
 refine wpList_plain hgd fun K hK => ?_
 have hw : PR o (yielded ops a.tmps) = true := by simp [PR, hgd]
 have h2 := CI (K := K) (Q := Q) hw s x t e z size Qz ho ht hinfo hz hs0 hb0 v u n xs ys hs hx h1 HO HX hl (fun v1 w1 a b c => hK _ _ (h v1 w1 a b c))
 rwa [if_pos hw] at h2
def rof.T5 : Bool × List (List Nat × List Nat) := (true, [([], []), ([0], [0]), ([], []), ([2], [2]), ([], []), ([3, 4], [3, 4]), ([5], [5]), ([], []), ([6, 7], [6, 7]), ([8], [8]), ([1, 9, 8], [1, 9]), ([0, 1, 2, 3, 4, 5, 6, 7, 8, 9, 10], []), ([11, 10, 10, 0, 1, 2, 3, 4, 5, 6, 7, 8, 9, 10], [10, 11])])
def rof.B5 : List Nat := [0, 1, 0, 4, 0, 28, 60, 0, 252, 508, 1023, 2047, 4095]
theorem rof.tab5 : Cd .any (DP Try.f12 5) = rof.T5 := by kernel_rfl
theorem rof.bits5 : C0 rof.T5.2 rof.B5 = true := by kernel_rfl
def rof.T16 : Bool × List (List Nat × List Nat) := (true, [([], []), ([0], [0]), ([], []), ([], []), ([3], [3]), ([], []), ([4, 5], [4, 5]), ([6], [6]), ([], []), ([8], [8]), ([7, 9], [7, 9]), ([1, 2, 0, 1, 2, 3, 4, 5, 6, 7, 8, 9, 10], [1, 2]), ([11, 10, 10, 0, 1, 2, 3, 4, 5, 6, 7, 8, 9, 10], [10, 11])])
def rof.B16 : List Nat := [0, 1, 0, 0, 8, 0, 56, 120, 0, 256, 1016, 2047, 4095]
theorem rof.tab16 : Cd .any (DP Try.f12 16) = rof.T16 := by kernel_rfl
theorem rof.bits16 : C0 rof.T16.2 rof.B16 = true := by kernel_rfl
def PL (g n : Nat) (vn p z k : Pd) (P Zs : List Int) (us : List Pd) (K : List (List Int)) (X : List Bj) : List Bj :=
 Al g 39 #[vn, p, z, k] :: Bw p 3 1 n (BB P) :: Bw z 3 1 n (BB Zs) :: Bw k 36 1 n us :: Ei (Eg us K) :: X
theorem PL.start {w0 w : Pe} {Z : Nat -> Prop} {g : Nat} {vn : Pd} {X : List Bj} (h : St w0 Z (Al g 39 #[vn, .slice none 0 0, .slice none 0 0, .slice none 0 0] :: X) w) :
  St w0 Z (PL g 0 vn (.slice none 0 0) (.slice none 0 0) (.slice none 0 0) [] [] [] [] X) w := by
 have he : St w0 Z (Ei [] :: Al g 39 #[vn, .slice none 0 0, .slice none 0 0, .slice none 0 0] :: X) w := by
  obtain ⟨f, hf, hd⟩ := h.hs;exact ⟨h.below, h.zlt, f, ⟨fun _ => False, f, fun k => by simp, fun k h1 => h1.elim, fun k h1 => h1, hf⟩, hd⟩
 have h4 := ((he.row_nil 36 1).row_nil 3 1).row_nil 3 1;exact h4.perm (Rf (l₁ := [Bw (.slice none 0 0) 3 1 0 [], Bw (.slice none 0 0) 3 1 0 [], Bw (.slice none 0 0) 36 1 0 [], Ei []]))
structure OP (w' : Pe) (Z' : Nat -> Prop) (s : PS) (An : Option Addr) (cn : Nat) (Ap : Option Addr) (cp : Nat) (Az : Option Addr) (cz : Nat) (Ak : Option Addr) (ck : Nat) : Prop where
 f : ∀ a ∈ [AF AY An cn s.N, AF (Kd.int .i64) Ap cp s.P, AF (Kd.int .i64) Az cz s.Z, AF (Kd.slice 3 (Kd.int .i64)) Ak ck s.K], a.P w' Z'
theorem NI (y : B8) (m : Int) (h1 : (BT y : Int) <= m) (h2 : m <= 1000000) : ∃ k, Bp.f k y.f0 y.f1 y.f2 y.f3 m = some (BT y : Int) := by
 have h := Er y m (by have := GU y; omega) h2;rw [Ql (by rw [Cm]; omega)] at h;obtain ⟨k, hk⟩ := h.has;refine ⟨k, ?_⟩;unfold Bp.f;rw [hk, Option.bind_some, Cm]
theorem PL.out {w0 w : Pe} {Z : Nat -> Prop} {g n : Nat} {vn p z k : Pd} {P Zs : List Int} {us : List Pd} {K : List (List Int)} {X : List Bj} (h : St w0 Z (PL g n vn p z k P Zs us K X) w) (hP : P.length = n) (hZ : Zs.length = n) (hu : us.length = n) (hK : K.length = n) :
  Kd.R (Kd.int .i64) 3 w w0.heap.size (fun _ => True) p P /\ Kd.R (Kd.int .i64) 3 w w0.heap.size (fun _ => True) z Zs /\ Kd.S (Kd.slice 3 (Kd.int .i64)) 36 w w0.heap.size (fun _ => True) k K := by
 have hp : (PL g n vn p z k P Zs us K X)[1]? = some (Bw p 3 1 n (BB P)) := rfl;have hz : (PL g n vn p z k P Zs us K X)[2]? = some (Bw z 3 1 n (BB Zs)) := rfl;have hk : (PL g n vn p z k P Zs us K X)[3]? = some (Bw k 36 1 n us) := rfl;have hg : (PL g n vn p z k P Zs us K X)[4]? = some (Ei (Eg us K)) := rfl;have op := h.row_out hp; have oz := h.row_out hz; have ok_ := h.row_out hk;refine ⟨Kd.R_of_own (enc := PE .i64) (by rw [hP]; exact op.1) (fun k hk => trivial), Kd.R_of_own (enc := PE .i64) (by rw [hZ]; exact oz.1) (fun k hk => trivial), ?_⟩;obtain ⟨f, hr⟩ := IX (ok := fun q => True /\ some q ≠ k.ownBlock) h hg (hu.trans hK.symm) (fun j u hj q hq => by
  have hl : j < K.length := by rw [hK, <- hu]; exact (Pf.1 hj).1
  exact ⟨trivial, h.row_sub_apart hk hg (En hj (Pg hl)) (by decide) q hq⟩)
 exact ⟨f, fun q hq => trivial, us, by rw [List.length_zipIdx, hK]; exact ok_.1, hr⟩
def KQ (g n : Nat) (vn p z k : Pd) (P Zs : List Int) (us : List Pd) (K : List (List Int)) (sz : Int) (X : List Bj) (b : Nat -> Bool) (tt zz : Pd) : List Bj :=
 [Al g 39 #[vn, p, cond (b 12) zz z, k], Bw p 3 1 n (BB P), cond (b 10) (Bw zz 3 1 (n + 1) (BB Zs ++ [.int .i64 sz])) (Bw z 3 1 n (BB Zs)), Bw k 36 1 n us, Ei (Eg us K), cond (b 9) (Bw tt 3 1 1 [.int .i64 sz]) IN] ++ X
def EG (g n : Nat) (vn p z k : Pd) (P Zs : List Int) (us : List Pd) (K : List (List Int)) (i : Nat) (kl : List Int) (kk : Int) (X : List Bj) (b : Nat -> Bool) (tt uu : Pd) : List Bj :=
 [Al g 39 #[vn, p, z, k], Bw p 3 1 n (BB P), Bw z 3 1 n (BB Zs), Bw k 36 1 n (cond (b 12) (us.set i uu) us), Ei (cond (b 10) ((Eg us K).set i (Bw uu 3 1 (kl.length + 1) (BB kl ++ [.int .i64 kk]))) (Eg us K)), cond (b 9) (Bw tt 3 1 1 [.int .i64 kk]) IN] ++ X
theorem LU (x : B8) (m : Int) (hm : (BT x : Int) <= m) (hm2 : m <= 1000000) (A0 : Option Addr) (c0 : Nat) (w : Pe) (Z : Nat -> Prop) (hZ : ∀ k, Z k -> k < w.heap.size) (hc0 : x.f3.length <= c0) (hF : Kd.F AY w Z A0 x.f3.length x.f3) :
  PJ Try.prog 12 #[.agg #[.int .i64 x.f0, .string x.f1, .string x.f2, .slice A0 x.f3.length c0], .int .i64 m] w fun e w' => ∃ (An : Option Addr) (cn : Nat) (Ap : Option Addr) (cp : Nat) (Az : Option Addr) (cz : Nat) (Ak : Option Addr) (ck : Nat), e = .returned (.agg #[.slice An (Bk x).N.length cn, .slice Ap (Bk x).P.length cp, .slice Az (Bk x).Z.length cz, .slice Ak (Bk x).K.length ck]) /\ OP w' (fun k => Z k \/ (w.heap.size <= k /\ k < w'.heap.size)) (Bk x) An cn Ap cp Az cz Ak ck /\ Below w.heap.size w w' := by
 have hnp := GU x;obtain ⟨kn, hkn⟩ := (Er x m (by omega) hm2).has;rw [Ql (by rw [Cm]; omega), <- J0] at hkn;replace hkn := A7.mk hkn;obtain ⟨hw1, _, hlay⟩ := Dy x (-1) ⟨[], [], [], []⟩ ⟨rfl, rfl, rfl⟩;have hNl : (Bk x).N.length = BT x := by rw [J0, Cm]
 have hPl : (Bk x).P.length = BT x := hw1.p.trans hNl;have hZl : (Bk x).Z.length = BT x := hw1.z.trans hNl;have hKl : (Bk x).K.length = BT x := hw1.k.trans hNl;have hlay : FX (Bk x) x 0 (-1) := hlay;clear hw1;have S : Au w (fun k => k < w.heap.size) [] [Jz AY Z A0 c0 x.f3] w := Au.start w (by intro a ha; rw [PC] at ha; subst ha; exact ⟨hc0, hF, hZ⟩);replace hZ := A7.mk hZ;clear hF hc0;have hu24 := Try.underlying24;have hu39 := Try.underlying39;obtain ⟨n, hn⟩ : ∃ n, n = BT x := ⟨_, rfl⟩;rw [<- hn] at hNl hPl hZl hKl hnp hm;obtain ⟨pN, hpN⟩ : ∃ q, q = (Bk x).N := ⟨_, rfl⟩;rw [<- hpN] at hNl hkn;replace hNl := A7.mk hNl;replace hpN := A7.mk hpN;replace hn := A7.mk hn;replace hPl := A7.mk hPl;replace hZl := A7.mk hZl;replace hKl := A7.mk hKl;go_enter Try.func12, Try.ntmps12
 go_wp2_with (first | ((with_reducible refine AE (N := 2) rfl ?_); refine Aw ?hg (N := 2) ?hd (cs := #[.int .i64 x.f0, .string x.f1, .string x.f2, .slice A0 x.f3.length c0]) (t := 24) ?hr ?_; (case hd => rfl); (case hg => rfl); (case hr => first | (go_simp; done) | (go_simp; rfl)); intro g2 hg_ w1 hbox hb; replace S := S.box hg_ hbox hb; clear hbox hb hg_; obtain ⟨⟨g2_0, g2_1, g2_2, g2_3⟩, g2_4, g2_5, g2_6, g2_7⟩ := box4 (S.at_blk 0 rfl)) | ((with_reducible refine AE (N := 4) rfl ?_); refine Aw ?hg (N := 4) ?hd (cs := #[.slice none 0 0, .slice none 0 0, .slice none 0 0, .slice none 0 0]) (t := 39) ?hr ?_; (case hd => rfl); (case hg => rfl); (case hr => first | (go_simp; done) | (go_simp; rfl)); intro g4 hg_ w2 hbox hb; replace S := S.box hg_ hbox hb; clear hbox hb hg_; clear g2_0 g2_1 g2_2 g2_3 g2_4 g2_5 g2_6 g2_7; obtain ⟨⟨g4_0, g4_1, g4_2, g4_3⟩, g4_4, g4_5, g4_6, g4_7⟩ := box4 (S.at_blk 0 rfl); obtain ⟨⟨g2_0, g2_1, g2_2, g2_3⟩, g2_4, g2_5, g2_6, g2_7⟩ := box4 (S.at_blk 1 rfl)) | ((with_reducible refine Bs (f := 25) rfl ?_); (try (refine DZ (by rfl) ?_; dsimp only)); refine Cv (some 12) rfl rfl Try.func25 (by kernel_rfl) rfl #[.agg #[.int .i64 x.f0, .string x.f1, .string x.f2, .slice A0 x.f3.length c0], .int .i64 m] rfl (by (try simp only [PN, Py, PZ]); first | done | rfl) ?_; refine (AC.calls kn x.f0 x.f1 x.f2 Z A0 c0 x.f3 m _ _ (Kd.V_mk (S.rdo 0 rfl).1 (S.rdo 0 rfl).2.1) hkn.out).mono ?_; rintro e w3 ⟨vn, rfl, hn_, hb⟩; refine ⟨_, rfl, ?_⟩; have hw2 := A7.mk S.below.size; obtain ⟨An, cn, rfl, hln_, hFn_⟩ := Kd.N_V (base' := 0) (Kd.N_bound hn_); replace S := S.callZ hb (F' := [Jz AY (fun k => (Z k \/ w2.heap.size <= k) /\ k < w3.heap.size) An cn pN]) (by intro a ha; rw [PC] at ha; subst ha; exact ⟨hln_, hFn_, fun k hk => hk.1.elim (fun h_ => .inl (hZ.out k h_)) (fun h_ => .inr ⟨h_, hk.2⟩)⟩); clear hb hn_ hln_ hFn_; clear g4_0 g4_1 g4_2 g4_3 g4_4 g4_5 g4_6 g4_7; clear g2_0 g2_1 g2_2 g2_3 g2_4 g2_5 g2_6 g2_7; obtain ⟨⟨g4_0, g4_1, g4_2, g4_3⟩, g4_4, g4_5, g4_6, g4_7⟩ := box4 (S.at_blk 0 rfl); obtain ⟨⟨g2_0, g2_1, g2_2, g2_3⟩, g2_4, g2_5, g2_6, g2_7⟩ := box4 (S.at_blk 1 rfl)) | ((with_reducible refine AE (N := 5) rfl ?_); refine Aw ?hg (N := 5) ?hd (cs := #[.slice none 0 0, .slice none 0 0, .slice none 0 0, .slice none 0 0]) (t := 39) ?hr ?_; (case hd => rfl); (case hg => rfl); (case hr => first | (go_simp; done) | (go_simp; rfl)); intro g5 hg_ w4 hbox hb; replace S := S.box hg_ hbox hb; clear hbox hb hg_; clear g4_0 g4_1 g4_2 g4_3 g4_4 g4_5 g4_6 g4_7; clear g2_0 g2_1 g2_2 g2_3 g2_4 g2_5 g2_6 g2_7; obtain ⟨⟨g5_0, g5_1, g5_2, g5_3⟩, g5_4, g5_5, g5_6, g5_7⟩ := box4 (S.at_blk 0 rfl); obtain ⟨⟨g4_0, g4_1, g4_2, g4_3⟩, g4_4, g4_5, g4_6, g4_7⟩ := box4 (S.at_blk 1 rfl); obtain ⟨⟨g2_0, g2_1, g2_2, g2_3⟩, g2_4, g2_5, g2_6, g2_7⟩ := box4 (S.at_blk 2 rfl)) | ((with_reducible refine Dt (t := 39) (p := 5) (v := .tmp 13) rfl ?_); refine D9 ?hg (t := 39) (p := 5) (v := .tmp 13) ?ho ?hN (w1 := ?wq_1) ?hr ?_; (case hg => rfl); (case ho => rfl); (case hN => rfl); (case hr => first | (go_simp; done) | (go_simp; rfl)); intro w5 hw_; replace S := S.set4 (.slice An pN.length cn) (.slice none 0 0) (.slice none 0 0) (.slice none 0 0); rw [<- hw_] at S; clear hw_; clear g5_0 g5_1 g5_2 g5_3 g5_4 g5_5 g5_6 g5_7; clear g4_0 g4_1 g4_2 g4_3 g4_4 g4_5 g4_6 g4_7; clear g2_0 g2_1 g2_2 g2_3 g2_4 g2_5 g2_6 g2_7; obtain ⟨⟨g5_0, g5_1, g5_2, g5_3⟩, g5_4, g5_5, g5_6, g5_7⟩ := box4 (S.at_blk 0 rfl); obtain ⟨⟨g4_0, g4_1, g4_2, g4_3⟩, g4_4, g4_5, g4_6, g4_7⟩ := box4 (S.at_blk 1 rfl); obtain ⟨⟨g2_0, g2_1, g2_2, g2_3⟩, g2_4, g2_5, g2_6, g2_7⟩ := box4 (S.at_blk 2 rfl)))
 replace S : Au w (fun k => k < w.heap.size \/ (w2.heap.size <= k /\ k < w3.heap.size)) (PL g5 0 (.slice An pN.length cn) (.slice none 0 0) (.slice none 0 0) (.slice none 0 0) [] [] [] [] [Al g4 39 #[.slice none 0 0, .slice none 0 0, .slice none 0 0, .slice none 0 0], Al g2 24 #[.int .i64 x.f0, .string x.f1, .string x.f2, .slice A0 x.f3.length c0]]) [Jz AY (fun k => (Z k \/ w2.heap.size <= k) /\ k < w3.heap.size) An cn pN, Jz AY Z A0 c0 x.f3] w5 := S.with (PL.start S.st)
 clear g5_0 g5_1 g5_2 g5_3 g5_4 g5_5 g5_6 g5_7; clear g4_0 g4_1 g4_2 g4_3 g4_4 g4_5 g4_6 g4_7; clear g2_0 g2_1 g2_2 g2_3 g2_4 g2_5 g2_6 g2_7
 go_loopg [6] n (fun kq v6 w'' => ∃ (ii : Int) (i : Nat) (p z k : Pd) (P Zs : List Int) (us : List Pd) (KK : List (List Int)), v6 = .int .i64 ii /\ A7 (ii = (i : Int)) /\ i <= n /\ kq = n - i /\ A7 (P = Pz i (-1) /\ Zs = (pN.take i).map (fun y => (BT y : Int)) /\ us = Pz i (.slice none 0 0) /\ KK = Pz i []) /\ Au w (fun k => k < w.heap.size \/ (w2.heap.size <= k /\ k < w3.heap.size)) (PL g5 i (.slice An pN.length cn) p z k P Zs us KK [Al g4 39 #[.slice none 0 0, .slice none 0 0, .slice none 0 0, .slice none 0 0], Al g2 24 #[.int .i64 x.f0, .string x.f1, .string x.f2, .slice A0 x.f3.length c0]]) [Jz AY (fun k => (Z k \/ w2.heap.size <= k) /\ k < w3.heap.size) An cn pN, Jz AY Z A0 c0 x.f3] w'')
 case atStart => exact ⟨0, 0, _, _, _, [], [], [], [], rfl, ⟨rfl⟩, Qa _, rfl, ⟨rfl, rfl, rfl, rfl⟩, S⟩
 case round =>
  clear S;obtain ⟨ii, i, p, z, k, P, Zs, us, KK, rfl, hii, hi, hgk, hst, S⟩ := hrel;obtain ⟨wb, rfl⟩ : ∃ q, q = wr := ⟨_, rfl⟩;have hq := (box4 (S.at_blk 0 rfl)).1;have hq0 := hq.1;by_cases hin : ii < (pN.length : Int)
  · have hib := decide_eq_true hin;have p0 : 0 <= ii := by have := hii.out; omega
    obtain ⟨ad, cs, eA, hcl, hFK, hcc, hok⟩ := Kd.F_get (S.rdo 0 rfl).2.1 D0 ii p0 hin;subst eA;have hzb := (S.rdo 0 rfl).2.2 _ (hok (by decide));obtain ⟨y, hy⟩ : ∃ y, y = pN.getD ii.toNat D0 := ⟨_, rfl⟩;rw [<- hy] at hFK;have hyi : pN[i]? = some y := by have : i < pN.length := (by have := hii.out; omega); rw [hy, hii.out]; simp [Pt, Pg this]
    obtain ⟨A3, c3, rfl, hl3, hF3⟩ := CP hFK;have hx0 : wb.cell? (ad.add (ii.toNat * 4)) = some (.int .i64 y.f0) := hcc 0 _ rfl;have hx1 : wb.cell? ⟨(ad.add (ii.toNat * 4)).block, (ad.add (ii.toNat * 4)).off + 1, none⟩ = some (.string y.f1) := by rw [<- Bh _ _ 1 (by omega)]; exact hcc 1 _ rfl
    have hx2 : wb.cell? ⟨(ad.add (ii.toNat * 4)).block, (ad.add (ii.toNat * 4)).off + 2, none⟩ = some (.string y.f2) := by rw [<- Bh _ _ 2 (by omega)]; exact hcc 2 _ rfl
    have hx3 : wb.cell? ⟨(ad.add (ii.toNat * 4)).block, (ad.add (ii.toNat * 4)).off + 3, none⟩ = some (.slice A3 y.f3.length c3) := by rw [<- Bh _ _ 3 (by omega)]; exact hcc 3 _ rfl
    have hab : (ad.add (ii.toNat * 4)).block = ad.block := EH _ _;have hys : BT y <= n := by rw [hn.out]; exact KP x (hpN.out ▸ hyi)
    obtain ⟨ks, hks⟩ := NI y m (by omega) hm2;obtain ⟨sz, hsz⟩ : ∃ sz : Int, sz = BT y := ⟨_, rfl⟩;rw [<- hsz] at hks;replace hks := A7.mk hks;replace hsz := A7.mk hsz;replace hab := A7.mk hab;replace hyi := A7.mk hyi;replace hys := A7.mk hys;have hin' := hin;replace p0 := eq_true p0;replace hin := eq_true hin;have hib2 := A7.mk hin';clear hin' hcc hcl hFK hy hq hok;go_wp2;obtain ⟨Az_, cz_, eZ⟩ := BF (S.rowAt 2 rfl);obtain ⟨Ap_, cp_, eP⟩ := BF (S.rowAt 1 rfl);obtain ⟨Ak_, ck_, eK⟩ := BF (S.rowAt 3 rfl);subst eZ eP eK;have Sd := S.keep (AD (Pn wb.heap.size wb));have hx0d := ((AD (Pn wb.heap.size wb)).cell (Pb _ _ hx0)).trans hx0;have hx1d := ((AD (Pn wb.heap.size wb)).cell (Pb _ _ hx1)).trans hx1;have hx2d := ((AD (Pn wb.heap.size wb)).cell (Pb _ _ hx2)).trans hx2;have hx3d := ((AD (Pn wb.heap.size wb)).cell (Pb _ _ hx3)).trans hx3;have hF3d := Kd.F_drew hF3;have hokZ : ∀ k, (fun k => (Z k \/ w2.heap.size <= k) /\ k < w3.heap.size) k -> (fun k => k < w.heap.size \/ (w2.heap.size <= k /\ k < w3.heap.size)) k := (S.rdo 0 rfl).2.2;have hi6 : i <= 1000000 := by omega
    clear hx0 hx1 hx2 hx3 hF3 S;have E : (St w (fun k => k < w.heap.size \/ (w2.heap.size <= k /\ k < w3.heap.size)) (KQ g5 i (.slice (some ad) pN.length cn) (.slice Ap_ i cp_) (.slice Az_ i cz_) (.slice Ak_ i ck_) P Zs us KK sz [Al g4 39 #[.slice none 0 0, .slice none 0 0, .slice none 0 0, .slice none 0 0], Al g2 24 #[.int .i64 x.f0, .string x.f1, .string x.f2, .slice A0 x.f3.length c0]] (fun _ => BK) (.bool BK) (.bool BK)) wb.drew /\ BS w (fun k => k < w.heap.size \/ (w2.heap.size <= k /\ k < w3.heap.size)) wb.drew wb.drew) :=
      ⟨Sd.st.emp_new.perm (Rf (l₁ := [Al g5 39 #[.slice (some ad) pN.length cn, .slice Ap_ i cp_, .slice Az_ i cz_, .slice Ak_ i ck_], Bw (.slice Ap_ i cp_) 3 1 i (BB P), Bw (.slice Az_ i cz_) 3 1 i (BB Zs), Bw (.slice Ak_ i ck_) 36 1 i us, Ei (Eg us KK)])).symm, BS.refl _ _ _⟩
    refine Cu (n := 13) (S := fun w' => True) (ds := []) #[BK, BK, BK, BK, BK, BK, BK, BK, BK, BK, BK, BK, BK] (by kernel_rfl) rfl rfl trivial (fun hHeld => ?_);refine BQ rof.tab5 rof.bits5 (fun HT_ HW_ => ?_);generalize wb.drew = w5d at E Sd hx0d hx1d hx2d hx3d hF3d hHeld ⊢;refine AM (i := 0) (N := some 21) (v := ?_) (a' := ?_) #[true, BK, BK, BK, BK, BK, BK, BK, BK, BK, BK, BK, BK] rfl rfl (AA HT_.out (by kernel_rfl)) (fun _ _ _ h => h) (PD ⟨by rfl, ?_⟩) ?_ ?_;rotate_left
    · intro w';go_simp
      with_reducible rfl
    rotate_left
    · simp only [Ph, GW, Pa, NB, Ar, AB];rfl
    refine AM (i := 2) (N := some 23) (v := ?_) (a' := ?_) #[true, BK, true, BK, BK, BK, BK, BK, BK, BK, BK, BK, BK] rfl rfl (AA HT_.out (by kernel_rfl)) (fun _ _ _ h => h) (PD ⟨by rfl, ?_⟩) ?_ ?_;rotate_left
    · intro w';go_simp
      with_reducible rfl
    rotate_left
    · simp only [Ph, GW, Pa, NB, Ar, AB];rfl
    refine AM (i := 4) (N := some 25) (v := ?_) (a' := ?_) #[true, BK, true, BK, true, BK, BK, BK, BK, BK, BK, BK, BK] rfl rfl (AA HT_.out (by kernel_rfl)) (fun _ _ _ h => h) (PD ⟨by rfl, ?_⟩) ?_ ?_;rotate_left
    · intro w';go_simp
      with_reducible rfl
    rotate_left
    · simp only [Ph, GW, Pa, NB, Ar, AB];rfl
    refine AM (i := 7) (N := some 28) (v := ?_) (a' := ?_) #[true, BK, true, BK, true, BK, BK, true, BK, BK, BK, BK, BK] rfl rfl (AA HT_.out (by kernel_rfl)) (fun _ _ _ h => h) (PD ⟨by rfl, ?_⟩) ?_ ?_;rotate_left
    · intro w';go_simp
      with_reducible rfl
    rotate_left
    · simp only [Ph, GW, Pa, NB, Ar, AB];rfl
    refine DY [1, 3, 5, 6, 8, 9, 10, 11, 12] (fun a0_ b a w' => ∃ (tt : Pd) (zz : Pd), a = Bm a0_ b [(1, 22, .slice Az_ i cz_), (3, 24, .slice (some ad) pN.length cn), (5, 26, .pointer (some (ad.add (ii.toNat * 4)))), (6, 27, (.agg #[.int .i64 y.f0, .string y.f1, .string y.f2, .slice A3 y.f3.length c3] : Pd)), (8, 29, .int .i64 sz), (9, 30, tt), (10, 31, zz), (11, 32, .pointer (some ⟨g5, 2, none⟩))] /\ ((St w (fun k => k < w.heap.size \/ (w2.heap.size <= k /\ k < w3.heap.size)) (KQ g5 i (.slice (some ad) pN.length cn) (.slice Ap_ i cp_) (.slice Az_ i cz_) (.slice Ak_ i ck_) P Zs us KK sz [Al g4 39 #[.slice none 0 0, .slice none 0 0, .slice none 0 0, .slice none 0 0], Al g2 24 #[.int .i64 x.f0, .string x.f1, .string x.f2, .slice A0 x.f3.length c0]] b tt zz) w' /\ BS w (fun k => k < w.heap.size \/ (w2.heap.size <= k /\ k < w3.heap.size)) w5d w'))) HT_.out HW_.out (by kernel_rfl) (by kernel_rfl) ?_ ?_ ?_
    · exact ⟨.bool BK, .bool BK, by simp only [Bm, R5, if_false], E⟩
    · skip
      clear E;refine Am ?_ ?_
      · rintro b a w' ⟨tt, zz, ha, Q_E⟩ hb_ hon hoff;refine ⟨_, rfl, fun K hK => ?_⟩;have e21 : a.tmps[21]? = some (.pointer (some ⟨g5, 2, none⟩)) := by rw [ha]; exact (AU rfl).trans rfl
        replace ha := A7.mk ha;have E := A7.mk Q_E;have hc_ : w'.cell? ⟨g5, 2, none⟩ = some (.slice Az_ i cz_) := (Aa (E.out.1.at_blk (i := 0) rfl) 2).trans (by rw [(hoff 12 (by kernel_rfl))]; rfl);refine Be (w1 := w') (v := .slice Az_ i cz_) (by rfl) rfl ?_ ?_
        · go_simp
          (try simp only [Ar])
          try rfl
        refine hK.out _ _ ⟨tt, zz, (by rw [ha.out]; exact At 0 hb_ rfl rfl rfl), Q_E⟩
      refine Am ?_ ?_
      · rintro b a w' ⟨tt, zz, ha, Q_E⟩ hb_ hon hoff;refine ⟨_, rfl, fun K hK => ?_⟩;have e23 : a.tmps[23]? = some (.pointer (some ⟨g5, 0, none⟩)) := by rw [ha]; exact (AU rfl).trans rfl
        replace ha := A7.mk ha;have E := A7.mk Q_E;have hc_ : w'.cell? ⟨g5, 0, none⟩ = some (.slice (some ad) pN.length cn) := (Aa (E.out.1.at_blk (i := 0) rfl) 0).trans rfl;refine Be (w1 := w') (v := .slice (some ad) pN.length cn) (by rfl) rfl ?_ ?_
        · go_simp
          (try simp only [Ar])
          try rfl
        refine hK.out _ _ ⟨tt, zz, (by rw [ha.out]; exact At 1 hb_ rfl rfl rfl), Q_E⟩
      refine Am ?_ ?_
      · rintro b a w' ⟨tt, zz, ha, Q_E⟩ hb_ hon hoff;refine ⟨_, rfl, fun K hK => ?_⟩;have e24 : a.tmps[24]? = some (.slice (some ad) pN.length cn) := by rw [ha]; exact Ax (e := (3, 24, .slice (some ad) pN.length cn)) 1 rfl rfl (hon 3 (by kernel_rfl)) rfl
        have e25 : a.tmps[25]? = some (.int .i64 ii) := by rw [ha]; exact (AU rfl).trans rfl
        replace ha := A7.mk ha;have E := A7.mk Q_E;refine Be (w1 := w') (v := .pointer (some (ad.add (ii.toNat * 4)))) (by rfl) rfl ?_ ?_
        · go_simp
          (try simp only [Ar])
          try rfl
        refine hK.out _ _ ⟨tt, zz, (by rw [ha.out]; exact At 2 hb_ rfl rfl rfl), Q_E⟩
      refine Am ?_ ?_
      · rintro b a w' ⟨tt, zz, ha, Q_E⟩ hb_ hon hoff;refine ⟨_, rfl, fun K hK => ?_⟩;have e26 : a.tmps[26]? = some (.pointer (some (ad.add (ii.toNat * 4)))) := by rw [ha]; exact Ax (e := (5, 26, .pointer (some (ad.add (ii.toNat * 4))))) 2 rfl rfl (hon 5 (by kernel_rfl)) rfl
        replace ha := A7.mk ha;have E := A7.mk Q_E;have hc0_ := E.out.2.cell (by first | exact hab.out ▸ hzb | exact hzb) hx0d;have hc1_ := E.out.2.cell (by first | exact hab.out ▸ hzb | exact hzb) hx1d;have hc2_ := E.out.2.cell (by first | exact hab.out ▸ hzb | exact hzb) hx2d;have hc3_ := E.out.2.cell (by first | exact hab.out ▸ hzb | exact hzb) hx3d;refine Be (w1 := w') (v := (.agg #[.int .i64 y.f0, .string y.f1, .string y.f2, .slice A3 y.f3.length c3] : Pd)) (by rfl) rfl ?_ ?_
        · go_simp
          (try simp only [Ar])
          try rfl
        refine hK.out _ _ ⟨tt, zz, (by rw [ha.out]; exact At 3 hb_ rfl rfl rfl), Q_E⟩
      refine Am ?_ ?_
      · rintro b a w' ⟨tt, zz, ha, Q_E⟩ hb_ hon hoff;refine ⟨_, rfl, fun K hK => ?_⟩;have e27 : a.tmps[27]? = some ((.agg #[.int .i64 y.f0, .string y.f1, .string y.f2, .slice A3 y.f3.length c3] : Pd)) := by rw [ha]; exact Ax (e := (6, 27, (.agg #[.int .i64 y.f0, .string y.f1, .string y.f2, .slice A3 y.f3.length c3] : Pd))) 3 rfl rfl (hon 6 (by kernel_rfl)) rfl
        have e28 : a.tmps[28]? = some (.int .i64 m) := by rw [ha]; exact (AU rfl).trans rfl
        replace ha := A7.mk ha;have E := A7.mk Q_E;refine Du Try.func17 (by kernel_rfl) rfl #[(.agg #[.int .i64 y.f0, .string y.f1, .string y.f2, .slice A3 y.f3.length c3] : Pd), .int .i64 m] (by rfl) rfl rfl (by first | (simp only [PN, Py, PZ, Q1, Qh, QG, e27, e28]; done) | (simp only [PN, Py, PZ, Q1, Qh, QG, e27, e28]; rfl)) ?_;refine (Bp.calls ks y.f0 y.f1 y.f2 A3 c3 y.f3 m sz _ (Kd.F_now (E.out.2.f hF3d (fun k h_ => .inl (hokZ k h_)))) hl3 hks.out).mono ?_;rintro e w24 ⟨rfl, hb⟩;refine ⟨_, rfl, ?_⟩;have K_ := E.out.1.keep hb;have S3_ := K_.2;refine hK.out _ _ ⟨tt, zz, (by rw [ha.out]; exact At 4 hb_ rfl rfl rfl), ⟨K_.1, E.out.2.trans S3_⟩⟩
      refine Am ?_ ?_
      · rintro b a w' ⟨tt, zz, ha, Q_E⟩ hb_ hon hoff;refine ⟨_, rfl, fun K hK => ?_⟩;have e29 : a.tmps[29]? = some (.int .i64 sz) := by rw [ha]; exact Ax (e := (8, 29, .int .i64 sz)) 4 rfl rfl (hon 8 (by kernel_rfl)) rfl
        replace ha := A7.mk ha;have E := A7.mk Q_E;refine Be (w1 := w'.alloc (.cells #[.int .i64 sz] 3)) (v := (.slice (some ⟨w'.heap.size, 0, none⟩) 1 1)) (by rfl) rfl ?_ ?_
        · go_simp
          try rfl
        have S2_ := E.out.1.lit (i := 5) (by simp only [KQ, hb_]; rfl) 3 1 1 (by decide) (by decide) [.int .i64 sz] rfl;have S3_ : (St w (fun k => k < w.heap.size \/ (w2.heap.size <= k /\ k < w3.heap.size)) (KQ g5 i (.slice (some ad) pN.length cn) (.slice Ap_ i cp_) (.slice Az_ i cz_) (.slice Ak_ i ck_) P Zs us KK sz [Al g4 39 #[.slice none 0 0, .slice none 0 0, .slice none 0 0, .slice none 0 0], Al g2 24 #[.int .i64 x.f0, .string x.f1, .string x.f2, .slice A0 x.f3.length c0]] (up b 9) (.slice (some ⟨w'.heap.size, 0, none⟩) 1 1) zz) (w'.alloc (.cells #[.int .i64 sz] 3)) /\ BS w (fun k => k < w.heap.size \/ (w2.heap.size <= k /\ k < w3.heap.size)) w5d (w'.alloc (.cells #[.int .i64 sz] 3))) := ⟨by have h_ := S2_.1; simp only [KQ, PA, Pu, Pa, NB, GW, up, PH, reduceIte, cond_true, cond_false, hb_, (hoff 10 (by kernel_rfl)), (hoff 12 (by kernel_rfl))] at h_ ⊢; exact h_, E.out.2.trans S2_.2⟩;refine hK.out _ _ ⟨(.slice (some ⟨w'.heap.size, 0, none⟩) 1 1), zz, (by rw [ha.out]; exact At 5 hb_ rfl rfl rfl), S3_⟩
      refine Am ?_ ?_
      · rintro b a w' ⟨tt, zz, ha, Q_E⟩ hb_ hon hoff;refine ⟨_, rfl, fun K hK => ?_⟩;have e22 : a.tmps[22]? = some (.slice Az_ i cz_) := by rw [ha]; exact Ax (e := (1, 22, .slice Az_ i cz_)) 0 rfl rfl (hon 1 (by kernel_rfl)) rfl
        have e30 : a.tmps[30]? = some (tt) := by rw [ha]; exact Ax (e := (9, 30, tt)) 5 rfl rfl (hon 9 (by kernel_rfl)) rfl
        replace ha := A7.mk ha;have E := A7.mk Q_E;refine CI (by rfl) (.tmp 22) (.tmp 30) 36 3 (.int .i64 0) 1 8 rfl Try.underlying36 Ca rfl (by decide) (by decide) (.slice Az_ i cz_) tt i (BB Zs) [.int .i64 sz] (Cx e22) (Cx e30) (by simp [QL]) (E.out.1.at_row (i := 2) (by simp only [KQ, hb_]; rfl)) (E.out.1.at_row (i := 5) (by simp only [KQ, (hon 9 (by kernel_rfl))]; rfl)) (by omega) ?_;intro v1 w1 ho hg hat;have S2_ := E.out.1.row_upd (i := 2) (by simp only [KQ, hb_]; rfl) ho hg hat;have S3_ : (St w (fun k => k < w.heap.size \/ (w2.heap.size <= k /\ k < w3.heap.size)) (KQ g5 i (.slice (some ad) pN.length cn) (.slice Ap_ i cp_) (.slice Az_ i cz_) (.slice Ak_ i ck_) P Zs us KK sz [Al g4 39 #[.slice none 0 0, .slice none 0 0, .slice none 0 0, .slice none 0 0], Al g2 24 #[.int .i64 x.f0, .string x.f1, .string x.f2, .slice A0 x.f3.length c0]] (up b 10) tt v1) w1 /\ BS w (fun k => k < w.heap.size \/ (w2.heap.size <= k /\ k < w3.heap.size)) w5d w1) := ⟨by have h_ := S2_.1; simp only [KQ, PA, Pu, Pa, NB, GW, up, PH, reduceIte, cond_true, cond_false, hb_, (hon 9 (by kernel_rfl)), (hoff 12 (by kernel_rfl))] at h_ ⊢; exact h_, E.out.2.trans S2_.2⟩;refine hK.out _ _ ⟨tt, v1, (by rw [ha.out]; exact At 6 hb_ rfl rfl rfl), S3_⟩
      refine Am ?_ ?_
      · rintro b a w' ⟨tt, zz, ha, Q_E⟩ hb_ hon hoff;refine ⟨_, rfl, fun K hK => ?_⟩;have e5 : a.tmps[5]? = some (.pointer (some ⟨g5, 0, none⟩)) := by rw [ha]; exact (AU rfl).trans rfl
        replace ha := A7.mk ha;have E := A7.mk Q_E;refine Be (w1 := w') (v := .pointer (some ⟨g5, 2, none⟩)) (by rfl) rfl ?_ ?_
        · go_simp
          (try simp only [Ar])
          try rfl
        refine hK.out _ _ ⟨tt, zz, (by rw [ha.out]; exact At 7 hb_ rfl rfl rfl), Q_E⟩
      refine Am ?_ ?_
      · rintro b a w' ⟨tt, zz, ha, Q_E⟩ hb_ hon hoff;refine ⟨_, rfl, fun K hK => ?_⟩;have e32 : a.tmps[32]? = some (.pointer (some ⟨g5, 2, none⟩)) := by rw [ha]; exact Ax (e := (11, 32, .pointer (some ⟨g5, 2, none⟩))) 7 rfl rfl (hon 11 (by kernel_rfl)) rfl
        have e31 : a.tmps[31]? = some (zz) := by rw [ha]; exact Ax (e := (10, 31, zz)) 6 rfl rfl (hon 10 (by kernel_rfl)) rfl
        replace ha := A7.mk ha;have E := A7.mk Q_E;have hb0_ := E.out.1.at_blk (i := 0) rfl;have hc_ : w'.cell? ⟨g5, 2, none⟩ = some (.slice Az_ i cz_) := (Aa hb0_ 2).trans (by rw [hb_]; rfl);have hf_ := Ad hb0_ 2;obtain ⟨A_, c_, en_⟩ := BF (E.out.1.at_row (i := 2) (by simp only [KQ, (hon 10 (by kernel_rfl))]; rfl));refine DG (w1 := w'.setCell ⟨g5, 2, none⟩ zz) (by rfl) rfl ?_ ?_
        · rw [en_] at e31 ⊢;go_simp
          try rfl
        have S2_ := E.out.1.set (i := 0) rfl 2 zz;have S3_ : (St w (fun k => k < w.heap.size \/ (w2.heap.size <= k /\ k < w3.heap.size)) (KQ g5 i (.slice (some ad) pN.length cn) (.slice Ap_ i cp_) (.slice Az_ i cz_) (.slice Ak_ i ck_) P Zs us KK sz [Al g4 39 #[.slice none 0 0, .slice none 0 0, .slice none 0 0, .slice none 0 0], Al g2 24 #[.int .i64 x.f0, .string x.f1, .string x.f2, .slice A0 x.f3.length c0]] (up b 12) tt zz) (w'.setCell ⟨g5, 2, none⟩ zz) /\ BS w (fun k => k < w.heap.size \/ (w2.heap.size <= k /\ k < w3.heap.size)) w5d (w'.setCell ⟨g5, 2, none⟩ zz)) := ⟨by have h_ := S2_.1; simp only [KQ, PA, Pu, Pa, NB, GW, up, PH, reduceIte, cond_true, cond_false, hb_, (hon 10 (by kernel_rfl)), (hon 9 (by kernel_rfl))] at h_ ⊢; exact h_, E.out.2.trans S2_.2⟩;refine hK.out _ _ ⟨tt, zz, (by rw [ha.out]; exact BX (v := Pc) rfl), S3_⟩
      exact CB
    · rintro b a w' hall ⟨tt, zz, ha, Q_E⟩;clear E;have hb1_ := hall 1 (by kernel_rfl);have hb3_ := hall 3 (by kernel_rfl);have hb5_ := hall 5 (by kernel_rfl);have hb6_ := hall 6 (by kernel_rfl);have hb8_ := hall 8 (by kernel_rfl);have hb9_ := hall 9 (by kernel_rfl);have hb10_ := hall 10 (by kernel_rfl);have hb11_ := hall 11 (by kernel_rfl);have hb12_ := hall 12 (by kernel_rfl);subst ha;simp only [Bm, hb1_, hb3_, hb5_, hb6_, hb8_, hb9_, hb10_, hb11_, hb12_, if_true, Ph, GW, Pa, NB];have E := A7.mk Q_E;clear Q_E;have S2_ := E.out; simp only [KQ, cond_true, hb9_, hb10_, hb12_] at S2_;clear hall hb1_ hb3_ hb5_ hb6_ hb8_ hb9_ hb10_ hb11_ hb12_;replace S2_ := Sd.of S2_;have S := (S2_.perm (Rf (l₁ := [Al g5 39 #[.slice (some ad) pN.length cn, .slice Ap_ i cp_, zz, .slice Ak_ i ck_], Bw (.slice Ap_ i cp_) 3 1 i (BB P), Bw zz 3 1 (i + 1) (BB Zs ++ [.int .i64 sz]), Bw (.slice Ak_ i ck_) 36 1 i us, Ei (Eg us KK)]))).drop;clear S2_ E Sd hx0d hx1d hx2d hx3d hF3d;obtain ⟨Azz, czz, ezz⟩ := BF (S.rowAt 2 rfl);subst ezz;obtain ⟨⟨g5_0, g5_1, g5_2, g5_3⟩, g5_4, g5_5, g5_6, g5_7⟩ := box4 (S.at_blk 0 rfl)
      go_wp2_with (first | ((with_reducible refine Bt (b := .append) (xs := #[.tmp 34, .tmp 35]) rfl ?_); at_builtin; have e_ := S.lit0 3 1 [.int .i64 (-1)] rfl; refine Jt rfl (.tmp 34) (.tmp 35) 36 3 (.int .i64 0) 1 8 rfl Try.underlying36 Ca rfl (by decide) (by decide) (.slice Ap_ i cp_) (.slice (some ⟨w'.heap.size, 0, none⟩) 1 1) i (BB P) [.int .i64 (-1)] rfl rfl (by simp [QL]) (e_.rowAt 2 rfl) (e_.rowAt 0 rfl) (by omega) ?_; intro v1_ w6 ho hg hat; replace S := (e_.updRow 2 rfl ho hg hat).drop; clear ho hg hat e_; obtain ⟨Ap2, cp2, ep_⟩ := BF (S.rowAt 1 rfl); subst ep_; clear g5_0 g5_1 g5_2 g5_3 g5_4 g5_5 g5_6 g5_7; obtain ⟨⟨g5_0, g5_1, g5_2, g5_3⟩, g5_4, g5_5, g5_6, g5_7⟩ := box4 (S.at_blk 0 rfl)) | ((with_reducible refine Dt (t := 36) (p := 37) (v := .tmp 36) rfl ?_); refine D9 ?hg (t := 36) (p := 37) (v := .tmp 36) ?ho ?hN (w1 := ?wq_2) ?hr ?_; (case hg => rfl); (case ho => rfl); (case hN => rfl); (case hr => first | (go_simp; done) | (go_simp; rfl)); intro w7 hw_; replace S := S.set41 (.slice Ap2 (i + 1) cp2); rw [<- hw_] at S; clear hw_; clear g5_0 g5_1 g5_2 g5_3 g5_4 g5_5 g5_6 g5_7; obtain ⟨⟨g5_0, g5_1, g5_2, g5_3⟩, g5_4, g5_5, g5_6, g5_7⟩ := box4 (S.at_blk 0 rfl)) | ((with_reducible refine Bt (b := .append) (xs := #[.tmp 39, .tmp 40]) rfl ?_); at_builtin; have e_ := S.lit0 36 1 [.slice none 0 0] rfl; refine Jt rfl (.tmp 39) (.tmp 40) 37 36 (.slice none 0 0) 1 24 rfl Try.underlying37 Ma rfl (by decide) (by decide) (.slice Ak_ i ck_) (.slice (some ⟨w7.heap.size, 0, none⟩) 1 1) i us [.slice none 0 0] rfl rfl (by simp [QL]) (e_.rowAt 4 rfl) (e_.rowAt 0 rfl) (by omega) ?_; intro v1_ w8 ho hg hat; replace S := (e_.updRow 4 rfl ho hg hat).drop; clear ho hg hat e_; obtain ⟨Ak2, ck2, ep_⟩ := BF (S.rowAt 3 rfl); subst ep_; clear g5_0 g5_1 g5_2 g5_3 g5_4 g5_5 g5_6 g5_7; obtain ⟨⟨g5_0, g5_1, g5_2, g5_3⟩, g5_4, g5_5, g5_6, g5_7⟩ := box4 (S.at_blk 0 rfl)) | ((with_reducible refine Dt (t := 37) (p := 42) (v := .tmp 41) rfl ?_); refine D9 ?hg (t := 37) (p := 42) (v := .tmp 41) ?ho ?hN (w1 := ?wq_3) ?hr ?_; (case hg => rfl); (case ho => rfl); (case hN => rfl); (case hr => first | (go_simp; done) | (go_simp; rfl)); intro w9 hw_; replace S := S.set43 (.slice Ak2 (i + 1) ck2); rw [<- hw_] at S; clear hw_; clear g5_0 g5_1 g5_2 g5_3 g5_4 g5_5 g5_6 g5_7; obtain ⟨⟨g5_0, g5_1, g5_2, g5_3⟩, g5_4, g5_5, g5_6, g5_7⟩ := box4 (S.at_blk 0 rfl)))
      obtain ⟨hPe, hZe, hUe, hKe⟩ := hst.out;have hul : us.length = KK.length := by rw [hUe, hKe]; simp
      replace S := S.with (S.st.sub_nil (i := 4) rfl 3 1)
      have hPL : PL g5 (i + 1) (.slice (some ad) pN.length cn) (.slice Ap2 (i + 1) cp2) (.slice Azz (i + 1) czz) (.slice Ak2 (i + 1) ck2) (P ++ [-1]) (Zs ++ [sz]) (us ++ [.slice none 0 0]) (KK ++ [[]]) [Al g4 39 #[.slice none 0 0, .slice none 0 0, .slice none 0 0, .slice none 0 0], Al g2 24 #[.int .i64 x.f0, .string x.f1, .string x.f2, .slice A0 x.f3.length c0]] = [Al g5 39 #[.slice (some ad) pN.length cn, .slice Ap2 (i + 1) cp2, .slice Azz (i + 1) czz, .slice Ak2 (i + 1) ck2], Bw (.slice Ap2 (i + 1) cp2) 3 1 (i + 1) (BB P ++ [.int .i64 (-1)]), Bw (.slice Azz (i + 1) czz) 3 1 (i + 1) (BB Zs ++ [.int .i64 sz]), Bw (.slice Ak2 (i + 1) ck2) 36 1 (i + 1) (us ++ [.slice none 0 0]), Ei (Eg us KK ++ [Bw (.slice none 0 0) 3 1 0 []])] ++ [Al g4 39 #[.slice none 0 0, .slice none 0 0, .slice none 0 0, .slice none 0 0], Al g2 24 #[.int .i64 x.f0, .string x.f1, .string x.f2, .slice A0 x.f3.length c0]] := by
        simp only [PL, BB, Qs, Py, PZ];rw [Gs hul];rfl
      have hil : i < pN.length := by have := hib2.out; have := hii.out; omega
      have hyi' := hyi.out;have hiw : Pq (ii + 1) = ((i + 1 : Nat) : Int) := by have := hii.out; unfold Pq; omega
      have hst2 : A7 (P ++ [-1] = Pz (i + 1) (-1) /\ Zs ++ [sz] = (pN.take (i + 1)).map (fun y => (BT y : Int)) /\ us ++ [.slice none 0 0] = Pz (i + 1) (.slice none 0 0) /\ KK ++ [[]] = Pz (i + 1) []) := by
        refine ⟨?_, ?_, ?_, ?_⟩
        · rw [hPe, RS]
        · rw [hZe, Qw hil, Qs, hsz.out]
          congr 1
          rw [Pg hil] at hyi';injection hyi' with hyi'
          rw [hyi']; rfl
        · rw [hUe, RS]
        · rw [hKe, RS]
      have hn1 := hNl.out;replace hst2 := A7.mk hst2;replace hiw := A7.mk hiw;replace hgk := A7.mk hgk;replace hn1 := A7.mk hn1;clear hyi' hPe hZe hUe hKe hul g5_0 g5_1 g5_2 g5_3 g5_4 g5_5 g5_6 g5_7
      go_roundg (n - (i + 1))
      case measure => have := hgk.out; have := hn1.out; omega
      case rel => exact ⟨Pq (ii + 1), i + 1, _, _, _, P ++ [-1], Zs ++ [sz], us ++ [.slice none 0 0], KK ++ [[]], by first | rfl | (simp; done), hiw.out ▸ ⟨rfl⟩, by have := hn1.out; omega, rfl, hst2.out, by rw [hPL]; exact S⟩
  · have hib := decide_eq_false hin;have hie : i = n := by have := hNl.out; have := hii.out; omega
    obtain ⟨hPe, hZe, hUe, hKe⟩ := hst.out;rw [hie] at S hPe hZe hUe hKe;have hPI : DV (Bk x).P P 0 1 := by rw [hPe, hn.out]; exact DV.start hlay (by rw [hPl.out, hn.out])
    have hZx : Zs = (Bk x).Z := by rw [hZe, Ql (by rw [hNl.out]; exact Ps _), OO, hpN.out]
    have hst2 : A7 (DV (Bk x).P P 0 1 /\ us.length = n /\ KK = (Bk x).K.take 0 ++ Pz (n - 0) []) := ⟨hPI, by rw [hUe]; simp, by rw [hKe]; simp⟩;rw [hZx] at S;replace hst2 := A7.mk hst2;clear hPI hZx hPe hZe hUe hKe hst hie hgk hi hii;obtain ⟨gP, cP, eP, _⟩ := EI (S.rowAt 1 rfl) hnp Pc;obtain ⟨gZ, cZ, eZ, _⟩ := EI (S.rowAt 2 rfl) hnp Pc;obtain ⟨gK, cK, eK, _⟩ := EI (S.rowAt 3 rfl) hnp Pc;subst eP eZ eK;go_wp2
    go_loopg [7] n (fun kq v7 w'' => ∃ (ii : Int) (i : Nat) (P : List Int) (us : List Pd) (KK : List (List Int)), v7 = .int .i64 ii /\ A7 (ii = (i : Int)) /\ i <= n /\ kq = n - i /\ A7 (DV (Bk x).P P i (i + 1) /\ us.length = n /\ KK = (Bk x).K.take i ++ Pz (n - i) []) /\ Au w (fun k => k < w.heap.size \/ (w2.heap.size <= k /\ k < w3.heap.size)) (PL g5 n (.slice An pN.length cn) (.slice (some ⟨gP, 0, none⟩) n cP) (.slice (some ⟨gZ, 0, none⟩) n cZ) (.slice (some ⟨gK, 0, none⟩) n cK) P (Bk x).Z us KK [Al g4 39 #[.slice none 0 0, .slice none 0 0, .slice none 0 0, .slice none 0 0], Al g2 24 #[.int .i64 x.f0, .string x.f1, .string x.f2, .slice A0 x.f3.length c0]]) [Jz AY (fun k => (Z k \/ w2.heap.size <= k) /\ k < w3.heap.size) An cn pN, Jz AY Z A0 c0 x.f3] w'')
    case atStart => exact ⟨0, 0, P, us, KK, rfl, ⟨rfl⟩, Qa _, rfl, hst2.out, S⟩
    case round =>
      clear S hq hq0 hst2;obtain ⟨ii, i, P, us, KK, rfl, hii, hi, hgk, hst, S⟩ := hrel;obtain ⟨wc, rfl⟩ : ∃ q, q = wr := ⟨_, rfl⟩;have hq := (box4 (S.at_blk 0 rfl)).1;have hq0 := hq.1;have hq1 := hq.2.1;have hq2 := hq.2.2.1;have hq3 := hq.2.2.2;by_cases hin : ii < (pN.length : Int)
      · have hib := decide_eq_true hin;have p0 : 0 <= ii := by have := hii.out; omega
        have hil : i < pN.length := by have := hii.out; omega
        have hiN : i < n := by have := hNl.out; omega
        obtain ⟨ad, cs, eA, hcl, hFK, hcc, hok⟩ := Kd.F_get (S.rdo 0 rfl).2.1 D0 ii p0 hin;subst eA;obtain ⟨y, hy⟩ : ∃ y, y = pN.getD ii.toNat D0 := ⟨_, rfl⟩;have hyi : pN[i]? = some y := by rw [hy, hii.out]; simp [Pt, Pg hil]
        obtain ⟨qy, hly⟩ := Ox x (hpN.out ▸ hyi);have hys : BT y <= n := by rw [hn.out]; exact KP x (hpN.out ▸ hyi)
        have hyl : y.f3.length <= BE y.f3 := Fk _;have hyn := Kb y;have hin' := A7.mk hin;have p0' := A7.mk p0;replace hil := A7.mk hil;replace hiN := A7.mk hiN;have hy2 := A7.mk hy;replace hyi := A7.mk hyi;replace hys := A7.mk hys;replace hyl := A7.mk hyl;replace hyn := A7.mk hyn;replace p0 := eq_true p0;replace hin := eq_true hin;clear hcl hFK hcc hok hy;go_wp2
        go_loopg [8, 9] y.f3.length (fun kq v8 v9 w'' => ∃ (jj : Int) (j : Nat) (kk : Int) (pos : Nat) (P : List Int) (us : List Pd) (KK : List (List Int)), v8 = .int .i64 kk /\ v9 = .int .i64 jj /\ A7 (jj = (j : Int)) /\ A7 (kk = (pos : Int) /\ pos = i + 1 + BE (y.f3.take j)) /\ j <= y.f3.length /\ kq = y.f3.length - j /\ A7 (DV (Bk x).P P i pos /\ us.length = n /\ KK = (Bk x).K.take i ++ Cf (y.f3.take j) (i + 1) :: Pz (n - (i + 1)) []) /\ Au w (fun k => k < w.heap.size \/ (w2.heap.size <= k /\ k < w3.heap.size)) (PL g5 n (.slice (some ad) pN.length cn) (.slice (some ⟨gP, 0, none⟩) n cP) (.slice (some ⟨gZ, 0, none⟩) n cZ) (.slice (some ⟨gK, 0, none⟩) n cK) P (Bk x).Z us KK [Al g4 39 #[.slice none 0 0, .slice none 0 0, .slice none 0 0, .slice none 0 0], Al g2 24 #[.int .i64 x.f0, .string x.f1, .string x.f2, .slice A0 x.f3.length c0]]) [Jz AY (fun k => (Z k \/ w2.heap.size <= k) /\ k < w3.heap.size) (some ad) cn pN, Jz AY Z A0 c0 x.f3] w'')
        case atStart =>
          obtain ⟨h1_, h2_, h3_⟩ := hst.out;exact ⟨0, 0, Pq (ii + 1), i + 1, P, us, KK, rfl, rfl, ⟨rfl⟩, ⟨by have := hii.out; have := hiN.out; unfold Pq; omega, by simp [BE]⟩, Qa _, rfl, ⟨h1_, h2_, by
            rw [h3_, show n - i = (n - (i + 1)) + 1 by have := hiN.out; omega, List.replicate_succ]; rfl⟩, S⟩
        case round =>
          clear S hq hq0 hq1 hq2 hq3;obtain ⟨jj, j, kk, pos, P, us, KK, rfl, rfl, hjj, hkk, hj, hgk2, hst2, S⟩ := hrel;obtain ⟨wd, rfl⟩ : ∃ q, q = wr := ⟨_, rfl⟩;have hq := (box4 (S.at_blk 0 rfl)).1;have hq0 := hq.1;have hq1 := hq.2.1;have hq2 := hq.2.2.1;have hq3 := hq.2.2.2;have hqf := (box4 (S.at_blk 0 rfl)).2;obtain ⟨hPI, hul, hKe⟩ := hst2.out;obtain ⟨ad', cs, eA, hcl, hFK, hcc, hok⟩ := Kd.F_get (S.rdo 0 rfl).2.1 D0 ii p0'.out hin'.out;injection eA with eA
          subst eA;rw [<- hy2.out] at hFK;obtain ⟨A3, c3, rfl, hl3, hF3⟩ := CP hFK;have hx3 : wd.cell? ⟨(ad.add (ii.toNat * 4)).block, (ad.add (ii.toNat * 4)).off + 3, none⟩ = some (.slice A3 y.f3.length c3) := by rw [<- Bh _ _ 3 (by omega)]; exact hcc 3 _ rfl
          clear hcl hFK hcc hok hF3 hl3 hq;by_cases hjl : jj < (y.f3.length : Int)
          · have hjb := decide_eq_true hjl;have hjn : j < y.f3.length := by have := hjj.out; omega
            obtain ⟨kid, hkid⟩ : ∃ kid, y.f3[j]? = some kid := ⟨_, Pg hjn⟩;obtain ⟨hPI2, hpx⟩ := DV.step (x := x) (by rw [hPl.out, hn.out]) hPI hly hkid hkk.out.2;have hpn : pos < n := by rw [hn.out]; exact hpx
            have hkt : kk.toNat = pos := by rw [hkk.out.1]; simp
            have hit : ii.toNat = i := by rw [hii.out]; simp
            have hkN : kk < (pN.length : Int) := by have := hkk.out.1; have := hNl.out; omega
            have hkb := decide_eq_true hkN;have k0 : 0 <= kk := by have := hkk.out.1; omega
            have hkn2 : kk < (n : Int) := by have := hkk.out.1; omega
            have hin2 : ii < (n : Int) := by have := hii.out; have := hiN.out; omega
            obtain ⟨hoP, hgP, ⟨tP, htP, hcP⟩, hfP⟩ := Da (S.rowAt 1 rfl) (k := kk.toNat) (by omega) (.int .i64 ii);obtain ⟨_, _, ⟨tZ, htZ, hcZ⟩, _⟩ := Da (S.rowAt 2 rfl) (k := kk.toNat) (by omega) Pc;have hZk : (Bk x).Z[pos]? = some (BT kid : Int) := by
              have hL := N7 hly;have hsplit : y.f3 = y.f3.take j ++ kid :: y.f3.drop (j + 1) := by
                have e : y.f3[j] = kid := (Pf.1 hkid).2;rw [<- e, <- R6 hjn, Ro]
              rw [hsplit, GS] at hL;have h2 := hL.2;simp only [DE] at h2;rw [show i + 1 + BE (y.f3.take j) = pos from hkk.out.2.symm] at h2;exact IG h2.1
            have etZ : tZ = .int .i64 (BT kid : Int) := by
              rw [hkt] at htZ;simp only [BB, PU, hZk, Ra] at htZ;injection htZ with htZ
              exact htZ.symm
            rw [etZ] at hcZ;obtain ⟨sz, hsz⟩ : ∃ sz : Int, sz = BT kid := ⟨_, rfl⟩;rw [<- hsz] at hcZ;have hset : (BB P).set kk.toNat (.int .i64 ii) = BB (P.set pos (i : Int)) := by rw [hkt, hii.out]; simp [BB, List.map_set]
            obtain ⟨ui, hui⟩ : ∃ ui, us[ii.toNat]? = some ui := ⟨_, Pg (by rw [hul, hit]; exact hiN.out)⟩;have hKl2 : (Bk x).K.length = n := hKl.out;have hKi : KK[ii.toNat]? = some (Cf (y.f3.take j) (i + 1)) := by
              rw [hKe, hit, List.getElem?_append_right (by rw [Pp]; omega)];have : i - ((Bk x).K.take i).length = 0 := by rw [Pp]; have := hiN.out; omega
              rw [this]; rfl
            obtain ⟨kl, hkl⟩ : ∃ kl, kl = Cf (y.f3.take j) (i + 1) := ⟨_, rfl⟩;rw [<- hkl] at hKi;have hkll : kl.length <= 1000000 := by
              rw [hkl];have h1 : ∀ (l : List B8) (a : Nat), (Cf l a).length = l.length := fun l => by
                induction l with
                | nil => intro a; rfl
                | cons k r ih => intro a; simp [Cf, ih]
              rw [h1, Pp];have := hyl.out; have := hyn.out; have := hys.out; omega
            have hinn := En hui hKi;have hkidn : BT kid <= n := by
              have h1 := Gt hkid;have h2 := FH y.f3 j;have := hyn.out; have := hys.out; omega
            have hn6 : n <= 1000000 := by omega
            have htk : BE (y.f3.take (j + 1)) = BE (y.f3.take j) + BT kid := by
              rw [Qw hjn, Js];have e : y.f3[j] = kid := (Pf.1 hkid).2;rw [e]; simp [BE]
            have hplc : Cf (y.f3.take (j + 1)) (i + 1) = kl ++ [(pos : Int)] := by
              rw [Qw hjn, GT, hkl];have e : y.f3[j] = kid := (Pf.1 hkid).2;rw [e, <- hkk.out.2]; rfl
            have hiu : ii.toNat < n := by omega
            have hgk3 := A7.mk hgk2;have hi' := A7.mk hi;replace k0 := eq_true k0;have hkN' := eq_true hkN;have hkn3 := eq_true hkn2;have hin3 := eq_true hin2;replace hsz := A7.mk hsz;replace hset := A7.mk hset;replace hui := A7.mk hui;replace hKi := A7.mk hKi;replace hkl := A7.mk hkl;replace hplc := A7.mk hplc;replace htk := A7.mk htk;replace hkt := A7.mk hkt;replace hit := A7.mk hit;replace hul := A7.mk hul;replace hKe := A7.mk hKe;replace hkid := A7.mk hkid;replace hKl2 := A7.mk hKl2;have hKl2' := hKl2;have hoPs := A7.mk hoP;have hcZ' := A7.mk hcZ;have hZk2 := A7.mk hZk;clear htP htZ hZk etZ hst2 hoP hgk2 hcZ hKl2;obtain ⟨hqf0, hqf1, hqf2, hqf3⟩ := hqf
            go_wp2_with (first | ((with_reducible refine Dt (t := 3) (p := 74) (v := .tmp 73) rfl ?_); refine D9 ?hg (t := 3) (p := 74) (v := .tmp 73) ?ho ?hN (w1 := ?wq_4) ?hr ?_; (case hg => rfl); (case ho => rfl); (case hN => rfl); (case hr => first | (go_simp; done) | (go_simp; rfl)); intro w10 hw_; replace S := S.updRow 1 rfl hoPs.out hgP (.inl rfl); rw [<- hw_] at S; clear hw_))
            replace S : Au w (fun k => k < w.heap.size \/ (w2.heap.size <= k /\ k < w3.heap.size)) (PL g5 n (.slice (some ad) pN.length cn) (.slice (some ⟨gP, 0, none⟩) n cP) (.slice (some ⟨gZ, 0, none⟩) n cZ) (.slice (some ⟨gK, 0, none⟩) n cK) (P.set pos (i : Int)) (Bk x).Z us KK [Al g4 39 #[.slice none 0 0, .slice none 0 0, .slice none 0 0, .slice none 0 0], Al g2 24 #[.int .i64 x.f0, .string x.f1, .string x.f2, .slice A0 x.f3.length c0]]) [Jz AY (fun k => (Z k \/ w2.heap.size <= k) /\ k < w3.heap.size) (some ad) cn pN, Jz AY Z A0 c0 x.f3] w10 := by
              have h_ := S;rw [hset.out] at h_;exact h_
            obtain ⟨P2, hP2⟩ : ∃ q, q = P.set pos (i : Int) := ⟨_, rfl⟩;rw [<- hP2] at S;replace hP2 := A7.mk hP2;have Sd := S.keep (AD (Pn w10.heap.size w10));clear S hq0 hq1 hq2 hq3 hqf0 hqf1 hqf2 hqf3 hcP hfP hx3 hgP hoPs;have E : (St w (fun k => k < w.heap.size \/ (w2.heap.size <= k /\ k < w3.heap.size)) (EG g5 n (.slice (some ad) pN.length cn) (.slice (some ⟨gP, 0, none⟩) n cP) (.slice (some ⟨gZ, 0, none⟩) n cZ) (.slice (some ⟨gK, 0, none⟩) n cK) P2 (Bk x).Z us KK ii.toNat kl kk [Al g4 39 #[.slice none 0 0, .slice none 0 0, .slice none 0 0, .slice none 0 0], Al g2 24 #[.int .i64 x.f0, .string x.f1, .string x.f2, .slice A0 x.f3.length c0]] (fun _ => BK) (.bool BK) (.bool BK)) w10.drew /\ BS w (fun k => k < w.heap.size \/ (w2.heap.size <= k /\ k < w3.heap.size)) w10.drew w10.drew) :=
              ⟨Sd.st.emp_new.perm (Rf (l₁ := [Al g5 39 #[.slice (some ad) pN.length cn, .slice (some ⟨gP, 0, none⟩) n cP, .slice (some ⟨gZ, 0, none⟩) n cZ, .slice (some ⟨gK, 0, none⟩) n cK], Bw (.slice (some ⟨gP, 0, none⟩) n cP) 3 1 n (BB P2), Bw (.slice (some ⟨gZ, 0, none⟩) n cZ) 3 1 n (BB (Bk x).Z), Bw (.slice (some ⟨gK, 0, none⟩) n cK) 36 1 n us, Ei (Eg us KK)])).symm, BS.refl _ _ _⟩
            refine Cu (n := 13) (S := fun w' => True) (ds := []) #[BK, BK, BK, BK, BK, BK, BK, BK, BK, BK, BK, BK, BK] (by kernel_rfl) rfl rfl trivial (fun hHeld => ?_);refine BQ rof.tab16 rof.bits16 (fun HT_ HW_ => ?_);generalize w10.drew = w16 at E Sd hHeld ⊢;refine AM (i := 0) (N := some 75) (v := ?_) (a' := ?_) #[true, BK, BK, BK, BK, BK, BK, BK, BK, BK, BK, BK, BK] rfl rfl (AA HT_.out (by kernel_rfl)) (fun _ _ _ h => h) (PD ⟨by rfl, ?_⟩) ?_ ?_;rotate_left
            · intro w';go_simp
              with_reducible rfl
            rotate_left
            · simp only [Ph, GW, Pa, NB, Ar, AB];rfl
            refine AM (i := 2) (N := some 77) (v := ?_) (a' := ?_) #[true, BK, true, BK, BK, BK, BK, BK, BK, BK, BK, BK, BK] rfl rfl (AA HT_.out (by kernel_rfl)) (fun _ _ _ h => h) (PD ⟨by rfl, ?_⟩) ?_ ?_;rotate_left
            · intro w';go_simp
              with_reducible rfl
            rotate_left
            · simp only [Ph, GW, Pa, NB, Ar, AB];rfl
            refine AM (i := 3) (N := some 78) (v := ?_) (a' := ?_) #[true, BK, true, true, BK, BK, BK, BK, BK, BK, BK, BK, BK] rfl rfl (AA HT_.out (by kernel_rfl)) (fun _ _ _ h => h) (PD ⟨by rfl, ?_⟩) ?_ ?_;rotate_left
            · intro w';go_simp
              with_reducible rfl
            rotate_left
            · simp only [Ph, GW, Pa, NB, Ar, AB];rfl
            refine AM (i := 5) (N := some 80) (v := ?_) (a' := ?_) #[true, BK, true, true, BK, true, BK, BK, BK, BK, BK, BK, BK] rfl rfl (AA HT_.out (by kernel_rfl)) (fun _ _ _ h => h) (PD ⟨by rfl, ?_⟩) ?_ ?_;rotate_left
            · intro w';go_simp
              with_reducible rfl
            rotate_left
            · simp only [Ph, GW, Pa, NB, Ar, AB];rfl
            refine AM (i := 8) (N := some 83) (v := ?_) (a' := ?_) #[true, BK, true, true, BK, true, BK, BK, true, BK, BK, BK, BK] rfl rfl (AA HT_.out (by kernel_rfl)) (fun _ _ _ h => h) (PD ⟨by rfl, ?_⟩) ?_ ?_;rotate_left
            · intro w';go_simp
              with_reducible rfl
            rotate_left
            · simp only [Ph, GW, Pa, NB, Ar, AB];rfl
            refine DY [1, 4, 6, 7, 9, 10, 11, 12] (fun a0_ b a w' => ∃ (tt : Pd) (uu : Pd), a = Bm a0_ b [(1, 76, .slice (some ⟨gK, 0, none⟩) n cK), (4, 79, .slice (some ⟨gK, 0, none⟩) n cK), (6, 81, .pointer (some ⟨gK, ii.toNat, none⟩)), (7, 82, ui), (9, 84, tt), (10, 85, uu), (11, 86, .pointer (some ⟨gK, ii.toNat, none⟩))] /\ ((St w (fun k => k < w.heap.size \/ (w2.heap.size <= k /\ k < w3.heap.size)) (EG g5 n (.slice (some ad) pN.length cn) (.slice (some ⟨gP, 0, none⟩) n cP) (.slice (some ⟨gZ, 0, none⟩) n cZ) (.slice (some ⟨gK, 0, none⟩) n cK) P2 (Bk x).Z us KK ii.toNat kl kk [Al g4 39 #[.slice none 0 0, .slice none 0 0, .slice none 0 0, .slice none 0 0], Al g2 24 #[.int .i64 x.f0, .string x.f1, .string x.f2, .slice A0 x.f3.length c0]] b tt uu) w' /\ BS w (fun k => k < w.heap.size \/ (w2.heap.size <= k /\ k < w3.heap.size)) w16 w'))) HT_.out HW_.out (by kernel_rfl) (by kernel_rfl) ?_ ?_ ?_
            · exact ⟨.bool BK, .bool BK, by simp only [Bm, R5, if_false], E⟩
            · skip
              clear E;refine Am ?_ ?_
              · rintro b a w' ⟨tt, uu, ha, Q_E⟩ hb_ hon hoff;refine ⟨_, rfl, fun K hK => ?_⟩;have e75 : a.tmps[75]? = some (.pointer (some ⟨g5, 3, none⟩)) := by rw [ha]; exact (AU rfl).trans rfl
                replace ha := A7.mk ha;have E := A7.mk Q_E;have hc_ : w'.cell? ⟨g5, 3, none⟩ = some (.slice (some ⟨gK, 0, none⟩) n cK) := (Aa (E.out.1.at_blk (i := 0) rfl) 3).trans rfl;refine Be (w1 := w') (v := .slice (some ⟨gK, 0, none⟩) n cK) (by rfl) rfl ?_ ?_
                · go_simp
                  (try simp only [Ar])
                  try rfl
                refine hK.out _ _ ⟨tt, uu, (by rw [ha.out]; exact At 0 hb_ rfl rfl rfl), Q_E⟩
              refine Am ?_ ?_
              · rintro b a w' ⟨tt, uu, ha, Q_E⟩ hb_ hon hoff;refine ⟨_, rfl, fun K hK => ?_⟩;have e78 : a.tmps[78]? = some (.pointer (some ⟨g5, 3, none⟩)) := by rw [ha]; exact (AU rfl).trans rfl
                replace ha := A7.mk ha;have E := A7.mk Q_E;have hc_ : w'.cell? ⟨g5, 3, none⟩ = some (.slice (some ⟨gK, 0, none⟩) n cK) := (Aa (E.out.1.at_blk (i := 0) rfl) 3).trans rfl;refine Be (w1 := w') (v := .slice (some ⟨gK, 0, none⟩) n cK) (by rfl) rfl ?_ ?_
                · go_simp
                  (try simp only [Ar])
                  try rfl
                refine hK.out _ _ ⟨tt, uu, (by rw [ha.out]; exact At 1 hb_ rfl rfl rfl), Q_E⟩
              refine Am ?_ ?_
              · rintro b a w' ⟨tt, uu, ha, Q_E⟩ hb_ hon hoff;refine ⟨_, rfl, fun K hK => ?_⟩;have e79 : a.tmps[79]? = some (.slice (some ⟨gK, 0, none⟩) n cK) := by rw [ha]; exact Ax (e := (4, 79, .slice (some ⟨gK, 0, none⟩) n cK)) 1 rfl rfl (hon 4 (by kernel_rfl)) rfl
                have e80 : a.tmps[80]? = some (.int .i64 ii) := by rw [ha]; exact (AU rfl).trans rfl
                replace ha := A7.mk ha;have E := A7.mk Q_E;refine Be (w1 := w') (v := .pointer (some ⟨gK, ii.toNat, none⟩)) (by rfl) rfl ?_ ?_
                · go_simp
                  (try simp only [Ar])
                  try rfl
                refine hK.out _ _ ⟨tt, uu, (by rw [ha.out]; exact At 2 hb_ rfl rfl rfl), Q_E⟩
              refine Am ?_ ?_
              · rintro b a w' ⟨tt, uu, ha, Q_E⟩ hb_ hon hoff;refine ⟨_, rfl, fun K hK => ?_⟩;have e81 : a.tmps[81]? = some (.pointer (some ⟨gK, ii.toNat, none⟩)) := by rw [ha]; exact Ax (e := (6, 81, .pointer (some ⟨gK, ii.toNat, none⟩))) 2 rfl rfl (hon 6 (by kernel_rfl)) rfl
                replace ha := A7.mk ha;have E := A7.mk Q_E;obtain ⟨_, _, ⟨t_, ht_, hc_⟩, hf_⟩ := Da (E.out.1.at_row (i := 3) (by simp only [EG, (hoff 12 (by kernel_rfl))]; rfl)) hiu Pc;have et_ : t_ = ui := Px (ht_.symm.trans hui.out);rw [et_] at hc_;refine Be (w1 := w') (v := ui) (by rfl) rfl ?_ ?_
                · go_simp
                  (try simp only [Ar])
                  try rfl
                refine hK.out _ _ ⟨tt, uu, (by rw [ha.out]; exact At 3 hb_ rfl rfl rfl), Q_E⟩
              refine Am ?_ ?_
              · rintro b a w' ⟨tt, uu, ha, Q_E⟩ hb_ hon hoff;refine ⟨_, rfl, fun K hK => ?_⟩;have e83 : a.tmps[83]? = some (.int .i64 kk) := by rw [ha]; exact (AU rfl).trans rfl
                replace ha := A7.mk ha;have E := A7.mk Q_E;refine Be (w1 := w'.alloc (.cells #[.int .i64 kk] 3)) (v := (.slice (some ⟨w'.heap.size, 0, none⟩) 1 1)) (by rfl) rfl ?_ ?_
                · go_simp
                  try rfl
                have S2_ := E.out.1.lit (i := 5) (by simp only [EG, hb_]; rfl) 3 1 1 (by decide) (by decide) [.int .i64 kk] rfl;have S3_ : (St w (fun k => k < w.heap.size \/ (w2.heap.size <= k /\ k < w3.heap.size)) (EG g5 n (.slice (some ad) pN.length cn) (.slice (some ⟨gP, 0, none⟩) n cP) (.slice (some ⟨gZ, 0, none⟩) n cZ) (.slice (some ⟨gK, 0, none⟩) n cK) P2 (Bk x).Z us KK ii.toNat kl kk [Al g4 39 #[.slice none 0 0, .slice none 0 0, .slice none 0 0, .slice none 0 0], Al g2 24 #[.int .i64 x.f0, .string x.f1, .string x.f2, .slice A0 x.f3.length c0]] (up b 9) (.slice (some ⟨w'.heap.size, 0, none⟩) 1 1) uu) (w'.alloc (.cells #[.int .i64 kk] 3)) /\ BS w (fun k => k < w.heap.size \/ (w2.heap.size <= k /\ k < w3.heap.size)) w16 (w'.alloc (.cells #[.int .i64 kk] 3))) := ⟨by have h_ := S2_.1; simp only [EG, PA, Pu, Pa, NB, GW, up, PH, reduceIte, cond_true, cond_false, hb_, (hoff 10 (by kernel_rfl)), (hoff 12 (by kernel_rfl))] at h_ ⊢; exact h_, E.out.2.trans S2_.2⟩;refine hK.out _ _ ⟨(.slice (some ⟨w'.heap.size, 0, none⟩) 1 1), uu, (by rw [ha.out]; exact At 4 hb_ rfl rfl rfl), S3_⟩
              refine Am ?_ ?_
              · rintro b a w' ⟨tt, uu, ha, Q_E⟩ hb_ hon hoff;refine ⟨_, rfl, fun K hK => ?_⟩;have e82 : a.tmps[82]? = some (ui) := by rw [ha]; exact Ax (e := (7, 82, ui)) 3 rfl rfl (hon 7 (by kernel_rfl)) rfl
                have e84 : a.tmps[84]? = some (tt) := by rw [ha]; exact Ax (e := (9, 84, tt)) 4 rfl rfl (hon 9 (by kernel_rfl)) rfl
                replace ha := A7.mk ha;have E := A7.mk Q_E;have hi5_ : (EG g5 n (.slice (some ad) pN.length cn) (.slice (some ⟨gP, 0, none⟩) n cP) (.slice (some ⟨gZ, 0, none⟩) n cZ) (.slice (some ⟨gK, 0, none⟩) n cK) P2 (Bk x).Z us KK ii.toNat kl kk [Al g4 39 #[.slice none 0 0, .slice none 0 0, .slice none 0 0, .slice none 0 0], Al g2 24 #[.int .i64 x.f0, .string x.f1, .string x.f2, .slice A0 x.f3.length c0]] b tt uu)[4]? = some (Ei (Eg us KK)) := by simp only [EG, hb_]; rfl
                refine CI (by rfl) (.tmp 82) (.tmp 84) 36 3 (.int .i64 0) 1 8 rfl Try.underlying36 Ca rfl (by decide) (by decide) ui tt kl.length (BB kl) [.int .i64 kk] (Cx e82) (Cx e84) (by simp [QL]) (E.out.1.sub_row hi5_ hinn) (E.out.1.at_row (i := 5) (by simp only [EG, (hon 9 (by kernel_rfl))]; rfl)) (by omega) ?_;intro v1 w1 ho hg hat;have S2_ := E.out.1.sub_upd hi5_ hinn (IP ho hg hat);have S3_ : (St w (fun k => k < w.heap.size \/ (w2.heap.size <= k /\ k < w3.heap.size)) (EG g5 n (.slice (some ad) pN.length cn) (.slice (some ⟨gP, 0, none⟩) n cP) (.slice (some ⟨gZ, 0, none⟩) n cZ) (.slice (some ⟨gK, 0, none⟩) n cK) P2 (Bk x).Z us KK ii.toNat kl kk [Al g4 39 #[.slice none 0 0, .slice none 0 0, .slice none 0 0, .slice none 0 0], Al g2 24 #[.int .i64 x.f0, .string x.f1, .string x.f2, .slice A0 x.f3.length c0]] (up b 10) tt v1) w1 /\ BS w (fun k => k < w.heap.size \/ (w2.heap.size <= k /\ k < w3.heap.size)) w16 w1) := ⟨by have h_ := S2_.1; simp only [EG, PA, Pu, Pa, NB, GW, up, PH, reduceIte, cond_true, cond_false, hb_, (hon 9 (by kernel_rfl)), (hoff 12 (by kernel_rfl))] at h_ ⊢; exact h_, E.out.2.trans S2_.2⟩;refine hK.out _ _ ⟨tt, v1, (by rw [ha.out]; exact At 5 hb_ rfl rfl rfl), S3_⟩
              refine Am ?_ ?_
              · rintro b a w' ⟨tt, uu, ha, Q_E⟩ hb_ hon hoff;refine ⟨_, rfl, fun K hK => ?_⟩;have e76 : a.tmps[76]? = some (.slice (some ⟨gK, 0, none⟩) n cK) := by rw [ha]; exact Ax (e := (1, 76, .slice (some ⟨gK, 0, none⟩) n cK)) 0 rfl rfl (hon 1 (by kernel_rfl)) rfl
                have e77 : a.tmps[77]? = some (.int .i64 ii) := by rw [ha]; exact (AU rfl).trans rfl
                replace ha := A7.mk ha;have E := A7.mk Q_E;refine Be (w1 := w') (v := .pointer (some ⟨gK, ii.toNat, none⟩)) (by rfl) rfl ?_ ?_
                · go_simp
                  (try simp only [Ar])
                  try rfl
                refine hK.out _ _ ⟨tt, uu, (by rw [ha.out]; exact At 6 hb_ rfl rfl rfl), Q_E⟩
              refine Am ?_ ?_
              · rintro b a w' ⟨tt, uu, ha, Q_E⟩ hb_ hon hoff;refine ⟨_, rfl, fun K hK => ?_⟩;have e86 : a.tmps[86]? = some (.pointer (some ⟨gK, ii.toNat, none⟩)) := by rw [ha]; exact Ax (e := (11, 86, .pointer (some ⟨gK, ii.toNat, none⟩))) 6 rfl rfl (hon 11 (by kernel_rfl)) rfl
                have e85 : a.tmps[85]? = some (uu) := by rw [ha]; exact Ax (e := (10, 85, uu)) 5 rfl rfl (hon 10 (by kernel_rfl)) rfl
                replace ha := A7.mk ha;have E := A7.mk Q_E;have hi4_ : (EG g5 n (.slice (some ad) pN.length cn) (.slice (some ⟨gP, 0, none⟩) n cP) (.slice (some ⟨gZ, 0, none⟩) n cZ) (.slice (some ⟨gK, 0, none⟩) n cK) P2 (Bk x).Z us KK ii.toNat kl kk [Al g4 39 #[.slice none 0 0, .slice none 0 0, .slice none 0 0, .slice none 0 0], Al g2 24 #[.int .i64 x.f0, .string x.f1, .string x.f2, .slice A0 x.f3.length c0]] b tt uu)[3]? = some (Bw (.slice (some ⟨gK, 0, none⟩) n cK) 36 1 n us) := by simp only [EG, hb_]; rfl
                obtain ⟨ho_, hg_, ⟨t_, ht_, hc_⟩, hf_⟩ := Da (E.out.1.at_row hi4_) hiu uu;obtain ⟨A_, c_, en_⟩ := BF (E.out.1.sub_row (i := 4) (j := ii.toNat) (L := (Eg us KK).set ii.toNat (Bw uu 3 1 (kl.length + 1) (BB kl ++ [.int .i64 kk]))) (by simp only [EG, (hon 10 (by kernel_rfl))]; rfl) (by rw [Q0 (by have := (Pf.1 hinn).1; exact this)]));refine DG (w1 := w'.setCell ⟨gK, ii.toNat, none⟩ uu) (by rfl) rfl ?_ ?_
                · rw [en_] at e85 ⊢;go_simp
                  try rfl
                have S2_ := E.out.1.row_upd hi4_ ho_ hg_ (.inl rfl);have S3_ : (St w (fun k => k < w.heap.size \/ (w2.heap.size <= k /\ k < w3.heap.size)) (EG g5 n (.slice (some ad) pN.length cn) (.slice (some ⟨gP, 0, none⟩) n cP) (.slice (some ⟨gZ, 0, none⟩) n cZ) (.slice (some ⟨gK, 0, none⟩) n cK) P2 (Bk x).Z us KK ii.toNat kl kk [Al g4 39 #[.slice none 0 0, .slice none 0 0, .slice none 0 0, .slice none 0 0], Al g2 24 #[.int .i64 x.f0, .string x.f1, .string x.f2, .slice A0 x.f3.length c0]] (up b 12) tt uu) (w'.setCell ⟨gK, ii.toNat, none⟩ uu) /\ BS w (fun k => k < w.heap.size \/ (w2.heap.size <= k /\ k < w3.heap.size)) w16 (w'.setCell ⟨gK, ii.toNat, none⟩ uu)) := ⟨by have h_ := S2_.1; simp only [EG, PA, Pu, Pa, NB, GW, up, PH, reduceIte, cond_true, cond_false, hb_, (hon 10 (by kernel_rfl)), (hon 9 (by kernel_rfl))] at h_ ⊢; exact h_, E.out.2.trans S2_.2⟩;refine hK.out _ _ ⟨tt, uu, (by rw [ha.out]; exact BX (v := Pc) rfl), S3_⟩
              exact CB
            · rintro b a w' hall ⟨tt, uu, ha, Q_E⟩;clear E;have hb1_ := hall 1 (by kernel_rfl);have hb4_ := hall 4 (by kernel_rfl);have hb6_ := hall 6 (by kernel_rfl);have hb7_ := hall 7 (by kernel_rfl);have hb9_ := hall 9 (by kernel_rfl);have hb10_ := hall 10 (by kernel_rfl);have hb11_ := hall 11 (by kernel_rfl);have hb12_ := hall 12 (by kernel_rfl);subst ha;simp only [Bm, hb1_, hb4_, hb6_, hb7_, hb9_, hb10_, hb11_, hb12_, if_true, Ph, GW, Pa, NB];have E := A7.mk Q_E;clear Q_E;have S2_ := E.out; simp only [EG, cond_true, hb9_, hb10_, hb12_] at S2_;clear hall hb1_ hb4_ hb6_ hb7_ hb9_ hb10_ hb11_ hb12_;replace S2_ := Sd.of S2_;have S := (S2_.perm (Rf (l₁ := [Al g5 39 #[.slice (some ad) pN.length cn, .slice (some ⟨gP, 0, none⟩) n cP, .slice (some ⟨gZ, 0, none⟩) n cZ, .slice (some ⟨gK, 0, none⟩) n cK], Bw (.slice (some ⟨gP, 0, none⟩) n cP) 3 1 n (BB P2), Bw (.slice (some ⟨gZ, 0, none⟩) n cZ) 3 1 n (BB (Bk x).Z), Bw (.slice (some ⟨gK, 0, none⟩) n cK) 36 1 n (us.set ii.toNat uu), Ei ((Eg us KK).set ii.toNat (Bw uu 3 1 (kl.length + 1) (BB kl ++ [.int .i64 kk])))]))).drop;have hlen : us.length = KK.length := by
                rw [hul.out, hKe.out]; simp only [PK, Pp, PX, List.length_replicate];have := hKl2'.out; have := hiN.out; omega
              replace S : Au w (fun k => k < w.heap.size \/ (w2.heap.size <= k /\ k < w3.heap.size)) (PL g5 n (.slice (some ad) pN.length cn) (.slice (some ⟨gP, 0, none⟩) n cP) (.slice (some ⟨gZ, 0, none⟩) n cZ) (.slice (some ⟨gK, 0, none⟩) n cK) P2 (Bk x).Z (us.set ii.toNat uu) (KK.set ii.toNat (kl ++ [kk])) [Al g4 39 #[.slice none 0 0, .slice none 0 0, .slice none 0 0, .slice none 0 0], Al g2 24 #[.int .i64 x.f0, .string x.f1, .string x.f2, .slice A0 x.f3.length c0]]) [Jz AY (fun k => (Z k \/ w2.heap.size <= k) /\ k < w3.heap.size) (some ad) cn pN, Jz AY Z A0 c0 x.f3] w' := by
                have e : Eg (us.set ii.toNat uu) (KK.set ii.toNat (kl ++ [kk])) = (Eg us KK).set ii.toNat (Bw uu 3 1 (kl.length + 1) (BB kl ++ [.int .i64 kk])) := by
                  rw [Ij _ _ hlen]; simp [BB]
                unfold PL;rw [e];exact S
              clear S2_ E Sd;have hq2 := (box4 (S.at_blk 0 rfl)).1.2.2.1;obtain ⟨_, _, ⟨tZ, htZ, hcZ⟩, _⟩ := Da (S.rowAt 2 rfl) (k := kk.toNat) (by rw [hkt.out]; exact hpn) Pc;have etZ : tZ = .int .i64 sz := by
                rw [hkt.out] at htZ;simp only [BB, PU, hZk2.out, Ra] at htZ;injection htZ with htZ
                rw [hsz.out];exact htZ.symm
              rw [etZ] at hcZ;have hjw : Pq (jj + 1) = ((j + 1 : Nat) : Int) := by have := hjj.out; have := hyl.out; have := hyn.out; have := hys.out; unfold Pq; omega
              have hkw : Pq (kk + sz) = ((pos + BT kid : Nat) : Int) := by have := hkk.out.1; have := hsz.out; unfold Pq; omega
              have hrel3 : A7 (DV (Bk x).P P2 i (pos + BT kid) /\ (us.set ii.toNat uu).length = n /\ KK.set ii.toNat (kl ++ [kk]) = (Bk x).K.take i ++ Cf (y.f3.take (j + 1)) (i + 1) :: Pz (n - (i + 1)) []) := by
                refine ⟨hP2.out ▸ hPI2, by rw [List.length_set]; exact hul.out, ?_⟩;rw [hKe.out, hit.out, List.set_append_right _ _ (by rw [Pp]; omega), hplc.out, hkk.out.1];have : i - ((Bk x).K.take i).length = 0 := by rw [Pp]; have := hiN.out; have := hKl2'.out; omega
                rw [this]; rfl
              have hpos2 : A7 (pos + BT kid = i + 1 + BE (y.f3.take (j + 1))) := ⟨by rw [htk.out]; have := hkk.out.2; omega⟩;replace hrel3 := A7.mk hrel3;replace hjw := A7.mk hjw;replace hkw := A7.mk hkw;replace hpos2 := A7.mk hpos2;clear htZ etZ hlen;go_wp2
              go_roundg (y.f3.length - (j + 1))
              case measure => have := hgk3.out; omega
              case rel => exact ⟨Pq (jj + 1), j + 1, Pq (kk + sz), pos + BT kid, P2, us.set ii.toNat uu, KK.set ii.toNat (kl ++ [kk]), rfl, rfl, ⟨hjw.out⟩, ⟨hkw.out, hpos2.out.out⟩, by omega, rfl, hrel3.out, S⟩
          · have hjb := decide_eq_false hjl;have hje : j = y.f3.length := by have := hjj.out; omega
            have hiw : Pq (ii + 1) = ((i + 1 : Nat) : Int) := by have := hii.out; have := hiN.out; have := hn; unfold Pq; omega
            have hrel2 : A7 (DV (Bk x).P P (i + 1) (i + 1 + 1) /\ us.length = n /\ KK = (Bk x).K.take (i + 1) ++ Pz (n - (i + 1)) []) := by
              have hp0 := hkk.out.2;rw [hje, List.take_length] at hp0 hKe;rw [hp0] at hPI;refine ⟨DV.next hlay (by rw [hPl.out, hn.out]) hPI hly, hul, ?_⟩;rw [hKe];have hki := Ow hly;have hkl_ := (Pf.1 hki).1;rw [Qw hkl_, PP]
              congr 1
              have e : (Bk x).K[i] = Cf y.f3 (i + 1) := (Pf.1 hki).2;rw [e]; rfl
            replace hrel2 := A7.mk hrel2;replace hiw := A7.mk hiw;replace hiN := A7.mk hiN;clear hst2 hst hPI hul hKe hje;go_wp2
            go_roundg (n - (i + 1))
            case measure => have := hgk; have := hiN.out.out; omega
            case rel => exact ⟨Pq (ii + 1), i + 1, P, us, KK, by first | rfl | (simp; done), ⟨hiw.out⟩, by have := hiN.out.out; omega, rfl, hrel2.out, S⟩
      · have hib := decide_eq_false hin;have hie : i = n := by have := hNl.out; have := hii.out; omega
        obtain ⟨hPI, hul, hKe⟩ := hst.out;rw [hie] at hPI hKe;have hPe : P = (Bk x).P := by
          rw [hn.out] at hPI;exact DV.fin hlay (by rw [hPl.out, hn.out]) hPI
        have hKe2 : KK = (Bk x).K := by
          rw [hKe, Ql (by rw [hKl.out]; exact Ps _)]; simp
        rw [hPe, hKe2] at S;replace hul := A7.mk hul;clear hst hPI hKe hPe hKe2 hie hii hgk hi;obtain ⟨⟨e0, e1, e2, e3⟩, e4, e5, e6, e7⟩ := box4 (S.at_blk 5 rfl)
        go_wp2_with (first | ((with_reducible refine Dt (t := 39) (p := 4) (v := .tmp 94) rfl ?_); refine D9 ?hg (t := 39) (p := 4) (v := .tmp 94) ?ho ?hN (w1 := ?wq_5) ?hr ?_; (case hg => rfl); (case ho => rfl); (case hN => rfl); (case hr => first | (go_simp; done) | (go_simp; rfl)); intro w20 hw_; replace S := (S.perm (GV (i := 5) rfl)).set4 (.slice An pN.length cn) (.slice (some ⟨gP, 0, none⟩) n cP) (.slice (some ⟨gZ, 0, none⟩) n cZ) (.slice (some ⟨gK, 0, none⟩) n cK); rw [<- hw_] at S; clear hw_))
        have hbk := S.at_blk 0 rfl;have hO := PL.out S.drop.st (by rw [hPl.out]) (by rw [hZl.out]) hul.out (by rw [hKl.out]);refine Qf (results_cell_row rfl _ _ g4 39 _ (0, 0) _ rfl hbk hu39 rfl rfl) rfl ?_;obtain ⟨_, _, q1_, r1⟩ := Gc hO.1;obtain ⟨_, _, q2_, r2⟩ := Gc hO.2.1;obtain ⟨_, _, q3_, r3⟩ := OC hO.2.2;injection q1_ with qa_ _ qb_
        injection q2_ with qc_ _ qd_
        injection q3_ with qe_ _ qf_
        subst qa_ qb_ qc_ qd_ qe_ qf_;refine ⟨An, cn, some ⟨gP, 0, none⟩, cP, some ⟨gZ, 0, none⟩, cZ, some ⟨gK, 0, none⟩, cK, ?_, ⟨?_⟩, S.below⟩
        · rw [<- hpN.out, hPl.out, hZl.out, hKl.out]
        · intro a ha;simp only [Qg, Sm, or_false] at ha;have hoN := S.rdo 0 rfl;rcases ha with rfl | rfl | rfl | rfl
          · rw [<- hpN.out];exact ⟨hoN.1, Kd.F_mono (Kd.F_bound hoN.2.1) (fun k hk => hk.1.1.elim (fun h_ => .inl h_) (fun h_ => .inr ⟨Qo hw2.out h_, hk.2⟩))⟩
          · exact ⟨r1.1, Kd.F_mono r1.2 (fun k hk => .inr hk)⟩
          · exact ⟨r2.1, Kd.F_mono r2.2 (fun k hk => .inr hk)⟩
          · exact ⟨r3.1, Kd.F_mono r3.2 (fun k hk => .inr hk)⟩
end Go.Proofs.Q
namespace Go.Proofs.Q
open Go Go.RowKit Go.Lib Go.Sort Go.Proofs.V.Words Go.Proofs.V.Last Go.Proofs.V.More Go.Proofs.V.SL
theorem NJ {w0 W : Pe} {Z : Nat -> Prop} {L : List Bj} {F : List FA} (S : Au w0 Z L F W) (x : B8) (m : Int) (hm : (BT x : Int) <= m) (hm2 : m <= 1000000) {A : Option Addr} {c : Nat} (i : Nat) (hi : F[i]? = some (AF AY A c x.f3)) :
  PJ Try.prog 12 #[.agg #[.int .i64 x.f0, .string x.f1, .string x.f2, .slice A x.f3.length c], .int .i64 m] W fun e w' => ∃ q : A8, e = .returned (.agg (q.u (Bk x))) /\ Au w0 (fun k => Z k \/ (W.heap.size <= k /\ k < w'.heap.size)) L (q.F (Bk x) ++ F) w' := by
 refine (LU x m hm hm2 A c W Z S.st.zlt (S.rdL i hi) (S.rd i hi).2).mono ?_;rintro e w' ⟨An, cn, Ap, cp, Az, cz, Ak, ck, rfl, hP, hb⟩;exact ⟨⟨An, cn, Ap, cp, Az, cz, Ak, ck⟩, rfl, S.callZ hb (F' := A8.F ⟨An, cn, Ap, cp, Az, cz, Ak, ck⟩ (Bk x)) (fun a ha => hP.f a ha)⟩
theorem GX : ∀ (r dx : List B8) (a : Int) (b c : ByteArray), dx.length + r.length <= 1000000 -> (∀ t ∈ r, Ev (fun k => Af.f k t.f0 t.f1 t.f2 t.f3 t.f0 t.f1 t.f2 t.f3) true) ->
    Ev (fun k => Af.l0 k (dx.length : Int) a b c (dx ++ r) a b c (dx ++ r)) true
  | [], dx, a, b, c, hn, ht => Ev.step (Ev.of fun k => by rw [Af.l0, if_neg (by simp)])
  | x :: r, dx, a, b, c, hn, ht => by
    simp only [PX] at hn;have hgo : ∀ k, Af.l0 (k + 1) (dx.length : Int) a b c (dx ++ x :: r) a b c (dx ++ x :: r) = (Af.f k x.f0 x.f1 x.f2 x.f3 x.f0 x.f1 x.f2 x.f3).bind fun t131 => (if t131 = true then (Af.l0 k ((dx.length : Int) + 1) a b c (dx ++ x :: r) a b c (dx ++ x :: r)) else (some BK)) := fun k => by
      rw [Af.l0, if_pos (by simp; omega), if_pos (by omega), if_pos (by simp; omega), F5, Ik (by omega) (by omega)]
    have ih := GX r (dx ++ [x]) a b c (by simp; omega) (fun t h => ht t (R9 _ h));refine Ev.step (Ev.congr (Ev.bind (ht x QY) (f := fun k t131 => (if t131 = true then (Af.l0 k ((dx.length : Int) + 1) a b c (dx ++ x :: r) a b c (dx ++ x :: r)) else (some BK))) (Ev.congr ih fun k => ?_)) hgo);rw [if_pos rfl];simp
theorem ET (a : Int) (b c : ByteArray) (l : List B8) (hl : l.length <= 1000000) (ht : ∀ t ∈ l, Ev (fun k => Af.f k t.f0 t.f1 t.f2 t.f3 t.f0 t.f1 t.f2 t.f3) true) : Ev (fun k => Af.f k a b c l a b c l) true := by
 have hq := GX l [] a b c (by simpa using hl) ht;simp only [Pu, Qu] at hq;refine Ev.step (Ev.congr (Ev.step (g := fun k => Af.j0 k BK a b c l a b c l) (Ev.congr hq fun k => ?_)) fun k => ?_)
 ·show Af.j0 (k + 1) BK a b c l a b c l = _
  rw [Af.j0, if_neg (by simp)]; rfl
 ·show Af.f (k + 1) _ _ _ _ _ _ _ _ = _
  rw [Af.f, if_pos rfl, if_pos rfl, if_pos rfl];simp
theorem GY {ks : List Kn} (I : CQ ks) (hl : ks.length <= 1000000) : ∀ (n : Nat) (i : Int), Ev (fun k => Af.f k (BD ks n i).f0 (BD ks n i).f1 (BD ks n i).f2 (BD ks n i).f3 (BD ks n i).f0 (BD ks n i).f1 (BD ks n i).f2 (BD ks n i).f3) true
 | 0, i => ET _ _ _ [] (by simp) (by intro t h; cases h)
 | n + 1, i => by
  rw [BD];cases hg : CY ks i with
  | none => exact ET _ _ _ [] (by simp) (by intro t h; cases h)
  | some k =>
   refine ET k.kind k.text k.trail (k.kids.map (BD ks n)) (by rw [PM]; have := I.kidsLen (Cn hg).1; omega) (fun t h => ?_);obtain ⟨y, _, rfl⟩ := PF.1 h;exact GY I hl n y
noncomputable def CH : Nat ⊕ List Kn -> B8
 | .inl _ => D0
 | .inr ks => BH ks 0
def Oy (nE : Nat) : Nat ⊕ List Kn -> Int
 | .inl i => i
 | .inr _ => nE
def Oz : Nat ⊕ List Kn -> Int
 | .inl _ => 10
 | .inr _ => 0
theorem KR : ∀ (l : List Dm) (ks : List Kn) (i : Nat) (g : List Kn), CQ ks -> (∀ y ∈ l, in64 y.f1) -> BV ks l i = .inr g -> CQ g /\ g.length <= ks.length + l.length
 | [], ks, i, g, I, hi, h => by rw [BV] at h; injection h with h; subst h; exact ⟨I, by simp⟩
 | x :: r, ks, i, g, I, hi, h => by
  rw [BV] at h
  split at h
  ·cases h
  ·rename_i k2 h2;obtain ⟨h3, h4⟩ := KR r k2 (i + 1) g (Fp I (hi x QY) h2) (fun y hy => hi y (R9 _ hy)) h;exact ⟨h3, by have := Gj h2; simp only [PX]; omega⟩
theorem N8 {x : B8} (hp : CX x) (es : List Dm) (hel : es.length <= 100000) (hin : ∀ y ∈ es, in64 y.f1) : ∀ (W : Pe) (A B : Option Addr) (c d : Nat), Kd.C AY W A (CH (BV (Bd x) es 0)).f3.length (CH (BV (Bd x) es 0)).f3 -> (CH (BV (Bd x) es 0)).f3.length <= c -> Kd.C AY W B (CH (BV (Bd x) es 0)).f3.length (CH (BV (Bd x) es 0)).f3 -> (CH (BV (Bd x) es 0)).f3.length <= d ->
  PJ Try.prog 14 #[.agg #[.int .i64 (CH (BV (Bd x) es 0)).f0, .string (CH (BV (Bd x) es 0)).f1, .string (CH (BV (Bd x) es 0)).f2, .slice A (CH (BV (Bd x) es 0)).f3.length c], .agg #[.int .i64 (CH (BV (Bd x) es 0)).f0, .string (CH (BV (Bd x) es 0)).f1, .string (CH (BV (Bd x) es 0)).f2, .slice B (CH (BV (Bd x) es 0)).f3.length d]] W fun e w' => e = .returned (.bool true) /\ Below W.heap.size W w' := by
 have h : Ev (fun k => Af.f k (CH (BV (Bd x) es 0)).f0 (CH (BV (Bd x) es 0)).f1 (CH (BV (Bd x) es 0)).f2 (CH (BV (Bd x) es 0)).f3 (CH (BV (Bd x) es 0)).f0 (CH (BV (Bd x) es 0)).f1 (CH (BV (Bd x) es 0)).f2 (CH (BV (Bd x) es 0)).f3) true := by
  cases hr : BV (Bd x) es 0 with
  | inl i => exact ET _ _ _ [] (by simp) (by intro t h; cases h)
  | inr g =>
   obtain ⟨h1, h2⟩ := KR es _ 0 g (Dz hp) hin hr;rw [D4, hp.len] at h2;have := hp.sz;exact GY h1 (by omega) (Dq g) 0
 obtain ⟨k, hk⟩ := h.has;intro W A B c d hA hc hB hd;exact Af.calls k _ _ _ A c _ _ _ _ B d _ true W hA hc hB hd hk
theorem OQ (w : Pe) (Z : Nat -> Prop) : (AF AY none 0 ([] : List B8)).P w Z := ⟨Ps _, fun W' _ => Kd.C_nil AY W'⟩
theorem LV (x : B8) {A B : Option Addr} {c d : Nat} (es : List Dm) (w : Pe) (hr : Kd.C AY w A x.f3.length x.f3) (hc : x.f3.length <= c) (he : Kd.C EY w B es.length es) (hd : es.length <= d) (hp : CX x) (hel : es.length <= 10000) (hin : ∀ e ∈ es, in64 e.f1 /\ in64 e.f2) :
  PJ Try.prog 10 #[.agg #[.int .i64 x.f0, .string x.f1, .string x.f2, .slice A x.f3.length c], .slice B es.length d] w fun e w' => ∃ A' c', e = .returned (.tuple #[.agg #[.int .i64 (CH (BV (Bd x) es 0)).f0, .string (CH (BV (Bd x) es 0)).f1, .string (CH (BV (Bd x) es 0)).f2, .slice A' (CH (BV (Bd x) es 0)).f3.length c'], .int .i64 (Oy es.length (BV (Bd x) es 0)), .int .i64 (Oz (BV (Bd x) es 0))]) /\ Below w.heap.size w w' /\ (AF AY A' c' (CH (BV (Bd x) es 0)).f3).P w' (fun k => w.heap.size <= k /\ k < w'.heap.size) := by
 refine (Ez x es w hr hc he hd hp (by omega) hin).mono ?_;intro e w' h;obtain ⟨hb, h⟩ := h;cases hq : BV (Bd x) es 0 with
 | inl i => rw [hq] at h; exact ⟨none, 0, h, hb, OQ _ _⟩
 | inr g =>
  rw [hq] at h;obtain ⟨v3, e1, hR⟩ := h;obtain ⟨A', c', rfl, hP⟩ := Gc hR;exact ⟨A', c', e1, hb, hP⟩
theorem Ke (x : B8) (ys : List Dm) {an ap az ak B : Option Addr} {cn cp cz ck d a1 a2 : Nat} (w : Pe) (hN : Kd.C AY w an (Bk x).N.length (Bk x).N) (hcn : (Bk x).N.length <= cn) (hK : Kd.C (Kd.slice 3 (Kd.int .i64)) w ak (Bk x).K.length (Bk x).K) (hck : (Bk x).K.length <= ck) (hE : Kd.C FW w B ys.length (ys.map Jq)) (hd : ys.length <= d) (hp : CX x) (hel : ys.length <= 10000) (hin : ∀ y ∈ ys, in64 y.f1) :
  PJ Try.prog 11 #[.agg #[.slice an (Bk x).N.length cn, .slice ap a1 cp, .slice az a2 cz, .slice ak (Bk x).K.length ck], .slice B ys.length d] w fun e w' => ∃ A' c', e = .returned (.tuple #[.agg #[.int .i64 (CH (BV (Bd x) ys 0)).f0, .string (CH (BV (Bd x) ys 0)).f1, .string (CH (BV (Bd x) ys 0)).f2, .slice A' (CH (BV (Bd x) ys 0)).f3.length c'], .int .i64 (Oy ys.length (BV (Bd x) ys 0)), .int .i64 (Oz (BV (Bd x) ys 0))]) /\ Below w.heap.size w w' /\ (AF AY A' c' (CH (BV (Bd x) ys 0)).f3).P w' (fun k => w.heap.size <= k /\ k < w'.heap.size) := by
 refine (IF x ys w hN hcn hK hck hE hd hp hel hin).mono ?_;intro e w' h;obtain ⟨hb, h⟩ := h;cases hq : BV (Bd x) ys 0 with
 | inl i => rw [hq] at h; exact ⟨none, 0, h, hb, OQ _ _⟩
 | inr g =>
  rw [hq] at h;obtain ⟨A', c', e1, hP⟩ := h;exact ⟨A', c', e1, hb, hP⟩
def Dj (l : List Ee) : List Dm := (l.take 60).map Ny
theorem Ju (l : List Ee) (W : Pe) (A : Option Addr) (c : Nat) (hC : Kd.C FW W A l.length l) (hc : l.length <= c) :
  PJ Try.prog 9 #[.slice A l.length c] W fun e w' => ∃ B d, e = .returned (.slice B (Dj l).length d) /\ Below W.heap.size W w' /\ (AF EY B d (Dj l)).P w' (fun k => W.heap.size <= k /\ k < w'.heap.size) := by
 have h := Jg l [] (by simp);simp only [Pu, Qu, Nat.sub_zero, PZ] at h;obtain ⟨k, hk⟩ := h.has;refine (AK.calls k A c l (Dj l) W hC hc hk).mono ?_;rintro e w' ⟨v, rfl, hR, hb⟩;obtain ⟨B, d, rfl, hP⟩ := Gc hR;exact ⟨B, d, rfl, hb, hP⟩
theorem N9 (l : List Dm) (hl : l.length <= 1000000) (W : Pe) (A : Option Addr) (c : Nat) (hC : Kd.C EY W A l.length l) (hc : l.length <= c) :
  PJ Try.prog 13 #[.slice A l.length c] W fun e w' => ∃ B d, e = .returned (.slice B l.length d) /\ Below W.heap.size W w' /\ (AF FW B d (l.map Jq)).P w' (fun k => W.heap.size <= k /\ k < w'.heap.size) := by
 have h := NV l [] (by simpa using hl);simp only [Pu, Qu, PZ] at h;obtain ⟨k, hk⟩ := h.has;refine (Br.calls k A c l (l.map Jq) W hC hc hk).mono ?_;rintro e w' ⟨v, rfl, hR, hb⟩;obtain ⟨B, d, rfl, hP⟩ := Gc hR;exact ⟨B, d, by rw [PM], hb, hP⟩
end Go.Proofs.Q
namespace Go.Proofs.Q
open Go Go.RowKit Go.Lib Go.Sort Go.Proofs.V.Words Go.Proofs.V.Last Go.Proofs.V.More Go.Proofs.V.SL
attribute [local go_sem] BI BJ BY BZ Bu Bv BL BM
theorem IH {w0 w : Pe} {Z : Nat -> Prop} {L : List Bj} {F : List FA} (S : Au w0 Z L F w) : ∃ q, q = w /\ Au w0 Z L F q := ⟨w, rfl, S⟩
theorem Ga (w : Pe) : PJ Try.prog 7 #[] w fun e w' => e = .returned (.bool true) /\ Below w.heap.size w w' := by
 have S : Au w (fun k => k < w.heap.size) [] [] w := Au.start w (by intro a ha; cases ha);have m1 := trivial;have m2 := trivial;have m3 := trivial;have hu24 := Try.underlying24;have hu22 := Try.underlying22;have hu50 := Try.underlying50;have hu44 := Try.underlying44;have hu54 := Try.underlying54;have hu29 := Try.underlying29;go_enter Try.func7, Try.ntmps7
 go_upto_region 2 with (first | (go_at_call 19; clear m1; refine (IB _ _).mono ?_; rintro e_ w1 ⟨A1, c1, rfl, hb1, hN1⟩; replace S := S.call hb1 (F' := [AF AY A1 c1 []]) (by intro a ha; rw [PC] at ha; subst ha; exact hN1); clear hb1 hN1) | ((with_reducible refine AE (N := 1) rfl ?_); refine Aw ?hg (N := 1) ?hd (cs := #[.int .i64 0, .string (⟨#[]⟩ : ByteArray), .string (⟨#[]⟩ : ByteArray), .slice none 0 0]) (t := 24) ?hr ?_; (case hd => rfl); (case hg => rfl); (case hr => first | (go_simp; done) | (go_simp; rfl)); intro ga hg_ w2 hbox hb; replace S := (S.box (t := 24) (cs := #[.int .i64 9, .string xS, .string eS, .slice A1 0 c1]) rfl (Pv w1 _) (Ah (Pn _ _) _)).box hg_ hbox hb; clear hbox hb hg_; obtain ⟨⟨t0, t1, t2, t3⟩, t4, t5, t6, t7⟩ := box4 (S.at_blk 0 rfl)))
 replace S := S.set4 (.int .i64 20) (.string (⟨#[]⟩ : ByteArray)) (.string (⟨#[]⟩ : ByteArray)) (.slice (some ⟨w1.heap.size, 0, none⟩) 1 1);clear t0 t1 t2 t3 t4 t5 t6 t7;obtain ⟨wA, hwA, S⟩ := IH S;rw [<- hwA];clear hwA
 go_upto_region 3 with (first | (go_at_call 19; clear m2; refine (IB _ _).mono ?_; rintro e_ w3 ⟨A2, c2, rfl, hb1, hN1⟩; replace S := S.call hb1 (F' := [AF AY A2 c2 []]) (by intro a ha; rw [PC] at ha; subst ha; exact hN1); clear hb1 hN1) | (go_at_call 19; clear m3; refine (IB _ _).mono ?_; rintro e_ w4 ⟨A3, c3, rfl, hb1, hN1⟩; replace S := S.call hb1 (F' := [AF AY A3 c3 []]) (by intro a ha; rw [PC] at ha; subst ha; exact hN1); clear hb1 hN1) | ((with_reducible refine AE (N := 2) rfl ?_); refine Aw ?hg (N := 2) ?hd (cs := #[.int .i64 0, .string (⟨#[]⟩ : ByteArray), .string (⟨#[]⟩ : ByteArray), .slice none 0 0]) (t := 24) ?hr ?_; (case hd => rfl); (case hg => rfl); (case hr => first | (go_simp; done) | (go_simp; rfl)); intro gb hg_ w5 hbox hb; replace S := (S.box (t := 24) (cs := #[.int .i64 9, .string yS, .string eS, .slice A2 0 c2, .int .i64 9, .string xS, .string eS, .slice A3 0 c3]) rfl (Pv w4 _) (Ah (Pn _ _) _)).box hg_ hbox hb; clear hbox hb hg_; obtain ⟨⟨t0, t1, t2, t3⟩, t4, t5, t6, t7⟩ := box4 (S.at_blk 0 rfl)))
 replace S := S.set4 (.int .i64 20) (.string (⟨#[]⟩ : ByteArray)) (.string (⟨#[]⟩ : ByteArray)) (.slice (some ⟨w4.heap.size, 0, none⟩) 2 2);clear t0 t1 t2 t3 t4 t5 t6 t7;obtain ⟨wB, hwB, S⟩ := IH S;rw [<- hwB];clear hwB;obtain ⟨⟨t0, t1, t2, t3⟩, t4, t5, t6, t7⟩ := box4 (S.at_blk 2 rfl);obtain ⟨⟨u0, u1, u2, u3⟩, u4, u5, u6, u7⟩ := box4 (S.at_blk 0 rfl);replace S := A7.mk S
 go_upto_region 4 with (go_at_call 15; have S2 := S.out.box (t := 50) (cs := #[.int .i64 0, .int .i64 0, .int .i64 1, .int .i64 2]) rfl (Pv wB _) (Ah (Pn _ _) _); refine (OL _ _ _ _ (MW (S2.at_blk 4 rfl) (S2.rdC 2 rfl)) (MX (S2.at_blk 2 rfl) (S2.rdC 1 rfl) (S2.rdC 0 rfl)) (NC (S2.at_blk 0 rfl))).mono ?_; rintro e_ w7 ⟨A4, c4, rfl, hb1, hN1⟩; replace S := A7.mk (Au.call S2 hb1 (F' := [AF EY A4 c4 [kE 9 eS yS]]) (by intro a ha; rw [PC] at ha; subst ha; exact hN1)); clear S2 hb1 hN1; clear t0 t1 t2 t3 t4 t5 t6 t7; clear u0 u1 u2 u3 u4 u5 u6 u7)
 replace S := S.out;obtain ⟨⟨t0, t1, t2, t3⟩, t4, t5, t6, t7⟩ := box4 (S.at_blk 3 rfl);obtain ⟨⟨u0, u1, u2, u3⟩, u4, u5, u6, u7⟩ := box4 (S.at_blk 1 rfl);replace S := A7.mk S
 go_upto_region 5 with (first | (go_at_call 10; refine (OM _ _ _ _ (MW (S.out.at_blk 4 rfl) (S.out.rdC 3 rfl)) (S.out.rdC 0 rfl) (S.out.rdL 0 rfl)).mono ?_; rintro e_ w8 ⟨A5, c5, rfl, hb1, hN1⟩; replace S := A7.mk (Au.call S.out hb1 (F' := [AF AY A5 c5 [nY, nX]]) (by intro a ha; rw [PC] at ha; subst ha; exact hN1)); clear hb1 hN1; clear t0 t1 t2 t3 t4 t5 t6 t7; clear u0 u1 u2 u3 u4 u5 u6 u7) | ((with_reducible refine AE (N := 5) rfl ?_); refine Aw ?hg (N := 5) ?hd (cs := #[.int .i64 0, .string (⟨#[]⟩ : ByteArray), .string (⟨#[]⟩ : ByteArray), .slice none 0 0]) (t := 24) ?hr ?_; (case hd => rfl); (case hg => rfl); (case hr => first | (go_simp; done) | (go_simp; rfl)); intro g5 hg_ w9 hbox hb; replace S := A7.mk (S.out.box hg_ hbox hb); clear hbox hb hg_; obtain ⟨⟨v0, v1, v2, v3⟩, v4, v5, v6, v7⟩ := box4 (S.out.at_blk 0 rfl)))
 replace S := S.out.set4 (.int .i64 20) (.string (⟨#[]⟩ : ByteArray)) (.string (⟨#[]⟩ : ByteArray)) (.slice A5 2 c5);clear v0 v1 v2 v3 v4 v5 v6 v7;obtain ⟨wC, hwC, S⟩ := IH S;rw [<- hwC];clear hwC;obtain ⟨⟨t0, t1, t2, t3⟩, t4, t5, t6, t7⟩ := box4 (S.at_blk 4 rfl);replace S := A7.mk S
 go_upto_region 6 with (first | (go_at_call 10; have S2 := S.out.box (t := 54) (cs := #[.int .i64 2, .int .i64 0, .int .i64 0, .int .i64 0, .int .i64 0, .string eS, .string eS]) rfl (Pv wC _) (Ah (Pn _ _) _); refine (ND _ _ _ (MW (S2.at_blk 6 rfl) (S2.rdC 4 rfl)) (MY (S2.at_blk 0 rfl))).mono ?_; rintro e_ w10 ⟨rfl, hb1⟩; replace S := A7.mk (Au.keep S2 hb1); clear S2 hb1; clear t0 t1 t2 t3 t4 t5 t6 t7) | ((with_reducible refine AE (N := 8) rfl ?_); refine Aw ?hg (N := 8) ?hd (cs := #[.int .i64 0, .string (⟨#[]⟩ : ByteArray), .string (⟨#[]⟩ : ByteArray), .slice none 0 0]) (t := 24) ?hr ?_; (case hd => rfl); (case hg => rfl); (case hr => first | (go_simp; done) | (go_simp; rfl)); intro g8 hg_ w11 hbox hb; replace S := A7.mk (S.out.box hg_ hbox hb); clear hbox hb hg_; obtain ⟨⟨v0, v1, v2, v3⟩, v4, v5, v6, v7⟩ := box4 (S.out.at_blk 0 rfl)))
 replace S := S.out.set4 (.int .i64 0) (.string (⟨#[]⟩ : ByteArray)) (.string (⟨#[]⟩ : ByteArray)) (.slice none 0 0);clear v0 v1 v2 v3 v4 v5 v6 v7;obtain ⟨wD, hwD, S⟩ := IH S;rw [<- hwD];clear hwD;obtain ⟨⟨t0, t1, t2, t3⟩, t4, t5, t6, t7⟩ := box4 (S.at_blk 2 rfl);obtain ⟨⟨u0, u1, u2, u3⟩, u4, u5, u6, u7⟩ := box4 (S.at_blk 4 rfl);have hed := S.rdC 1 rfl;obtain ⟨ade, e_, q0, q1_, q2_, q3_, q4_, q5_, q6_⟩ := JD hed 0 (by decide) (by decide);subst e_;have e0_ : ade.add ((0 : Int).toNat * 7) = ade := by simp [Addr.add]
 rw [e0_] at q0;replace q0 : wD.cell? ade = some (.int .i64 1) := q0;clear q1_ q2_ q3_ q4_ q5_ q6_ e0_ hed;replace S := A7.mk S
 go_wp2_with (go_at_call 14; refine (NE _ _ _ _ _ (S.out.rdC 0 rfl) (S.out.rdL 0 rfl) (MX (S.out.at_blk 5 rfl) (S.out.rdC 3 rfl) (S.out.rdC 2 rfl)) (Ps _)).mono ?_; rintro e_ w12 ⟨rfl, hb1⟩; have HF := A7.mk ((Au.keep S.out hb1).below); clear hb1)
 go_ret
 exact ⟨rfl, HF.out⟩
theorem Na (l : List Ee) : (Dj l).length <= 60 := by unfold Dj; rw [PM, Pp]; omega
theorem NK {l : List Ee} (h : ∀ y ∈ l, OI y) : ∀ e ∈ Dj l, in64 e.f1 /\ in64 e.f2 := by
 intro e he;obtain ⟨y, hy, rfl⟩ := PF.1 he;obtain ⟨_, h1, h2, _⟩ := h y (List.mem_of_mem_take hy);exact ⟨h1, h2⟩
theorem II (x : B8) (l : List Ee) (A E : Option Addr) (c d : Nat) (w : Pe) (hA : Kd.C AY w A x.f3.length x.f3) (hc : x.f3.length <= c) (hE : Kd.C FW w E l.length l) (hd : l.length <= d) (hR : ∀ y ∈ l, OI y) :
  PJ Try.prog 3 #[.agg #[.int .i64 x.f0, .string x.f1, .string x.f2, .slice A x.f3.length c], .slice E l.length d] w fun e w' => e = .returned (.bool true) /\ Below w.heap.size w w' := by
 have S : Au w (fun k => k < w.heap.size) [] [AF AY A c x.f3, AF FW E d l] w := Au.start w (by intro a ha; simp only [Qg, Sm, or_false] at ha; rcases ha with rfl | rfl; exact ⟨hc, Kd.C_F Cy hA⟩; exact ⟨hd, Kd.C_F IU hE⟩);obtain ⟨b, hb, HF⟩ := LR x 200 (by decide) (by decide);have hlen := Na l;have hin := NK hR;clear hA hc hE hd hR;replace S := A7.mk S;replace HF := A7.mk HF;have hu24 := Try.underlying24;cases b with
 | false =>
  clear hb hlen hin;go_enter Try.func3, Try.ntmps3
  go_wp2_with (first | ((with_reducible refine AE (N := 2) rfl ?_); refine Aw ?hg (N := 2) ?hd (cs := #[.int .i64 x.f0, .string x.f1, .string x.f2, .slice A x.f3.length c]) (t := 24) ?hr ?_; (case hd => rfl); (case hg => rfl); (case hr => first | (go_simp; done) | (go_simp; rfl)); intro ga hg_ w1 hbox hb; have S1 := A7.mk (S.out.box hg_ hbox hb); clear hbox hb hg_; obtain ⟨⟨t0, t1, t2, t3⟩, t4, t5, t6, t7⟩ := box4 (S1.out.at_blk 0 rfl)) | (go_at_call 6; refine (HF.out _ _ _ (S1.out.rdC 0 rfl) (S1.out.rdL 0 rfl)).mono ?_; rintro e_ w2 ⟨rfl, hb1⟩; have S2 := A7.mk (S1.out.keep hb1); clear hb1; clear t0 t1 t2 t3 t4 t5 t6 t7; obtain ⟨⟨t0, t1, t2, t3⟩, t4, t5, t6, t7⟩ := box4 (S2.out.at_blk 0 rfl)) | (go_at_call 7; refine (Ga _).mono ?_; rintro e_ w3 ⟨rfl, hb1⟩; have S3 := A7.mk (S2.out.keep hb1); clear hb1; clear t0 t1 t2 t3 t4 t5 t6 t7))
  go_ret
  exact ⟨rfl, S3.out.below⟩
 | true =>
  have h200 := A7.mk (show BT x <= 200 by have := (hb rfl).1; omega);have hn6 : BT x <= 1000000 := by have := h200.out; omega
  have hp : CX x := GG (by have := h200.out; omega);clear hb;have HE := Ju l;have HAP := fun (W : Pe) (A B : Option Addr) (c d : Nat) hr hc he hd => LV x (A := A) (B := B) (c := c) (d := d) (Dj l) W hr hc he hd hp (by omega) hin
  have HRA : ∀ (q : A8) (B : Option Addr) (d : Nat) (W : Pe), Kd.C AY W q.an (Bk x).N.length (Bk x).N -> (Bk x).N.length <= q.cn -> Kd.C (Kd.slice 3 (Kd.int .i64)) W q.ak (Bk x).K.length (Bk x).K -> (Bk x).K.length <= q.ck -> Kd.C FW W B (Dj l).length ((Dj l).map Jq) -> (Dj l).length <= d -> PJ Try.prog 11 #[.agg (q.u (Bk x)), .slice B (Dj l).length d] W _ :=
   fun q B d W h1 h2 h3 h4 h5 h6 => Ke x (Dj l) (ap := q.ap) (az := q.az) (cp := q.cp) (cz := q.cz) (a1 := (Bk x).P.length) (a2 := (Bk x).Z.length) W h1 h2 h3 h4 h5 h6 hp (by omega) (fun y hy => (hin y hy).1)
  have HSM := N8 hp (Dj l) (by omega) (fun y hy => (hin y hy).1);have HAS := N9 (Dj l) (by omega);have HEL : ∀ (W : Pe) (B : Option Addr), Kd.C FW W B ((Dj l).map Jq).length ((Dj l).map Jq) -> Kd.C FW W B (Dj l).length ((Dj l).map Jq) := fun W B h => by rwa [PM] at h
  have HED : ∀ d : Nat, ((Dj l).map Jq).length <= d -> (Dj l).length <= d := fun d h => by rwa [PM] at h
  obtain ⟨nn, hnn⟩ : ∃ n, Oy (Dj l).length (BV (Bd x) (Dj l) 0) = n := ⟨_, rfl⟩;obtain ⟨T, hT⟩ : ∃ T, CH (BV (Bd x) (Dj l) 0) = T := ⟨_, rfl⟩;obtain ⟨cd, hcd⟩ : ∃ n, Oz (BV (Bd x) (Dj l) 0) = n := ⟨_, rfl⟩;simp only [hnn, hT, hcd] at HAP HRA HSM;clear hnn hT hcd;obtain ⟨es, hes⟩ : ∃ es, Dj l = es := ⟨_, rfl⟩;simp only [hes] at HE HAP HRA HAS HEL HED;clear hes hlen hin;replace HE := A7.mk HE;replace HAP := A7.mk HAP;replace HRA := A7.mk HRA;replace HSM := A7.mk HSM;replace HAS := A7.mk HAS;replace HEL := A7.mk HEL;replace HED := A7.mk HED;clear hp;have m1 := trivial;go_enter Try.func3, Try.ntmps3
  go_upto_region 4 with (first | ((with_reducible refine AE (N := 2) rfl ?_); refine Aw ?hg (N := 2) ?hd (cs := #[.int .i64 x.f0, .string x.f1, .string x.f2, .slice A x.f3.length c]) (t := 24) ?hr ?_; (case hd => rfl); (case hg => rfl); (case hr => first | (go_simp; done) | (go_simp; rfl)); intro ga hg_ w1 hbox hb; have S1 := A7.mk (S.out.box hg_ hbox hb); clear hbox hb hg_; obtain ⟨⟨t0, t1, t2, t3⟩, t4, t5, t6, t7⟩ := box4 (S1.out.at_blk 0 rfl)) | (go_at_call 6; refine (HF.out _ _ _ (S1.out.rdC 0 rfl) (S1.out.rdL 0 rfl)).mono ?_; rintro e_ w2 ⟨rfl, hb1⟩; have S2 := A7.mk (S1.out.keep hb1); clear hb1; clear t0 t1 t2 t3 t4 t5 t6 t7; obtain ⟨⟨t0, t1, t2, t3⟩, t4, t5, t6, t7⟩ := box4 (S2.out.at_blk 0 rfl)) | (go_at_call 8; refine (K6 x hn6 _ _ _ (S2.out.rdC 0 rfl) (S2.out.rdL 0 rfl)).mono ?_; rintro e_ w3 ⟨B1, d1, rfl, hb1, hN1⟩; have S3 := A7.mk (S2.out.call hb1 (F' := [AF AY B1 d1 x.f3]) (by intro a ha; rw [PC] at ha; subst ha; exact hN1)); clear hb1 hN1; clear t0 t1 t2 t3 t4 t5 t6 t7) | ((with_reducible refine AE (N := 5) rfl ?_); refine Aw ?hg (N := 5) ?hd (cs := #[.int .i64 0, .string (⟨#[]⟩ : ByteArray), .string (⟨#[]⟩ : ByteArray), .slice none 0 0]) (t := 24) ?hr ?_; (case hd => rfl); (case hg => rfl); (case hr => first | (go_simp; done) | (go_simp; rfl)); intro g5 hg_ w4 hbox hb; have S4 := A7.mk (S3.out.box hg_ hbox hb); clear hbox hb hg_; obtain ⟨⟨u0, u1, u2, u3⟩, u4, u5, u6, u7⟩ := box4 (S4.out.at_blk 0 rfl)))
  have S_ := S4.out.set4 (.int .i64 x.f0) (.string x.f1) (.string x.f2) (.slice B1 x.f3.length d1);clear u0 u1 u2 u3 u4 u5 u6 u7;obtain ⟨wD, hwD, S_⟩ := Fc S_;rw [<- hwD];clear hwD;have S6 := A7.mk S_;clear S_;obtain ⟨⟨t0, t1, t2, t3⟩, t4, t5, t6, t7⟩ := box4 (S6.out.at_blk 1 rfl)
  go_upto_region 5 with ((go_at_call 9; refine (HE.out _ _ _ (S6.out.rdC 2 rfl) (S6.out.rdL 2 rfl)).mono ?_; rintro e_ w5 ⟨B2, d2, rfl, hb1, hN1⟩; have S7 := A7.mk (S6.out.call hb1 (F' := [AF EY B2 d2 es]) (by intro a ha; rw [PC] at ha; subst ha; exact hN1)); clear hb1 hN1; clear t0 t1 t2 t3 t4 t5 t6 t7; obtain ⟨⟨t0, t1, t2, t3⟩, t4, t5, t6, t7⟩ := box4 (S7.out.at_blk 1 rfl)))
  go_upto_region 6 with (first | (go_at_call 10; refine (HAP.out _ _ _ _ _ (S7.out.rdC 2 rfl) (S7.out.rdL 2 rfl) (S7.out.rdC 0 rfl) (S7.out.rdL 0 rfl)).mono ?_; rintro e_ w6 ⟨B3, d3, rfl, hb1, hN1⟩; have S8 := A7.mk (S7.out.call hb1 (F' := [AF AY B3 d3 T.f3]) (by intro a ha; rw [PC] at ha; subst ha; exact hN1)); clear hb1 hN1; clear t0 t1 t2 t3 t4 t5 t6 t7) | ((with_reducible refine AE (N := 7) rfl ?_); refine Aw ?hg (N := 7) ?hd (cs := #[.int .i64 0, .string (⟨#[]⟩ : ByteArray), .string (⟨#[]⟩ : ByteArray), .slice none 0 0]) (t := 24) ?hr ?_; (case hd => rfl); (case hg => rfl); (case hr => first | (go_simp; done) | (go_simp; rfl)); intro g7 hg_ w7 hbox hb; have S9 := A7.mk (S8.out.box hg_ hbox hb); clear hbox hb hg_; obtain ⟨⟨u0, u1, u2, u3⟩, u4, u5, u6, u7⟩ := box4 (S9.out.at_blk 0 rfl)))
  have S_ := S9.out.set4 (.int .i64 T.f0) (.string T.f1) (.string T.f2) (.slice B3 T.f3.length d3);clear u0 u1 u2 u3 u4 u5 u6 u7;obtain ⟨wD, hwD, S_⟩ := Fc S_;rw [<- hwD];clear hwD;have S11 := A7.mk S_;clear S_;obtain ⟨⟨t0, t1, t2, t3⟩, t4, t5, t6, t7⟩ := box4 (S11.out.at_blk 2 rfl)
  go_upto_region 7 with (first | (go_at_call 12; refine (NJ S11.out x 201 (by have := h200.out; omega) (by decide) 3 rfl).mono ?_; rintro e_ w9 ⟨q, rfl, S_⟩; have S12 := A7.mk S_; clear S_; clear t0 t1 t2 t3 t4 t5 t6 t7) | (go_at_call 13; refine (HAS.out _ _ _ (S12.out.rdC 5 rfl) (S12.out.rdL 5 rfl)).mono ?_; rintro e_ w10 ⟨B5, d5, rfl, hb1, hN1⟩; have S13 := A7.mk (S12.out.call hb1 (F' := [AF FW B5 d5 (es.map Jq)]) (by intro a ha; rw [PC] at ha; subst ha; exact hN1)); clear hb1 hN1) | (go_at_call 11; refine (HRA.out q _ _ _ (S13.out.rdC 1 rfl) (S13.out.rdL 1 rfl) (S13.out.rdC 4 rfl) (S13.out.rdL 4 rfl) (HEL.out _ _ (S13.out.rdC 0 rfl)) (HED.out _ (S13.out.rdL 0 rfl))).mono ?_; rintro e_ w11 ⟨B6, d6, rfl, hb1, hN1⟩; have S14 := A7.mk (S13.out.call hb1 (F' := [AF AY B6 d6 T.f3]) (by intro a ha; rw [PC] at ha; subst ha; exact hN1)); clear hb1 hN1) | ((with_reducible refine AE (N := 10) rfl ?_); refine Aw ?hg (N := 10) ?hd (cs := #[.int .i64 0, .string (⟨#[]⟩ : ByteArray), .string (⟨#[]⟩ : ByteArray), .slice none 0 0]) (t := 24) ?hr ?_; (case hd => rfl); (case hg => rfl); (case hr => first | (go_simp; done) | (go_simp; rfl)); intro g10 hg_ w12 hbox hb; have S15 := A7.mk (S14.out.box hg_ hbox hb); clear hbox hb hg_; obtain ⟨⟨u0, u1, u2, u3⟩, u4, u5, u6, u7⟩ := box4 (S15.out.at_blk 0 rfl)))
  have S_ := S15.out.set4 (.int .i64 T.f0) (.string T.f1) (.string T.f2) (.slice B6 T.f3.length d6);clear u0 u1 u2 u3 u4 u5 u6 u7;obtain ⟨wD, hwD, S_⟩ := Fc S_;rw [<- hwD];clear hwD;have S17 := A7.mk S_;clear S_;obtain ⟨⟨t0, t1, t2, t3⟩, t4, t5, t6, t7⟩ := box4 (S17.out.at_blk 3 rfl); obtain ⟨⟨u0, u1, u2, u3⟩, u4, u5, u6, u7⟩ := box4 (S17.out.at_blk 2 rfl); obtain ⟨⟨x0, x1, x2, x3⟩, x4, x5, x6, x7⟩ := box4 (S17.out.at_blk 1 rfl); obtain ⟨⟨y0, y1, y2, y3⟩, y4, y5, y6, y7⟩ := box4 (S17.out.at_blk 0 rfl)
  go_wp2_with (first | (go_at_call 7; refine (Ga _).mono ?_; rintro e_ w13 ⟨rfl, hb1⟩; replace S17 := A7.mk (S17.out.keep hb1); clear hb1; clear t0 t1 t2 t3 t4 t5 t6 t7; clear u0 u1 u2 u3 u4 u5 u6 u7; clear x0 x1 x2 x3 x4 x5 x6 x7; clear y0 y1 y2 y3 y4 y5 y6 y7; obtain ⟨⟨t0, t1, t2, t3⟩, t4, t5, t6, t7⟩ := box4 (S17.out.at_blk 3 rfl); obtain ⟨⟨u0, u1, u2, u3⟩, u4, u5, u6, u7⟩ := box4 (S17.out.at_blk 2 rfl); obtain ⟨⟨x0, x1, x2, x3⟩, x4, x5, x6, x7⟩ := box4 (S17.out.at_blk 1 rfl); obtain ⟨⟨y0, y1, y2, y3⟩, y4, y5, y6, y7⟩ := box4 (S17.out.at_blk 0 rfl)) | (go_at_call 14; clear m1; refine (HSM.out _ _ _ _ _ (S17.out.rdC 6 rfl) (S17.out.rdL 6 rfl) (S17.out.rdC 0 rfl) (S17.out.rdL 0 rfl)).mono ?_; rintro e_ w14 ⟨rfl, hb1⟩; replace S17 := A7.mk (S17.out.keep hb1); clear hb1; clear t0 t1 t2 t3 t4 t5 t6 t7; clear u0 u1 u2 u3 u4 u5 u6 u7; clear x0 x1 x2 x3 x4 x5 x6 x7; clear y0 y1 y2 y3 y4 y5 y6 y7; obtain ⟨⟨t0, t1, t2, t3⟩, t4, t5, t6, t7⟩ := box4 (S17.out.at_blk 3 rfl); obtain ⟨⟨u0, u1, u2, u3⟩, u4, u5, u6, u7⟩ := box4 (S17.out.at_blk 2 rfl); obtain ⟨⟨x0, x1, x2, x3⟩, x4, x5, x6, x7⟩ := box4 (S17.out.at_blk 1 rfl); obtain ⟨⟨y0, y1, y2, y3⟩, y4, y5, y6, y7⟩ := box4 (S17.out.at_blk 0 rfl)) | (go_at_call 14; refine (LS x hn6 _ _ _ _ _ (S17.out.rdC 9 rfl) (S17.out.rdL 9 rfl) (S17.out.rdC 8 rfl) (S17.out.rdL 8 rfl)).mono ?_; rintro e_ w15 ⟨rfl, hb1⟩; replace S17 := A7.mk (S17.out.keep hb1); clear hb1; clear t0 t1 t2 t3 t4 t5 t6 t7; clear u0 u1 u2 u3 u4 u5 u6 u7; clear x0 x1 x2 x3 x4 x5 x6 x7; clear y0 y1 y2 y3 y4 y5 y6 y7; obtain ⟨⟨t0, t1, t2, t3⟩, t4, t5, t6, t7⟩ := box4 (S17.out.at_blk 3 rfl); obtain ⟨⟨u0, u1, u2, u3⟩, u4, u5, u6, u7⟩ := box4 (S17.out.at_blk 2 rfl); obtain ⟨⟨x0, x1, x2, x3⟩, x4, x5, x6, x7⟩ := box4 (S17.out.at_blk 1 rfl); obtain ⟨⟨y0, y1, y2, y3⟩, y4, y5, y6, y7⟩ := box4 (S17.out.at_blk 0 rfl)))
  go_ret
  exact ⟨rfl, S17.out.below⟩
end Go.Proofs.Q
