/- The texts of this claim that lie below its row, in their order: GR1. -/
import Derived.Deep.RegionLaw
import Derived.Deep.RegionHeld3
import Derived.Deep.DeepCutAuto
import Derived.Deep.CutBlock
import Derived.Test.YtfmlpkeaiohknaaZA15
set_option linter.unusedVariables false
set_option linter.unusedSimpArgs false
set_option maxHeartbeats 16000000
set_option maxRecDepth 100000
open Bool renaming false -> BK
open Go renaming bodyPost_ret -> Qf, results_tmp2 -> Qi
open Go.Act renaming eval -> Q1, put -> Ph
open Go.World renaming block_lt_of_cell? -> Pb
open List renaming mem_of_getElem? -> Pm, mem_map -> PF, length_map -> PM, length_nil -> Qu, nil_append -> Pu, length_take -> Pp
open List.Perm renaming swap -> Qq
open Option.some renaming inj -> Px
namespace Go.Proofs.Q
open Go Go.RowKit Go.Lib Go.Sort Go.Proofs.V.Words Go.Proofs.V.Last Go.Proofs.V.More Go.Proofs.V.SL
attribute [local go_sem] BI BJ BY BZ Bu Bv BL BM
theorem BW {w0 w : World} {Z : Nat -> Prop} {a b : Bj} {L : List Bj} {F : List FA} (S : Au w0 Z (a :: b :: L) F w) : Au w0 Z (a :: L) F w := (S.perm (Qq _ _ _)).drop
theorem Fc {w0 w : World} {Z : Nat -> Prop} {L : List Bj} {F : List FA} (S : Au w0 Z L F w) : ∃ q, q = w /\ Au w0 Z L F q := ⟨w, rfl, S⟩
open Classical in
theorem I8 {w0 w : World} {Z : Nat -> Prop} {L : List Bj} {F : List FA} {ad : Addr} {n c : Nat} {ks : List Kn} (S0 : Au w0 Z (Bo CL 66 w0.heap.size (.slice (some ad) n c) (ks.map As) :: L) F w) (I : CQ ks) (hz : ks[0]?.map (·.id) = some 0) (hl : ks.length <= 100000) (so id pa af ki : Int) (tx tr : ByteArray) (hin : in64 id) :
  Calls Try.prog 23 #[.slice (some ad) n c, .agg #[.int .i64 so, .int .i64 id, .int .i64 pa, .int .i64 af, .int .i64 ki, .string tx, .string tr]] w fun e w' => ∃ A' n' c', e = .returned (.tuple #[.slice A' n' c', .bool (Ce ks ⟨so, id, pa, af, ki, tx, tr⟩).isSome]) /\ Au w0 Z (Bo CL 66 w0.heap.size (.slice A' n' c') (((Ce ks ⟨so, id, pa, af, ki, tx, tr⟩).getD ks).map As) :: L) F w' := by
 obtain ⟨R, hR⟩ : ∃ R, Ce ks ⟨so, id, pa, af, ki, tx, tr⟩ = R := ⟨_, rfl⟩;rw [hR];obtain ⟨aI, hai⟩ : ∃ a, AO (ks.map (·.id)) id = a := ⟨_, rfl⟩;obtain ⟨pI, hpi⟩ : ∃ a, AO (ks.map (·.id)) pa = a := ⟨_, rfl⟩;obtain ⟨spB, hsp⟩ : ∃ b, decide (Dk ks ⟨so, id, pa, af, ki, tx, tr⟩) = b := ⟨_, rfl⟩;have hn := (DU S0 (i := 0) rfl).1;have hnc := (DU S0 (i := 0) rfl).2.1;have HL := A7.mk (⟨by omega, hl⟩ : ks.length <= 1000000 /\ ks.length <= 100000);have HN := A7.mk (⟨hn, hnc, hz, hin⟩ : _ /\ _ /\ _ /\ _);replace hR := A7.mk hR;replace hai := A7.mk hai;replace hpi := A7.mk hpi;replace hsp := A7.mk hsp;replace I := A7.mk I;replace S0 := A7.mk S0;clear hn hnc hz hin hl;have m1 := trivial;have m2 := trivial;have hu55 := Try.underlying55;have hu66 := Try.underlying66;have hu64 := Try.underlying64;have hmix : Try.prog.follows .mixedOrders = true := by kernel_rfl
 go_enter Try.func23, Try.ntmps23
 go_upto_region 1 with ((with_reducible refine AE (N := 3) rfl ?_); refine Aw ?hg (N := 3) ?hd (cs := #[.int .i64 so, .int .i64 id, .int .i64 pa, .int .i64 af, .int .i64 ki, .string tx, .string tr]) (t := 55) ?hr ?_; (case hd => rfl); (case hg => rfl); (case hr => first | (go_simp; done) | (go_simp; rfl)); intro g3 hg_ w1 hbox hb; have S := A7.mk ((S0.out.box hg_ hbox hb).perm (Qq _ _ _)).drew; clear hbox hb hg_)
 clear S0;obtain ⟨⟨e0, e1, e2, e3, e4, e5, e6⟩, ef0, ef1, ef2, ef3, ef4, ef5, ef6⟩ := E9 (S.out.at_blk 1 rfl)
 go_region_held3 (fun w' => w'.cell? ⟨g3, 1, none⟩ = some (.int .i64 id) /\ w'.cell? ⟨g3, 2, none⟩ = some (.int .i64 pa)) (first | (refine ⟨?_, ?_⟩ <;> assumption) | go_keep) (first
  | (go_at_call 34; clear m1; refine (N0 S.out (i := 0) rfl HL.out.1 id).mono ?_; rw [hai.out]; rintro e_ w4 ⟨rfl, hb1⟩; have S4 := A7.mk (S.out.keep hb1); clear hb1; clear e0 e1 e2 e3 e4 e5 e6 ef0 ef1 ef2 ef3 ef4 ef5 ef6; obtain ⟨⟨e0, e1, e2, e3, e4, e5, e6⟩, ef0, ef1, ef2, ef3, ef4, ef5, ef6⟩ := E9 (S4.out.at_blk 1 rfl))
  | (go_at_call 34; clear m2; refine (N0 S4.out (i := 0) rfl HL.out.1 pa).mono ?_; rw [hpi.out]; rintro e_ w5 ⟨rfl, hb1⟩; have S5 := A7.mk (S4.out.keep hb1); clear hb1; clear e0 e1 e2 e3 e4 e5 e6 ef0 ef1 ef2 ef3 ef4 ef5 ef6; obtain ⟨⟨e0, e1, e2, e3, e4, e5, e6⟩, ef0, ef1, ef2, ef3, ef4, ef5, ef6⟩ := E9 (S5.out.at_blk 1 rfl)))
 all_goals (
  clear e0 e1 e2 e3 e4 e5 e6 ef0 ef1 ef2 ef3 ef4 ef5 ef6
  go_upto_region 2 with fail
  go_cut [8] (fun v8 W => v8 = .bool spB /\ A7 (Au w0 Z (Bo CL 66 w0.heap.size (.slice (some ad) n c) (ks.map As) :: Al g3 55 #[.int .i64 so, .int .i64 id, .int .i64 pa, .int .i64 af, .int .i64 ki, .string tx, .string tr] :: L) F W))
  case first =>
   obtain ⟨⟨e0, e1, e2, e3, e4, e5, e6⟩, ef0, ef1, ef2, ef3, ef4, ef5, ef6⟩ := E9 (S5.out.at_blk 1 rfl);by_cases hp : pa ∈ ks.map (·.id)
   ·obtain ⟨jp, kp, hjp, hkpi, hgp, hplp, hjpl⟩ := Cp I.out hp;have hpe : pI = (jp : Int) := hpi.out.symm.trans hplp;subst hpe;have hkl := A7.mk (I.out.kidsLen (Pm hjp));have hspv : spB = decide (af = -1 \/ af ∈ kp.kids) := by
     rw [<- hsp.out];exact decide_eq_decide.2 ⟨fun ⟨p, h1, h2⟩ => by rw [show CY ks pa = some kp from hgp] at h1; obtain rfl := Px h1; exact h2, fun h => ⟨kp, hgp, h⟩⟩
    have p1 : decide ((0 : Int) <= (jp : Int)) = true := decide_eq_true (by omega);have p2 : (0 : Int) <= (jp : Int) := by omega
    have p3 : (jp : Int) < (n : Int) := by have := HN.out.1; omega
    have p4 : decide ((jp : Int) < (n : Int)) = true := decide_eq_true p3;have p5 : jp < n := by omega
    have hjp := A7.mk (⟨hjp, hkpi, hgp⟩ : _ /\ _ /\ _);clear hplp hjpl hkpi hgp hp;by_cases h3 : af = -1
    ·subst h3;have hs2 : spB = true := by rw [hspv]; simp
     subst hs2;clear hspv
     go_region_o
     all_goals (go_wp2_with fail; go_meet; exact ⟨rfl, ⟨S5.out.drew⟩⟩)
    ·have h3a : (af == -1) = BK := by simp [h3]
     have h3b : decide (af = -1) = BK := decide_eq_false h3;obtain ⟨q, hq⟩ : ∃ q, AO (As kp).f2 af = q := ⟨_, rfl⟩;have hs2 : spB = decide (0 <= q) := by
      rw [hspv, <- hq];exact decide_eq_decide.2 (by rw [Cz]; simp [h3, As])
     replace hq := A7.mk hq;clear hspv;replace S5 := A7.mk S5.out.drew;clear e0 e1 e2 e3 e4 e5 e6 ef0 ef1 ef2 ef3 ef4 ef5 ef6;obtain ⟨⟨e0, e1, e2, e3, e4, e5, e6⟩, ef0, ef1, ef2, ef3, ef4, ef5, ef6⟩ := E9 (S5.out.at_blk 1 rfl);obtain ⟨⟨l0, l2, l3⟩, ⟨A5, c5, l5, hc5, hC5⟩, lf2, lf3, lf5, lnn, lnc, ljn⟩ := C6 S5.out (i := 0) rfl (Ci hjp.out.1); clear lnn lnc
     go_region_held3 (fun w' => w'.cell? ⟨g3, 3, none⟩ = some (.int .i64 af) /\ w'.cell? ⟨(ad.add (jp * 6)).block, (ad.add (jp * 6)).off + 5, none⟩ = some (.slice A5 (As kp).f2.length c5)) (first | (refine ⟨?_, ?_⟩ <;> assumption) | go_keep) ((go_at_call 35; refine (P3 hC5 hc5 (by have := HL.out.2; have := hkl.out; show kp.kids.length <= 1000000; omega) af).mono ?_; rw [hq.out]; rintro e_ w6 ⟨rfl, hb1⟩; have S6 := A7.mk (S5.out.keep hb1); replace e3 := (Cc (hb1.block _ (Pb _ _ e3))).trans e3; replace l5 := (Cc (hb1.block _ (Pb _ _ l5))).trans l5; clear hb1; clear e0 e1 e2 e4 e5 e6 ef0 ef1 ef2 ef3 ef4 ef5 ef6 l0 l2 l3 lf2 lf3 lf5))
     all_goals (go_wp2_with fail; go_meet; exact ⟨by rw [hs2], S6⟩)
   ·have hpe : pI = -1 := hpi.out.symm.trans (DT hp);subst hpe;have hs2 : spB = BK := by
     rw [<- hsp.out];exact decide_eq_false (fun ⟨p, h1, _⟩ => hp (by obtain ⟨h3, h4⟩ := Cn h1; exact PF.2 ⟨p, h3, h4⟩))
    subst hs2;clear hp
    go_region_o
    all_goals (go_wp2_with fail; go_meet; exact ⟨rfl, ⟨S5.out.drew⟩⟩)
  case rest =>
   obtain ⟨rfl, S7⟩ := hcut;clear S5;obtain ⟨⟨e0, e1, e2, e3, e4, e5, e6⟩, ef0, ef1, ef2, ef3, ef4, ef5, ef6⟩ := E9 (S7.out.at_blk 1 rfl);by_cases h1 : so = 1
   ·subst h1;by_cases ha : id ∈ ks.map (·.id)
    ·obtain ⟨ja, ka, hja, hkai, hga, hpla, hjal⟩ := Cp I.out ha;have hae : aI = (ja : Int) := hai.out.symm.trans hpla;subst hae;have hka := A7.mk (⟨I.out.kidsLen (Pm hja), Eb I.out HN.out.2.2.1 hja⟩ : _ /\ _);have a1 : (0 : Int) <= (ja : Int) := by omega
     have a1b : decide ((0 : Int) <= (ja : Int)) = true := decide_eq_true (by omega);have a1c : decide ((ja : Int) < 0) = BK := decide_eq_false (by omega);have a1d : ¬ (ja : Int) < 0 := by omega
     have a2 : (ja : Int) < (n : Int) := by have := HN.out.1; omega
     have hja := A7.mk (⟨hja, hkai, hga, hpla, hjal⟩ : ks[ja]? = some ka /\ ka.id = id /\ CY ks id = some ka /\ AO (ks.map (·.id)) id = (ja : Int) /\ ja < ks.length);clear hkai hga hpla hjal;clear a1c a1d;have hRn : R = none := hR.out.symm.trans (LQ rfl ha);replace hRn := A7.mk hRn;clear ha;go_wp2;refine Qf (Qi (t := 4) (u := 5) rfl _ _ _) rfl ?_;exact ⟨some ad, n, c, by rw [hRn.out]; rfl, by rw [hRn.out]; exact BW S7.out⟩
    ·have hae : aI = -1 := hai.out.symm.trans (DT ha);subst hae;have a1 : ¬ (0 : Int) <= -1 := by decide
     by_cases hid : id < 0
     ·have d1 : decide (id < 0) = true := decide_eq_true hid;have hRn : R = none := hR.out.symm.trans (NF rfl hid);replace hRn := A7.mk hRn;clear hid ha;go_wp2;refine Qf (Qi (t := 4) (u := 5) rfl _ _ _) rfl ?_;exact ⟨some ad, n, c, by rw [hRn.out]; rfl, by rw [hRn.out]; exact BW S7.out⟩
     ·have d1 : decide (id < 0) = BK := decide_eq_false hid;cases spB with
      | false =>
       have hRn : R = none := hR.out.symm.trans (N1 rfl (of_decide_eq_false hsp.out));replace hRn := A7.mk hRn;clear hid ha;go_wp2;refine Qf (Qi (t := 4) (u := 5) rfl _ _ _) rfl ?_;exact ⟨some ad, n, c, by rw [hRn.out]; rfl, by rw [hRn.out]; exact BW S7.out⟩
      | true =>
       have hRn : R = some (EU ks ⟨1, id, pa, af, ki, tx, tr⟩) := hR.out.symm.trans (Om rfl ha hid (of_decide_eq_true hsp.out));replace hRn := A7.mk hRn;clear hid ha;obtain ⟨p, hgp, haf⟩ : Dk ks ⟨1, id, pa, af, ki, tx, tr⟩ := of_decide_eq_true hsp.out;have hpm := PF.2 ⟨p, (Cn hgp).1, (Cn hgp).2⟩;obtain ⟨jp, kp, hjp, hkpi, hgp2, hplp, hjpl⟩ := Cp I.out hpm;obtain rfl : p = kp := Px (hgp.symm.trans hgp2);have hpe : pI = (jp : Int) := hpi.out.symm.trans hplp;subst hpe;have hkl := A7.mk (I.out.kidsLen (Pm hjp));have p2 : (0 : Int) <= (jp : Int) := by omega
       have p3 : (jp : Int) < (n : Int) := by have := HN.out.1; omega
       have haf := A7.mk haf;have hjp := A7.mk (⟨hjp, hkpi, hgp⟩ : ks[jp]? = some p /\ p.id = pa /\ CY ks pa = some p);clear hpm hgp hgp2 hplp hjpl hkpi
       go_upto_region 8 with (((with_reducible refine Bt (b := .append) (xs := #[.tmp 53, .tmp 64]) rfl ?_); at_builtin; obtain ⟨ok, b1, b2, b3⟩ := DA S7.out; refine Kd.R_append CL (w0 := w0) w0.heap.size rfl (.tmp 53) (.tmp 64) 64 66 (.agg #[(.int .i64 0), (.int .i64 0), (.string ⟨#[]⟩), (.string ⟨#[]⟩), (.slice none 0 0), (.slice none 0 0)]) 96 rfl Try.underlying64 FR rfl (by decide) (by omega) (.slice (some ad) n c) (ks.map As) (⟨id, ⟨ki, tx, tr, []⟩, []⟩ : DD) [.int .i64 id, .int .i64 ki, .string tx, .string tr, .slice none 0 0, .slice none 0 0] ok (fun _ => False) rfl rfl (Fj _ _ _ (⟨id, ⟨ki, tx, tr, []⟩, []⟩ : DD) (Kd.R_nil _ _ _ _ _) (Kd.R_nil _ _ _ _ _)) (fun _ h => h.elim) b1 b2 S7.out.below S7.out.below.size (by rw [PM]; have := HL.out.2; omega) ?_; intro v8 w8 hR8 _ hg8 _; have S8 := b3 _ _ _ hR8 hg8; obtain ⟨ad1, c8, ev8⟩ := Kd.R_slice1 hR8 (by simp); rw [List.length_append, PM, <- HN.out.1, List.length_singleton] at ev8; subst ev8; replace S8 := A7.mk S8; clear b1 b2 b3 hR8 hg8))
       replace S8 := A7.mk S8.out.drew;clear e0 e1 e2 e3 e4 e5 e6 ef0 ef1 ef2 ef3 ef4 ef5 ef6;obtain ⟨⟨e0, e1, e2, e3, e4, e5, e6⟩, ef0, ef1, ef2, ef3, ef4, ef5, ef6⟩ := E9 (S8.out.at_blk 1 rfl);have hj8 : (ks.map As ++ [(⟨id, ⟨ki, tx, tr, []⟩, []⟩ : DD)])[jp]? = some (As p) := by rw [List.getElem?_append_left (by rw [PM]; exact (List.getElem?_eq_some_iff.1 hjp.out.1).1)]; exact Ci hjp.out.1
       have hj8 := A7.mk hj8;obtain ⟨_, ⟨A5, c5, l5, hc5, hC5⟩, _, _, lf5, lnn, lnc, ljn⟩ := C6 S8.out (i := 0) rfl hj8.out;clear lnn lnc ljn;have p4 : (jp : Int) < ((n + 1 : Nat) : Int) := by omega
       have p4b : (jp : Int) < (n : Int) + 1 := by omega
       have p4c : jp < n + 1 := by omega
       go_region_law (refine Du (N := some 77) Try.func36 (by kernel_rfl) rfl #[.slice A5 (As p).f2.length c5, .int .i64 id, .int .i64 af] (by rfl) rfl rfl (by simp [Q1, Ph]) ?_; refine (NX hC5 hc5 (by have := HL.out.2; have := hkl.out; show p.kids.length <= 1000000; omega) id af).mono ?_; rintro e_ w9 ⟨A9, c9, rfl, hR9, hb1⟩; refine ⟨_, rfl, ?_⟩; have S9 := A7.mk (S8.out.rowOf_new (B := w0.heap.size) hb1 hR9 S8.out.below.size); replace lf5 := trivial; replace l5 := (Cc (hb1.block _ (Pb _ _ l5))).trans l5; have lf5 := (C6 S9.out (i := 1) rfl hj8.out).2.2.2.2.1; clear hb1 hR9)
       all_goals (
        have S10 := A7.mk (ES S9.out hj8.out);have hnl := K5 (x := ⟨1, id, pa, af, ki, tx, tr⟩) I.out hjp.out.1 hjp.out.2.1 haf.out;replace hnl := A7.mk hnl;go_wp2;refine Qf (Qi (t := 4) (u := 5) rfl _ _ _) rfl ?_;exact ⟨some ad1, _, c8, by rw [hRn.out]; rfl, by rw [hRn.out]; show Au w0 Z (Bo CL 66 w0.heap.size _ ((EU ks ⟨1, id, pa, af, ki, tx, tr⟩).map As) :: L) F _; rw [<- hnl.out]; exact BW S10.out⟩)
   ·by_cases h2 : so = 2
    ·subst h2;by_cases ha : id ∈ ks.map (·.id)
     ·obtain ⟨ja, ka, hja, hkai, hga, hpla, hjal⟩ := Cp I.out ha;have hae : aI = (ja : Int) := hai.out.symm.trans hpla;subst hae;have hka := A7.mk (⟨I.out.kidsLen (Pm hja), Eb I.out HN.out.2.2.1 hja⟩ : _ /\ _);have a1 : (0 : Int) <= (ja : Int) := by omega
      have a1b : decide ((0 : Int) <= (ja : Int)) = true := decide_eq_true (by omega);have a1c : decide ((ja : Int) < 0) = BK := decide_eq_false (by omega);have a1d : ¬ (ja : Int) < 0 := by omega
      have a2 : (ja : Int) < (n : Int) := by have := HN.out.1; omega
      have hja := A7.mk (⟨hja, hkai, hga, hpla, hjal⟩ : ks[ja]? = some ka /\ ka.id = id /\ CY ks id = some ka /\ AO (ks.map (·.id)) id = (ja : Int) /\ ja < ks.length);clear hkai hga hpla hjal;by_cases j0 : ja = 0
      ·have d1 : decide ((ja : Int) <= 0) = true := decide_eq_true (by omega);have d1c : (ja : Int) <= 0 := by omega
       have d1e : ja <= 0 := by omega
       have hpn := hka.out.2.1 j0;have hRn : R = none := hR.out.symm.trans (N2 rfl hja.out.2.2.1 hpn);replace hRn := A7.mk hRn;clear j0 hpn ha;go_wp2;refine Qf (Qi (t := 4) (u := 5) rfl _ _ _) rfl ?_;exact ⟨some ad, n, c, by rw [hRn.out]; rfl, by rw [hRn.out]; exact BW S7.out⟩
      ·have d1 : decide ((ja : Int) <= 0) = BK := decide_eq_false (by omega);have d1c : ¬ (ja : Int) <= 0 := by omega
       have d1e : ¬ ja <= 0 := by omega
       obtain ⟨q, hq⟩ : ∃ q, ka.par = some q := by
        cases hp : ka.par with
        | none => exact absurd (hka.out.2.2 hp) j0
        | some q => exact ⟨q, rfl⟩
       have hpq : CG ks id = some q := by unfold CG; rw [hja.out.2.2.1]; exact hq
       obtain ⟨qk, hqm, hqi, _⟩ := I.out.par ka (Pm hja.out.1) q hq;obtain ⟨jq, kq, hjq, hkqi, _, hplq, hjql⟩ := Cp I.out (PF.2 ⟨qk, hqm, hqi⟩);have hklq := A7.mk (I.out.kidsLen (Pm hjq));have hq := A7.mk (⟨hq, hpq, hplq⟩ : ka.par = some q /\ CG ks id = some q /\ AO (ks.map (·.id)) q = (jq : Int));have t2 : (0 : Int) <= (jq : Int) := by omega
       have t3 : (jq : Int) < (n : Int) := by have := HN.out.1; omega
       have hjq := A7.mk (⟨hjq, hkqi⟩ : ks[jq]? = some kq /\ kq.id = q);clear j0 hpq hqm hqi hplq hjql hkqi;by_cases hk0 : ka.kids = []
       ·have hRn : R = some (CW ks q ⟨2, id, pa, af, ki, tx, tr⟩) := hR.out.symm.trans (Oo rfl hja.out.2.2.1 hq.out.1 hk0);replace hRn := A7.mk hRn;have hk0b : (As ka).f2.length = 0 := by show ka.kids.length = 0; rw [hk0]; rfl
        have k0 : decide ((0 : Int) < ((As ka).f2.length : Int)) = BK := decide_eq_false (by omega);have k0b : ¬ 0 < (As ka).f2.length := by omega
        clear hk0 ha;obtain ⟨⟨l0, l2, l3⟩, ⟨A5, c5, l5, hc5, hC5⟩, lf2, lf3, lf5, lnn, lnc, ljn⟩ := C6 S7.out (i := 0) rfl (Ci hja.out.1); clear lnn lnc;clear l0 l2 l3 hc5 hC5 lf2 lf3 lf5
        go_upto_region 14 with (go_at_call 37; refine (Jm S7.out (i := 0) rfl I.out HL.out.1 id q hq.out.2.1).mono ?_; rw [hq.out.2.2]; rintro e_ w9 ⟨rfl, hb1⟩; have S9 := A7.mk (S7.out.keep hb1); clear hb1; clear e0 e1 e2 e3 e4 e5 e6 ef0 ef1 ef2 ef3 ef4 ef5 ef6; obtain ⟨⟨e0, e1, e2, e3, e4, e5, e6⟩, ef0, ef1, ef2, ef3, ef4, ef5, ef6⟩ := E9 (S9.out.at_blk 1 rfl))
        clear l5 hk0b k0 k0b;replace S9 := A7.mk S9.out.drew;clear e0 e1 e2 e3 e4 e5 e6 ef0 ef1 ef2 ef3 ef4 ef5 ef6;obtain ⟨⟨e0, e1, e2, e3, e4, e5, e6⟩, ef0, ef1, ef2, ef3, ef4, ef5, ef6⟩ := E9 (S9.out.at_blk 1 rfl);obtain ⟨_, ⟨A5, c5, l5, hc5, hC5⟩, _, _, lf5, lnn, lnc, ljn⟩ := C6 S9.out (i := 0) rfl (Ci hjq.out.1);clear lnn lnc ljn;obtain ⟨ys9, hys9⟩ : ∃ l, ((As kq).f2.filter fun y => decide (y ≠ id)) = l := ⟨_, rfl⟩;replace hys9 := A7.mk hys9
        go_region_law (refine Du (N := some 108) Try.func38 (by kernel_rfl) rfl #[.slice A5 (As kq).f2.length c5, .int .i64 id] (by rfl) rfl rfl (by simp [Q1, Ph]) ?_; refine (I6 hC5 hc5 (by have := HL.out.2; have := hklq.out; show kq.kids.length <= 1000000; omega) id).mono ?_; rw [hys9.out]; rintro e_ w10 ⟨A9, c9, rfl, hR9, hb1⟩; refine ⟨_, rfl, ?_⟩; have S10 := A7.mk (S9.out.rowOf_new (B := w0.heap.size) hb1 hR9 S9.out.below.size); replace lf5 := trivial; replace l5 := (Cc (hb1.block _ (Pb _ _ l5))).trans l5; have lf5 := (C6 S10.out (i := 1) rfl (Ci hjq.out.1)).2.2.2.2.1; clear hb1 hR9)
        all_goals (
         have S_ := ES S10.out (Ci hjq.out.1);have hcl : (ks.map As).set jq ⟨(As kq).f0, (As kq).f1, ys9⟩ = (BN ks kq.id (Kn.cut id)).map As := by rw [<- hys9.out]; exact GP I.out hjq.out.1
         rw [hcl, hjq.out.2] at S_;clear hcl l5 hc5 hC5 lf5;obtain ⟨wq, hwq, S_⟩ := Fc S_;rw [<- hwq];clear hwq;have S11 := A7.mk S_;clear S_
         go_upto_region 15 with fail
         have S12 := (LP S11.out S11.out.below.size).drew.perm (Qq _ _ _);have HS := A7.mk (⟨S12.below, S12.below.size⟩ : _ /\ _);obtain ⟨ok, okp, g1_, g2_, g3_, g4_, g5_⟩ := MZ S12;have hw1 : wrap64 ((ja : Int) + 1) = (ja : Int) + 1 := by have := HL.out.2; have := hja.out.2.2.2.2; unfold wrap64; omega
         have hw2 : IntKind.i64.wrap ((ja : Int) + 1) = (ja : Int) + 1 := (Ar _).trans hw1;have j1 : (ja : Int) <= (c : Int) := by have := HN.out.2.1; omega
         have j1b : ja <= c := by omega
         have j3 : ja <= n := by omega
         have j4 : (ja : Int) + 1 <= (n : Int) := by omega
         have j4b : ja + 1 <= n := by omega
         have j5 : (0 : Int) <= (ja : Int) + 1 := by omega
         have j6 : (ja : Int) + 1 <= (c : Int) := by have := HN.out.2.1; omega
         clear S12;by_cases hcm : c = ja + 1
         ·have hnm : n = ja + 1 := by have := HN.out.2.1; omega
          have hdr : ((BN ks q (Kn.cut id)).map As).drop (ja + 1) = [] := List.drop_eq_nil_of_le (by rw [PM]; unfold BN; rw [PM]; have := HN.out.1; omega);have hdr := A7.mk hdr;have k1 : (ja : Int) <= (ja : Int) + 1 := by omega
          have k2 : (0 : Int) <= (ja : Int) := by omega
          subst hcm;subst hnm
          go_region_law (first
           | (refine Kd.R_append_rows_step CL (w0 := w0) w0.heap.size (by rfl) (.tmp 111) (.tmp 114) 64 66 (.agg #[(.int .i64 0), (.int .i64 0), (.string ⟨#[]⟩), (.string ⟨#[]⟩), (.slice none 0 0), (.slice none 0 0)]) 96 (by rfl) Try.underlying64 FR rfl (by decide) (by omega) (.slice (some ⟨wq.heap.size, 0, none⟩) 0 0) [] (((BN ks q (Kn.cut id)).map As).take ja) (some ad) ja (ja + 1) ok okp (by simp [Q1, Ph]) (by simp [Q1, Ph]) g3_ (GO g4_ j3) (fun _ _ h => h) g1_ g2_ HS.out.1 HS.out.2 (by have := HL.out.2; have := hja.out.2.2.2.2; simp only [Qu]; omega) ?_; intro v13 w13 hR13 _ hg13 hat13; obtain ⟨b1_, b2_, b3_, b4_, b5_⟩ := g5_ v13 w13 _ hR13 hg13 hat13)
           | (refine Kd.R_append_rows_step CL (w0 := w0) w0.heap.size (by rfl) (.tmp 115) (.tmp 119) 64 66 (.agg #[(.int .i64 0), (.int .i64 0), (.string ⟨#[]⟩), (.string ⟨#[]⟩), (.slice none 0 0), (.slice none 0 0)]) 96 (by rfl) Try.underlying64 FR rfl (by decide) (by omega) v13 ([] ++ ((BN ks q (Kn.cut id)).map As).take ja) [] (some ad) 0 0 ok okp (by simp [Q1, Ph]) (by simp [Q1, Ph]) hR13 K4 (fun _ _ h => h) b3_ b4_ b1_ b1_.size (by have := HL.out.2; have := hja.out.2.2.2.2; simp only [Pu, Pp]; omega) ?_; intro v14 w14 hR14 _ hg14 _; have S14 := b5_ v14 w14 _ hR14 hg14; obtain ⟨A14, c14, e14⟩ := Kd.R_slice hR14; generalize (List.length _) = n14 at e14; subst e14; rw [Pu] at S14; replace S14 := A7.mk S14; clear hR13 hR14 hg13 hg14 hat13 b1_ b2_ b3_ b4_ b5_))
          all_goals (
           go_wp2;refine Qf (Qi (t := 4) (u := 5) rfl _ _ _) rfl ?_;have hgl := G9 (x := ⟨2, id, pa, af, ki, tx, tr⟩) (q := q) I.out hja.out.1 hja.out.2.1;rw [show ((BN ks q (Kn.cut (⟨2, id, pa, af, ki, tx, tr⟩ : Ed).id)).map As).drop (ja + 1) = [] from hdr.out] at hgl;have S15 := BW S14.out;rw [hRn.out];exact ⟨A14, _, c14, rfl, by show Au w0 Z (Bo CL 66 w0.heap.size _ ((CW ks q ⟨2, id, pa, af, ki, tx, tr⟩).map As) :: L) F _; rw [<- hgl]; exact S15⟩)
         ·have hcm2 : ¬ ja + 1 = c := fun e => hcm e.symm
          go_region_law (first
           | (refine Kd.R_append_rows_step CL (w0 := w0) w0.heap.size (by rfl) (.tmp 111) (.tmp 114) 64 66 (.agg #[(.int .i64 0), (.int .i64 0), (.string ⟨#[]⟩), (.string ⟨#[]⟩), (.slice none 0 0), (.slice none 0 0)]) 96 (by rfl) Try.underlying64 FR rfl (by decide) (by omega) (.slice (some ⟨wq.heap.size, 0, none⟩) 0 0) [] (((BN ks q (Kn.cut id)).map As).take ja) (some ad) ja c ok okp (by simp [Q1, Ph]) (by simp [Q1, Ph]) g3_ (GO g4_ j3) (fun _ _ h => h) g1_ g2_ HS.out.1 HS.out.2 (by have := HL.out.2; have := hja.out.2.2.2.2; simp only [Qu]; omega) ?_; intro v13 w13 hR13 _ hg13 hat13; obtain ⟨b1_, b2_, b3_, b4_, b5_⟩ := g5_ v13 w13 _ hR13 hg13 hat13)
           | (refine Kd.R_append_rows_step CL (w0 := w0) w0.heap.size (by rfl) (.tmp 115) (.tmp 119) 64 66 (.agg #[(.int .i64 0), (.int .i64 0), (.string ⟨#[]⟩), (.string ⟨#[]⟩), (.slice none 0 0), (.slice none 0 0)]) 96 (by rfl) Try.underlying64 FR rfl (by decide) (by omega) v13 ([] ++ ((BN ks q (Kn.cut id)).map As).take ja) (((BN ks q (Kn.cut id)).map As).drop (ja + 1)) (some (ad.add ((ja + 1) * 6))) (n - (ja + 1)) (c - (ja + 1)) ok okp (by simp [Q1, Ph]) (by simp [Q1, Ph]) hR13 (K3 b2_ j4b) (fun _ _ h => h) b3_ b4_ b1_ b1_.size (by have := HL.out.2; have := hja.out.2.2.2.2; have := HN.out.1; simp only [Pu, Pp]; omega) ?_; intro v14 w14 hR14 _ hg14 _; have S14 := b5_ v14 w14 _ hR14 hg14; obtain ⟨A14, c14, e14⟩ := Kd.R_slice hR14; generalize (List.length _) = n14 at e14; subst e14; rw [Pu] at S14; replace S14 := A7.mk S14; clear hR13 hR14 hg13 hg14 hat13 b1_ b2_ b3_ b4_ b5_))
          all_goals (
           go_wp2;refine Qf (Qi (t := 4) (u := 5) rfl _ _ _) rfl ?_;have hgl := G9 (x := ⟨2, id, pa, af, ki, tx, tr⟩) (q := q) I.out hja.out.1 hja.out.2.1;have S15 := BW S14.out;rw [hRn.out];exact ⟨A14, _, c14, rfl, by show Au w0 Z (Bo CL 66 w0.heap.size _ ((CW ks q ⟨2, id, pa, af, ki, tx, tr⟩).map As) :: L) F _; rw [<- hgl]; exact S15⟩))
       ·have hRn : R = none := hR.out.symm.trans (N3 rfl hja.out.2.2.1 hk0);replace hRn := A7.mk hRn;have hk0b : 0 < (As ka).f2.length := List.length_pos_iff.2 hk0;have k0 : decide ((0 : Int) < ((As ka).f2.length : Int)) = true := decide_eq_true (by omega);have k0c : (0 : Int) < ((As ka).f2.length : Int) := by omega
        clear hk0 ha;obtain ⟨⟨l0, l2, l3⟩, ⟨A5, c5, l5, hc5, hC5⟩, lf2, lf3, lf5, lnn, lnc, ljn⟩ := C6 S7.out (i := 0) rfl (Ci hja.out.1); clear lnn lnc;go_wp2;refine Qf (Qi (t := 4) (u := 5) rfl _ _ _) rfl ?_;exact ⟨some ad, n, c, by rw [hRn.out]; rfl, by rw [hRn.out]; exact BW S7.out⟩
     ·have hae : aI = -1 := hai.out.symm.trans (DT ha);subst hae;have hRn : R = none := hR.out.symm.trans (On rfl ha);replace hRn := A7.mk hRn;clear ha;go_wp2;refine Qf (Qi (t := 4) (u := 5) rfl _ _ _) rfl ?_;exact ⟨some ad, n, c, by rw [hRn.out]; rfl, by rw [hRn.out]; exact BW S7.out⟩
    ·by_cases h3 : so = 3
     ·subst h3;by_cases ha : id ∈ ks.map (·.id)
      ·obtain ⟨ja, ka, hja, hkai, hga, hpla, hjal⟩ := Cp I.out ha;have hae : aI = (ja : Int) := hai.out.symm.trans hpla;subst hae;have hka := A7.mk (⟨I.out.kidsLen (Pm hja), Eb I.out HN.out.2.2.1 hja⟩ : _ /\ _);have a1 : (0 : Int) <= (ja : Int) := by omega
       have a1b : decide ((0 : Int) <= (ja : Int)) = true := decide_eq_true (by omega);have a1c : decide ((ja : Int) < 0) = BK := decide_eq_false (by omega);have a1d : ¬ (ja : Int) < 0 := by omega
       have a2 : (ja : Int) < (n : Int) := by have := HN.out.1; omega
       have hja := A7.mk (⟨hja, hkai, hga, hpla, hjal⟩ : ks[ja]? = some ka /\ ka.id = id /\ CY ks id = some ka /\ AO (ks.map (·.id)) id = (ja : Int) /\ ja < ks.length);clear hkai hga hpla hjal;have hRn : R = some (DJ ks ⟨3, id, pa, af, ki, tx, tr⟩) := hR.out.symm.trans (Ot rfl hja.out.2.2.1);replace hRn := A7.mk hRn;clear ha;obtain ⟨⟨l0, l2, l3⟩, ⟨A5, c5, l5, hc5, hC5⟩, lf2, lf3, lf5, lnn, lnc, ljn⟩ := C6 S7.out (i := 0) rfl (Ci hja.out.1); clear lnn lnc
       go_upto_region 20 with fail
       have S8 := LO S7.out (Ci hja.out.1) tx;obtain ⟨wq, hwq, S8⟩ := Fc S8;rw [<- hwq];clear hwq;have S8 := A7.mk S8;clear l0 l2 l3 l5 hc5 hC5 lf2 lf3 lf5 ljn;clear e0 e1 e2 e3 e4 e5 e6 ef0 ef1 ef2 ef3 ef4 ef5 ef6;obtain ⟨⟨e0, e1, e2, e3, e4, e5, e6⟩, ef0, ef1, ef2, ef3, ef4, ef5, ef6⟩ := E9 (S8.out.at_blk 1 rfl);have hj8 : ((ks.map As).set ja ⟨(As ka).f0, ⟨(As ka).f1.f0, tx, (As ka).f1.f2, (As ka).f1.f3⟩, (As ka).f2⟩)[ja]? = some ⟨(As ka).f0, ⟨(As ka).f1.f0, tx, (As ka).f1.f2, (As ka).f1.f3⟩, (As ka).f2⟩ := List.getElem?_set_self (by rw [PM]; exact hja.out.2.2.2.2);have hj8 := A7.mk hj8;obtain ⟨⟨_, _, l3⟩, _, _, lf3, _, lnn, lnc, ljn⟩ := C6 S8.out (i := 0) rfl hj8.out;clear lnn lnc ljn;go_wp2;refine Qf (Qi (t := 4) (u := 5) rfl _ _ _) rfl ?_;have S9 := K1 S8.out hj8.out tr;have htl := Jn (x := ⟨3, id, pa, af, ki, tx, tr⟩) I.out hja.out.1 hja.out.2.1;exact ⟨some ad, n, c, by rw [hRn.out]; rfl, by rw [hRn.out]; show Au w0 Z (Bo CL 66 w0.heap.size _ ((DJ ks ⟨3, id, pa, af, ki, tx, tr⟩).map As) :: L) F _; rw [<- htl]; exact BW S9⟩
      ·have hae : aI = -1 := hai.out.symm.trans (DT ha);subst hae;have hRn : R = none := hR.out.symm.trans (Oq rfl ha);replace hRn := A7.mk hRn;clear ha;go_wp2;refine Qf (Qi (t := 4) (u := 5) rfl _ _ _) rfl ?_;exact ⟨some ad, n, c, by rw [hRn.out]; rfl, by rw [hRn.out]; exact BW S7.out⟩
     ·by_cases h4 : so = 4
      ·subst h4;by_cases ha : id ∈ ks.map (·.id)
       ·obtain ⟨ja, ka, hja, hkai, hga, hpla, hjal⟩ := Cp I.out ha;have hae : aI = (ja : Int) := hai.out.symm.trans hpla;subst hae;have hka := A7.mk (⟨I.out.kidsLen (Pm hja), Eb I.out HN.out.2.2.1 hja⟩ : _ /\ _);have a1 : (0 : Int) <= (ja : Int) := by omega
        have a1b : decide ((0 : Int) <= (ja : Int)) = true := decide_eq_true (by omega);have a1c : decide ((ja : Int) < 0) = BK := decide_eq_false (by omega);have a1d : ¬ (ja : Int) < 0 := by omega
        have a2 : (ja : Int) < (n : Int) := by have := HN.out.1; omega
        have hja := A7.mk (⟨hja, hkai, hga, hpla, hjal⟩ : ks[ja]? = some ka /\ ka.id = id /\ CY ks id = some ka /\ AO (ks.map (·.id)) id = (ja : Int) /\ ja < ks.length);clear hkai hga hpla hjal;by_cases j0 : ja = 0
        ·have d1 : decide ((ja : Int) <= 0) = true := decide_eq_true (by omega);have d1c : (ja : Int) <= 0 := by omega
         have d1e : ja <= 0 := by omega
         have hpn := hka.out.2.1 j0;have hRn : R = none := hR.out.symm.trans (N4 rfl hja.out.2.2.1 hpn);replace hRn := A7.mk hRn;clear j0 hpn ha;go_wp2;refine Qf (Qi (t := 4) (u := 5) rfl _ _ _) rfl ?_;exact ⟨some ad, n, c, by rw [hRn.out]; rfl, by rw [hRn.out]; exact BW S7.out⟩
        ·have d1 : decide ((ja : Int) <= 0) = BK := decide_eq_false (by omega);have d1c : ¬ (ja : Int) <= 0 := by omega
         have d1e : ¬ ja <= 0 := by omega
         obtain ⟨q, hq⟩ : ∃ q, ka.par = some q := by
          cases hp : ka.par with
          | none => exact absurd (hka.out.2.2 hp) j0
          | some q => exact ⟨q, rfl⟩
         have hpq : CG ks id = some q := by unfold CG; rw [hja.out.2.2.1]; exact hq
         obtain ⟨qk, hqm, hqi, _⟩ := I.out.par ka (Pm hja.out.1) q hq;obtain ⟨jq, kq, hjq, hkqi, _, hplq, hjql⟩ := Cp I.out (PF.2 ⟨qk, hqm, hqi⟩);have hklq := A7.mk (I.out.kidsLen (Pm hjq));have hq := A7.mk (⟨hq, hpq, hplq⟩ : ka.par = some q /\ CG ks id = some q /\ AO (ks.map (·.id)) q = (jq : Int));have t2 : (0 : Int) <= (jq : Int) := by omega
         have t3 : (jq : Int) < (n : Int) := by have := HN.out.1; omega
         have hjq := A7.mk (⟨hjq, hkqi⟩ : ks[jq]? = some kq /\ kq.id = q);clear j0 hpq hqm hqi hplq hjql hkqi;cases spB with
         | false =>
          have hRn : R = none := hR.out.symm.trans (ID rfl hja.out.2.2.1 (fun h => of_decide_eq_false hsp.out h.1));replace hRn := A7.mk hRn;clear ha;go_wp2;refine Qf (Qi (t := 4) (u := 5) rfl _ _ _) rfl ?_;exact ⟨some ad, n, c, by rw [hRn.out]; rfl, by rw [hRn.out]; exact BW S7.out⟩
         | true =>
          by_cases hai2 : af = id
          ·have g1 : (af == id) = true := by simp [hai2]
           have g1b : decide (af = id) = true := decide_eq_true hai2;have hRn : R = none := hR.out.symm.trans (ID rfl hja.out.2.2.1 (fun h => h.2.1 hai2));replace hRn := A7.mk hRn;clear ha hai2;go_wp2;refine Qf (Qi (t := 4) (u := 5) rfl _ _ _) rfl ?_;exact ⟨some ad, n, c, by rw [hRn.out]; rfl, by rw [hRn.out]; exact BW S7.out⟩
          ·have g1 : (af == id) = BK := by simp [hai2]
           have g1b : decide (af = id) = BK := decide_eq_false hai2;obtain ⟨p, hgp, haf⟩ : Dk ks ⟨4, id, pa, af, ki, tx, tr⟩ := of_decide_eq_true hsp.out;have hpm := PF.2 ⟨p, (Cn hgp).1, (Cn hgp).2⟩;obtain ⟨jp, kp, hjp, hkpi, hgp2, hplp, hjpl⟩ := Cp I.out hpm;obtain rfl : p = kp := Px (hgp.symm.trans hgp2);have hpe : pI = (jp : Int) := hpi.out.symm.trans hplp;subst hpe;have hkl := A7.mk (I.out.kidsLen (Pm hjp));have p2 : (0 : Int) <= (jp : Int) := by omega
           have p3 : (jp : Int) < (n : Int) := by have := HN.out.1; omega
           have haf := A7.mk haf;have hjp := A7.mk (⟨hjp, hkpi, hgp⟩ : ks[jp]? = some p /\ p.id = pa /\ CY ks pa = some p);have hpm := A7.mk hpm;clear hgp hgp2 hplp hjpl hkpi;by_cases hb : E6 ks pa id
           ·have hbe := A7.mk (decide_eq_true hb);have hRn : R = none := hR.out.symm.trans (ID rfl hja.out.2.2.1 (fun h => h.2.2 hb));replace hRn := A7.mk hRn;clear hb ha
            go_wp2_with (go_at_call 39; refine (KN S7.out (i := 0) rfl I.out HL.out.1 hpm.out id).mono ?_; rw [hbe.out]; rintro e_ w8 ⟨rfl, hb1⟩; have S8 := A7.mk (S7.out.keep hb1); clear hb1; clear e0 e1 e2 e3 e4 e5 e6 ef0 ef1 ef2 ef3 ef4 ef5 ef6; obtain ⟨⟨e0, e1, e2, e3, e4, e5, e6⟩, ef0, ef1, ef2, ef3, ef4, ef5, ef6⟩ := E9 (S8.out.at_blk 1 rfl))
            refine Qf (Qi (t := 4) (u := 5) rfl _ _ _) rfl ?_;exact ⟨some ad, n, c, by rw [hRn.out]; rfl, by rw [hRn.out]; exact BW S8.out⟩
           ·have hbe := A7.mk (decide_eq_false hb);have hRn : R = some (Ch ks q ⟨4, id, pa, af, ki, tx, tr⟩) := hR.out.symm.trans (Ov rfl hja.out.2.2.1 hq.out.1 ⟨of_decide_eq_true hsp.out, hai2, hb⟩);replace hRn := A7.mk hRn;have hmv := A7.mk (IC (x := ⟨4, id, pa, af, ki, tx, tr⟩) (q := q) I.out hjp.out.1 hjp.out.2.1 (NY I.out (Pm hjp.out.1) haf.out));clear hb ha hai2
            go_upto_region 26 with (first | (go_at_call 39; refine (KN S7.out (i := 0) rfl I.out HL.out.1 hpm.out id).mono ?_; rw [hbe.out]; rintro e_ w8 ⟨rfl, hb1⟩; have S8 := A7.mk (S7.out.keep hb1); clear hb1; clear e0 e1 e2 e3 e4 e5 e6 ef0 ef1 ef2 ef3 ef4 ef5 ef6; obtain ⟨⟨e0, e1, e2, e3, e4, e5, e6⟩, ef0, ef1, ef2, ef3, ef4, ef5, ef6⟩ := E9 (S8.out.at_blk 1 rfl)) | (go_at_call 37; refine (Jm S8.out (i := 0) rfl I.out HL.out.1 id q hq.out.2.1).mono ?_; rw [hq.out.2.2]; rintro e_ w9 ⟨rfl, hb1⟩; have S9 := A7.mk (S8.out.keep hb1); clear hb1; clear e0 e1 e2 e3 e4 e5 e6 ef0 ef1 ef2 ef3 ef4 ef5 ef6; obtain ⟨⟨e0, e1, e2, e3, e4, e5, e6⟩, ef0, ef1, ef2, ef3, ef4, ef5, ef6⟩ := E9 (S9.out.at_blk 1 rfl)))
            replace S9 := A7.mk S9.out.drew;clear e0 e1 e2 e3 e4 e5 e6 ef0 ef1 ef2 ef3 ef4 ef5 ef6;obtain ⟨⟨e0, e1, e2, e3, e4, e5, e6⟩, ef0, ef1, ef2, ef3, ef4, ef5, ef6⟩ := E9 (S9.out.at_blk 1 rfl);obtain ⟨_, ⟨A5, c5, l5, hc5, hC5⟩, _, _, lf5, lnn, lnc, ljn⟩ := C6 S9.out (i := 0) rfl (Ci hjq.out.1);clear lnn lnc ljn;obtain ⟨ys9, hys9⟩ : ∃ l, ((As kq).f2.filter fun y => decide (y ≠ id)) = l := ⟨_, rfl⟩;replace hys9 := A7.mk hys9
            go_region_law (refine Du (N := some 178) Try.func38 (by kernel_rfl) rfl #[.slice A5 (As kq).f2.length c5, .int .i64 id] (by rfl) rfl rfl (by simp [Q1, Ph]) ?_; refine (I6 hC5 hc5 (by have := HL.out.2; have := hklq.out; show kq.kids.length <= 1000000; omega) id).mono ?_; rw [hys9.out]; rintro e_ w10 ⟨A9, c9, rfl, hR9, hb1⟩; refine ⟨_, rfl, ?_⟩; have S10 := A7.mk (S9.out.rowOf_new (B := w0.heap.size) hb1 hR9 S9.out.below.size); replace lf5 := trivial; replace l5 := (Cc (hb1.block _ (Pb _ _ l5))).trans l5; have lf5 := (C6 S10.out (i := 1) rfl (Ci hjq.out.1)).2.2.2.2.1; clear hb1 hR9)
            all_goals (
             have S_ := ES S10.out (Ci hjq.out.1);have hcl : (ks.map As).set jq ⟨(As kq).f0, (As kq).f1, ys9⟩ = (BN ks kq.id (Kn.cut id)).map As := by rw [<- hys9.out]; exact GP I.out hjq.out.1
             rw [hcl, hjq.out.2] at S_;clear hcl l5 hc5 hC5 lf5;obtain ⟨wq, hwq, S_⟩ := Fc S_;rw [<- hwq];clear hwq;have S11 := A7.mk S_;clear S_;obtain ⟨p2, hp2, hp2i, hp2l, hmv2⟩ := hmv.out;have hp2 := A7.mk (⟨hp2, hp2l, hmv2⟩ : _ /\ _ /\ _);clear hp2i hp2l hmv2
             go_upto_region 27 with fail
             replace S11 := A7.mk S11.out.drew;clear e0 e1 e2 e3 e4 e5 e6 ef0 ef1 ef2 ef3 ef4 ef5 ef6;obtain ⟨⟨e0, e1, e2, e3, e4, e5, e6⟩, ef0, ef1, ef2, ef3, ef4, ef5, ef6⟩ := E9 (S11.out.at_blk 1 rfl);obtain ⟨_, ⟨A5, c5, l5, hc5, hC5⟩, _, _, lf5, lnn, lnc, ljn⟩ := C6 S11.out (i := 0) rfl (Ci hp2.out.1);clear lnn lnc ljn
             go_region_law (refine Du (N := some 192) Try.func36 (by kernel_rfl) rfl #[.slice A5 (As p2).f2.length c5, .int .i64 id, .int .i64 af] (by rfl) rfl rfl (by simp [Q1, Ph]) ?_; refine (NX hC5 hc5 (by have := HL.out.2; have := hkl.out; have := hp2.out.2.1; show p2.kids.length <= 1000000; omega) id af).mono ?_; rintro e_ w12 ⟨A9, c9, rfl, hR9, hb1⟩; refine ⟨_, rfl, ?_⟩; have S12 := A7.mk (S11.out.rowOf_new (B := w0.heap.size) hb1 hR9 S11.out.below.size); replace lf5 := trivial; replace l5 := (Cc (hb1.block _ (Pb _ _ l5))).trans l5; have lf5 := (C6 S12.out (i := 1) rfl (Ci hp2.out.1)).2.2.2.2.1; clear hb1 hR9)
             all_goals (
              have S13 := ES S12.out (Ci hp2.out.1);go_wp2;refine Qf (Qi (t := 4) (u := 5) rfl _ _ _) rfl ?_;exact ⟨some ad, n, c, by rw [hRn.out]; rfl, by rw [hRn.out]; show Au w0 Z (Bo CL 66 w0.heap.size _ ((Ch ks q ⟨4, id, pa, af, ki, tx, tr⟩).map As) :: L) F _; rw [<- hp2.out.2.2]; exact BW S13⟩))
       ·have hae : aI = -1 := hai.out.symm.trans (DT ha);subst hae;have hRn : R = none := hR.out.symm.trans (Ou rfl ha);replace hRn := A7.mk hRn;clear ha;go_wp2;refine Qf (Qi (t := 4) (u := 5) rfl _ _ _) rfl ?_;exact ⟨some ad, n, c, by rw [hRn.out]; rfl, by rw [hRn.out]; exact BW S7.out⟩
      ·have q1 : (so == 1) = BK := by simp [*]
       have q1b : ¬ so = 1 := by assumption
       have q1c : decide (so = 1) = BK := decide_eq_false (by assumption);have q2 : (so == 2) = BK := by simp [*]
       have q2b : ¬ so = 2 := by assumption
       have q2c : decide (so = 2) = BK := decide_eq_false (by assumption);have q3 : (so == 3) = BK := by simp [*]
       have q3b : ¬ so = 3 := by assumption
       have q3c : decide (so = 3) = BK := decide_eq_false (by assumption);have q4 : (so == 4) = BK := by simp [*]
       have q4b : ¬ so = 4 := by assumption
       have q4c : decide (so = 4) = BK := decide_eq_false (by assumption);have hRn : R = none := hR.out.symm.trans (N5 h1 h2 h3 h4);replace hRn := A7.mk hRn;clear h1 h2 h3 h4;go_wp2;refine Qf (Qi (t := 4) (u := 5) rfl _ _ _) rfl ?_;exact ⟨some ad, n, c, by rw [hRn.out]; rfl, by rw [hRn.out]; exact BW S7.out⟩)
end Go.Proofs.Q
