/- The texts of this claim that lie below its row, in their order: GE. -/
import Derived.Deep.RegionLaw
import Derived.Deep.QuietTactic
import Derived.BigQuiet
import Derived.Deep.DeepCutAuto
import Derived.Test.YtfmlpkeaiohknaaZA6
set_option linter.unusedVariables false
set_option linter.unusedSimpArgs false
set_option maxHeartbeats 16000000
set_option maxRecDepth 100000
open Array renaming getD_eq_getD_getElem? -> Qh
open Bool renaming false -> BK
open Go renaming Value -> Pd
open Go.Act renaming eval -> Q1
open Go.RowKit renaming wrap64 -> Pq
open Go.Value renaming int -> PE
open Int renaming toNat_natCast -> PO
open List renaming map_toArray -> PN, map_cons -> Py, map_nil -> PZ, cons_append -> PA, nil_append -> Pu, append_nil -> Qd, set_cons_zero -> Pa, set_cons_succ -> NB, setIfInBounds_toArray -> GW
open Nat renaming reduceEqDiff -> PH, le_refl -> Ps
open Option renaming getD_some -> QG
open Option.some renaming inj -> Px
namespace Go.Proofs.Q
open Go Go.RowKit Go.Lib Go.Sort Go.Proofs.V.Words Go.Proofs.V.Last Go.Proofs.V.More Go.Proofs.V.SL
attribute [local go_sem] BI BJ BY BZ Bu Bv BL BM
def kP : Kd (Int × Int) := Kd.pair (Kd.int .i64) (Kd.int .i64)
theorem KE : Kd.Heap kP := Kd.heap_pair (Kd.heap_int .i64) (Kd.heap_int .i64)
theorem Nv {w : World} {A : Option Addr} {n : Nat} {xs : List (Int × Int)} (h : Kd.C kP w A n xs) (i : Int) (h0 : 0 <= i) (h1 : i < n) : ∃ ad, A = some ad /\ w.cell? (ad.add (i.toNat * 2)) = some (.int .i64 (xs.getD i.toNat (0, 0)).1) /\ w.cell? ⟨(ad.add (i.toNat * 2)).block, (ad.add (i.toNat * 2)).off + 1, none⟩ = some (.int .i64 (xs.getD i.toNat (0, 0)).2) := by
 obtain ⟨ad, c, e, _, hK, hc0⟩ := Kd.C_get h (0, 0) i h0 h1;have hc : ∀ j u, c[j]? = some u -> w.cell? (ad.add (i.toNat * 2 + j)) = some u := hc0;obtain ⟨_, _, rfl, rfl, rfl⟩ := hK;exact ⟨ad, e, hc 0 _ rfl, by rw [<- Bh _ _ 1 (by omega)]; exact hc 1 _ rfl⟩
def CC (N M : List B8) (l : List (Int × Int)) (i : Nat) : Prop :=
 let x := l.getD i (0, 0)
 x.1 < 0 \/ (N.length : Int) <= x.1 \/ x.2 < 0 \/ (M.length : Int) <= x.2 \/ x.2 ∈ (l.take i).map (·.2) \/ (0 < i /\ x.1 <= (l.getD (i - 1) (0, 0)).1) \/ (N.getD x.1.toNat D0).f0 ≠ (M.getD x.2.toNat D0).f0
instance (N M : List B8) (l : List (Int × Int)) (i : Nat) : Decidable (CC N M l i) := by unfold CC; exact inferInstance
def Dg (N M : List B8) (l : List (Int × Int)) : Bool := decide ((∀ i, i < l.length -> ¬ CC N M l i) /\ 0 < l.length /\ l.getD 0 (0, 0) = (0, 0))
def DO (g3 g4 ga gb : Nat) (ta tb u3 u4 : Array Pd) (X : List Bj) (b : Nat -> Bool) : List Bj := [cond (b 4) (Al g3 71 (cond (b 6) u3 #[.slice none 0 0, .slice none 0 0, .slice none 0 0, .slice none 0 0])) IN, cond (b 5) (Al g4 71 (cond (b 7) u4 #[.slice none 0 0, .slice none 0 0, .slice none 0 0, .slice none 0 0])) IN, Al gb 24 tb, Al ga 24 ta] ++ X
def Ef (F : List FA) (sa sb : PS) (p q : A8) (b : Nat -> Bool) : List FA := cond (b 3) (q.F sb) [] ++ (cond (b 1) (p.F sa) [] ++ F)
def rgt.T1 : Bool × List (List Nat × List Nat) := (true, [([], []), ([0], [0]), ([], []), ([2, 1], [2]), ([], []), ([], []), ([4, 1, 3, 0, 1, 4, 5], [1, 4]), ([5, 3, 6, 0, 1, 2, 3, 4, 5, 6], [3, 5])])
def rgt.B1 : List Nat := [0, 1, 0, 7, 0, 0, 63, 127]
theorem rgt.tab1 : Cd .any (DP Try.f26 1) = rgt.T1 := by kernel_rfl
theorem rgt.bits1 : C0 rgt.T1.2 rgt.B1 = true := by kernel_rfl
theorem Is (x : B8) : (Bk x).N.length = BT x := by unfold Bk; rw [CT]; simp
theorem Ja (xa xb : B8) {A B P : Option Addr} {c d e : Nat} (prs : List (Int × Int)) (w : World) (ha : Kd.C AY w A xa.f3.length xa.f3) (hca : xa.f3.length <= c) (hb : Kd.C AY w B xb.f3.length xb.f3) (hcb : xb.f3.length <= d) (hp : Kd.C kP w P prs.length prs) (hcp : prs.length <= e)
  (na : BT xa <= 1000) (nb : BT xb <= 1000) (np : prs.length <= 100000) :
  Calls Try.prog 26 #[Ew xa A c, Ew xb B d, .slice P prs.length e] w fun e w' => e = .returned (.bool (Dg (Bk xa).N (Bk xb).N prs)) /\ Below w.heap.size w w' := by
 have S : Au w (fun k => k < w.heap.size) [] [AF kP P e prs, AF AY B d xb.f3, AF AY A c xa.f3] w := Au.start w (by intro a ha'; simp only [List.mem_cons, List.not_mem_nil, or_false] at ha'; rcases ha' with rfl | rfl | rfl; exact ⟨hcp, Kd.C_F KE hp⟩; exact ⟨hcb, Kd.C_F Cy hb⟩; exact ⟨hca, Kd.C_F Cy ha⟩);have HOa : ∀ {Z : Nat -> Prop} {l : List Bj} {F : List FA} {W : World}, Au w Z l F W -> Kd.C AY W A xa.f3.length xa.f3 -> xa.f3.length <= c -> Calls Try.prog 27 #[.agg #[.int .i64 xa.f0, .string xa.f1, .string xa.f2, .slice A xa.f3.length c]] W fun e w' => ∃ q : A8, e = .returned (.agg (q.u (Bk xa))) /\ Below W.heap.size W w' /\ Au w (fun k => Z k \/ (W.heap.size <= k /\ k < w'.heap.size)) l (q.F (Bk xa) ++ F) w' := fun SW h1 h2 => Ex SW xa (by omega) h1 h2
 have HOb : ∀ {Z : Nat -> Prop} {l : List Bj} {F : List FA} {W : World}, Au w Z l F W -> Kd.C AY W B xb.f3.length xb.f3 -> xb.f3.length <= d -> Calls Try.prog 27 #[.agg #[.int .i64 xb.f0, .string xb.f1, .string xb.f2, .slice B xb.f3.length d]] W fun e w' => ∃ q : A8, e = .returned (.agg (q.u (Bk xb))) /\ Below W.heap.size W w' /\ Au w (fun k => Z k \/ (W.heap.size <= k /\ k < w'.heap.size)) l (q.F (Bk xb) ++ F) w' := fun SW h1 h2 => Ex SW xb (by omega) h1 h2
 obtain ⟨sa, hsa⟩ : ∃ s, s = Bk xa := ⟨_, rfl⟩;obtain ⟨sb, hsb⟩ : ∃ s, s = Bk xb := ⟨_, rfl⟩;rw [<- hsa] at HOa;rw [<- hsb] at HOb;rw [<- hsa, <- hsb];replace HOa := A7.mk @HOa;replace HOb := A7.mk @HOb;obtain ⟨nP, hnP⟩ : ∃ nP, prs.length = nP := ⟨_, rfl⟩;have hB := A7.mk (⟨hnP, np, na, nb, hsa, hsb⟩ : _ /\ _ /\ _ /\ _ /\ _ /\ _);rw [hnP];obtain ⟨R, hR⟩ : ∃ R, Dg sa.N sb.N prs = R := ⟨_, rfl⟩;rw [hR];replace hR := A7.mk hR;clear ha hca hb hcb hp hcp na nb np hsa hsb;unfold Ew;have hmm := @run_makeMap Try.prog;have hu24 := Try.underlying24;have hu71 := Try.underlying71;go_enter Try.func26, Try.ntmps26
 go_wp2_with (first | ((with_reducible refine AE (N := 3) rfl ?_); refine Aw ?hg (N := 3) ?hd (cs := #[.int .i64 xa.f0, .string xa.f1, .string xa.f2, .slice A xa.f3.length c]) (t := 24) ?hr ?_; (case hd => rfl); (case hg => rfl); (case hr => first | (go_simp; done) | (go_simp; rfl)); intro ga hg_ w1 hbox hb; replace S := S.box hg_ hbox hb; clear hbox hb hg_) | ((with_reducible refine AE (N := 4) rfl ?_); refine Aw ?hg (N := 4) ?hd (cs := #[.int .i64 xb.f0, .string xb.f1, .string xb.f2, .slice B xb.f3.length d]) (t := 24) ?hr ?_; (case hd => rfl); (case hg => rfl); (case hr => first | (go_simp; done) | (go_simp; rfl)); intro gb hg_ w2 hbox hb; replace S := S.box hg_ hbox hb; clear hbox hb hg_))
 replace S := S.keep (AD (Below.refl w2.heap.size w2));have E : (Au w (fun k => k < w.heap.size) (DO 0 0 ga gb #[.int .i64 xa.f0, .string xa.f1, .string xa.f2, .slice A xa.f3.length c] #[.int .i64 xb.f0, .string xb.f1, .string xb.f2, .slice B xb.f3.length d] (A8.u ⟨none, 0, none, 0, none, 0, none, 0⟩ sa) (A8.u ⟨none, 0, none, 0, none, 0, none, 0⟩ sb) [] (fun _ => BK)) (Ef [AF kP P e prs, AF AY B d xb.f3, AF AY A c xa.f3] sa sb ⟨none, 0, none, 0, none, 0, none, 0⟩ ⟨none, 0, none, 0, none, 0, none, 0⟩ (fun _ => BK)) w2.drew) := S.with (S.st.emp_new.emp_new)
 clear S;refine Cu (n := 8) (S := fun w' => True) (ds := []) #[BK, BK, BK, BK, BK, BK, BK, BK] (by kernel_rfl) rfl rfl trivial (fun hHeld => ?_);refine BQ rgt.tab1 rgt.bits1 (fun HT_ HW_ => ?_);generalize w2.drew = w3_ at E hHeld ⊢;refine DY [0, 1, 2, 3, 4, 5, 6, 7] (fun a0_ b a w' => ∃ (ZZ : Nat -> Prop) (g3 : Nat) (g4 : Nat) (p8 : A8) (q8 : A8) (m1_ : Pd) (m3_ : Pd) (m4_ : Pd) (m5_ : Pd), a = Bm a0_ b [(0, 12, (.agg #[.int .i64 xa.f0, .string xa.f1, .string xa.f2, .slice A xa.f3.length c] : Pd)), (1, 13, m1_), (2, 14, (.agg #[.int .i64 xb.f0, .string xb.f1, .string xb.f2, .slice B xb.f3.length d] : Pd)), (3, 15, m3_), (4, 7, m4_), (5, 8, m5_)] /\ ((Au w ZZ (DO g3 g4 ga gb #[.int .i64 xa.f0, .string xa.f1, .string xa.f2, .slice A xa.f3.length c] #[.int .i64 xb.f0, .string xb.f1, .string xb.f2, .slice B xb.f3.length d] (A8.u p8 sa) (A8.u q8 sb) [] b) (Ef [AF kP P e prs, AF AY B d xb.f3, AF AY A c xa.f3] sa sb p8 q8 b) w')) /\ (b 1 = true -> (m1_ : Pd) = (.agg (A8.u p8 sa))) /\ (b 3 = true -> (m3_ : Pd) = (.agg (A8.u q8 sb))) /\ (b 4 = true -> (m4_ : Pd) = .pointer (some ⟨g3, 0, none⟩)) /\ (b 5 = true -> (m5_ : Pd) = .pointer (some ⟨g4, 0, none⟩))) HT_.out HW_.out (by kernel_rfl) (by kernel_rfl) ?_ ?_ ?_
 ·exact ⟨(fun k => k < w.heap.size), 0, 0, ⟨none, 0, none, 0, none, 0, none, 0⟩, ⟨none, 0, none, 0, none, 0, none, 0⟩, .bool BK, .bool BK, .bool BK, .bool BK, by simp only [Bm, Bool.false_eq_true, if_false], E, fun h_ => absurd h_ (by decide), fun h_ => absurd h_ (by decide), fun h_ => absurd h_ (by decide), fun h_ => absurd h_ (by decide)⟩
 ·skip
  clear E;refine Am ?_ ?_
  ·rintro b a w' ⟨ZZ, g3, g4, p8, q8, m1_, m3_, m4_, m5_, ha, Q_E, Q_X1_, Q_X3_, Q_X4_, Q_X5_⟩ hb_ hon hoff;refine ⟨_, rfl, fun K hK => ?_⟩;have e3 : a.tmps[3]? = some (.pointer (some ⟨ga, 0, none⟩)) := by rw [ha]; exact (AU rfl).trans rfl
   replace ha := A7.mk ha;have E := A7.mk Q_E;obtain ⟨⟨hc0_, hc1_, hc2_, hc3_⟩, _⟩ := box4 (E.out.at_blk 3 rfl);refine Be (w1 := w') (v := (.agg #[.int .i64 xa.f0, .string xa.f1, .string xa.f2, .slice A xa.f3.length c] : Pd)) (by rfl) rfl ?_ ?_
   ·go_simp
    (try simp only [Ar])
    try rfl
   refine hK.out _ _ ⟨ZZ, g3, g4, p8, q8, m1_, m3_, m4_, m5_, (by rw [ha.out]; exact At 0 hb_ rfl rfl rfl), Q_E, fun h0_ => absurd ((hoff 1 (by kernel_rfl)).symm.trans h0_) (by decide), fun h0_ => absurd ((hoff 3 (by kernel_rfl)).symm.trans h0_) (by decide), Q_X4_, Q_X5_⟩
  refine Am ?_ ?_
  ·rintro b a w' ⟨ZZ, g3, g4, p8, q8, m1_, m3_, m4_, m5_, ha, Q_E, Q_X1_, Q_X3_, Q_X4_, Q_X5_⟩ hb_ hon hoff;refine ⟨_, rfl, fun K hK => ?_⟩;have e12 : a.tmps[12]? = some ((.agg #[.int .i64 xa.f0, .string xa.f1, .string xa.f2, .slice A xa.f3.length c] : Pd)) := by rw [ha]; exact Ax (e := (0, 12, (.agg #[.int .i64 xa.f0, .string xa.f1, .string xa.f2, .slice A xa.f3.length c] : Pd))) 0 rfl rfl (hon 0 (by kernel_rfl)) rfl
   replace ha := A7.mk ha;have E := A7.mk Q_E;refine Du Try.func27 (by kernel_rfl) rfl #[.agg #[.int .i64 xa.f0, .string xa.f1, .string xa.f2, .slice A xa.f3.length c]] (by rfl) rfl rfl (by first | (simp only [PN, Py, PZ, Q1, Qh, QG, e12]; done) | (simp only [PN, Py, PZ, Q1, Qh, QG, e12]; rfl)) ?_;refine (HOa.out E.out (E.out.rdC 2 (by simp only [Ef, hb_, (hoff 3 (by kernel_rfl))]; rfl)) (E.out.rdL 2 (by simp only [Ef, hb_, (hoff 3 (by kernel_rfl))]; rfl))).mono ?_;rintro e w20 ⟨p_, rfl, hb, E2_⟩;refine ⟨_, rfl, ?_⟩;have E3_ : (Au w (fun k => ZZ k \/ (w'.heap.size <= k /\ k < w20.heap.size)) (DO g3 g4 ga gb #[.int .i64 xa.f0, .string xa.f1, .string xa.f2, .slice A xa.f3.length c] #[.int .i64 xb.f0, .string xb.f1, .string xb.f2, .slice B xb.f3.length d] (A8.u p_ sa) (A8.u q8 sb) [] (up b 1)) (Ef [AF kP P e prs, AF AY B d xb.f3, AF AY A c xa.f3] sa sb p_ q8 (up b 1)) w20) := by have h_ := E2_; simp only [Ef, DO, PA, Pu, Qd, Pa, NB, GW, up, PH, reduceIte, cond_true, cond_false, hb_, (hoff 3 (by kernel_rfl)), (hoff 6 (by kernel_rfl)), (hoff 7 (by kernel_rfl))] at h_ ⊢; exact h_
   refine hK.out _ _ ⟨(fun k => ZZ k \/ (w'.heap.size <= k /\ k < w20.heap.size)), g3, g4, p_, q8, ((.agg (A8.u p_ sa))), m3_, m4_, m5_, (by rw [ha.out]; exact At 1 hb_ rfl rfl rfl), E3_, fun _ => rfl, fun h0_ => absurd ((hoff 3 (by kernel_rfl)).symm.trans h0_) (by decide), Q_X4_, Q_X5_⟩
  refine Am ?_ ?_
  ·rintro b a w' ⟨ZZ, g3, g4, p8, q8, m1_, m3_, m4_, m5_, ha, Q_E, Q_X1_, Q_X3_, Q_X4_, Q_X5_⟩ hb_ hon hoff;refine ⟨_, rfl, fun K hK => ?_⟩;have e4 : a.tmps[4]? = some (.pointer (some ⟨gb, 0, none⟩)) := by rw [ha]; exact (AU rfl).trans rfl
   replace ha := A7.mk ha;have E := A7.mk Q_E;obtain ⟨⟨hc0_, hc1_, hc2_, hc3_⟩, _⟩ := box4 (E.out.at_blk 2 rfl);refine Be (w1 := w') (v := (.agg #[.int .i64 xb.f0, .string xb.f1, .string xb.f2, .slice B xb.f3.length d] : Pd)) (by rfl) rfl ?_ ?_
   ·go_simp
    (try simp only [Ar])
    try rfl
   refine hK.out _ _ ⟨ZZ, g3, g4, p8, q8, m1_, m3_, m4_, m5_, (by rw [ha.out]; exact At 2 hb_ rfl rfl rfl), Q_E, Q_X1_, fun h0_ => absurd ((hoff 3 (by kernel_rfl)).symm.trans h0_) (by decide), Q_X4_, Q_X5_⟩
  refine Am ?_ ?_
  ·rintro b a w' ⟨ZZ, g3, g4, p8, q8, m1_, m3_, m4_, m5_, ha, Q_E, Q_X1_, Q_X3_, Q_X4_, Q_X5_⟩ hb_ hon hoff;refine ⟨_, rfl, fun K hK => ?_⟩;have e14 : a.tmps[14]? = some ((.agg #[.int .i64 xb.f0, .string xb.f1, .string xb.f2, .slice B xb.f3.length d] : Pd)) := by rw [ha]; exact Ax (e := (2, 14, (.agg #[.int .i64 xb.f0, .string xb.f1, .string xb.f2, .slice B xb.f3.length d] : Pd))) 2 rfl rfl (hon 2 (by kernel_rfl)) rfl
   replace ha := A7.mk ha;have E := A7.mk Q_E;refine Du Try.func27 (by kernel_rfl) rfl #[.agg #[.int .i64 xb.f0, .string xb.f1, .string xb.f2, .slice B xb.f3.length d]] (by rfl) rfl rfl (by first | (simp only [PN, Py, PZ, Q1, Qh, QG, e14]; done) | (simp only [PN, Py, PZ, Q1, Qh, QG, e14]; rfl)) ?_;refine (HOb.out E.out (E.out.rdC 5 (by simp only [Ef, hb_, (hon 1 (by kernel_rfl)), cond_true]; rfl)) (E.out.rdL 5 (by simp only [Ef, hb_, (hon 1 (by kernel_rfl)), cond_true]; rfl))).mono ?_;rintro e w20 ⟨p_, rfl, hb, E2_⟩;refine ⟨_, rfl, ?_⟩;have E3_ : (Au w (fun k => ZZ k \/ (w'.heap.size <= k /\ k < w20.heap.size)) (DO g3 g4 ga gb #[.int .i64 xa.f0, .string xa.f1, .string xa.f2, .slice A xa.f3.length c] #[.int .i64 xb.f0, .string xb.f1, .string xb.f2, .slice B xb.f3.length d] (A8.u p8 sa) (A8.u p_ sb) [] (up b 3)) (Ef [AF kP P e prs, AF AY B d xb.f3, AF AY A c xa.f3] sa sb p8 p_ (up b 3)) w20) := by have h_ := E2_; simp only [Ef, DO, PA, Pu, Qd, Pa, NB, GW, up, PH, reduceIte, cond_true, cond_false, hb_, (hon 1 (by kernel_rfl)), (hoff 6 (by kernel_rfl)), (hoff 7 (by kernel_rfl))] at h_ ⊢; exact h_
   refine hK.out _ _ ⟨(fun k => ZZ k \/ (w'.heap.size <= k /\ k < w20.heap.size)), g3, g4, p8, p_, m1_, ((.agg (A8.u p_ sb))), m4_, m5_, (by rw [ha.out]; exact At 3 hb_ rfl rfl rfl), E3_, Q_X1_, fun _ => rfl, Q_X4_, Q_X5_⟩
  refine Am ?_ ?_
  ·rintro b a w' ⟨ZZ, g3, g4, p8, q8, m1_, m3_, m4_, m5_, ha, Q_E, Q_X1_, Q_X3_, Q_X4_, Q_X5_⟩ hb_ hon hoff;refine ⟨_, rfl, fun K hK => ?_⟩;replace ha := A7.mk ha;have E := A7.mk Q_E;refine Be (w1 := w'.alloc (.cells #[.slice none 0 0, .slice none 0 0, .slice none 0 0, .slice none 0 0] 71)) (v := .pointer (some ⟨w'.heap.size, 0, none⟩)) (by rfl) rfl ?_ ?_
   ·go_simp
    try rfl
   have E2_ := E.out.newAt 0 (by simp only [DO, hb_]; rfl) #[.slice none 0 0, .slice none 0 0, .slice none 0 0, .slice none 0 0] 71;have E3_ : (Au w ZZ (DO w'.heap.size g4 ga gb #[.int .i64 xa.f0, .string xa.f1, .string xa.f2, .slice A xa.f3.length c] #[.int .i64 xb.f0, .string xb.f1, .string xb.f2, .slice B xb.f3.length d] (A8.u p8 sa) (A8.u q8 sb) [] (up b 4)) (Ef [AF kP P e prs, AF AY B d xb.f3, AF AY A c xa.f3] sa sb p8 q8 (up b 4)) (w'.alloc (.cells #[.slice none 0 0, .slice none 0 0, .slice none 0 0, .slice none 0 0] 71))) := by have h_ := E2_; simp only [Ef, DO, PA, Pu, Qd, Pa, NB, GW, up, PH, reduceIte, cond_true, cond_false, hb_, (hoff 6 (by kernel_rfl))] at h_ ⊢; exact h_
   refine hK.out _ _ ⟨ZZ, w'.heap.size, g4, p8, q8, m1_, m3_, (.pointer (some ⟨w'.heap.size, 0, none⟩)), m5_, (by rw [ha.out]; exact At 4 hb_ rfl rfl rfl), E3_, Q_X1_, Q_X3_, fun _ => rfl, Q_X5_⟩
  refine Am ?_ ?_
  ·rintro b a w' ⟨ZZ, g3, g4, p8, q8, m1_, m3_, m4_, m5_, ha, Q_E, Q_X1_, Q_X3_, Q_X4_, Q_X5_⟩ hb_ hon hoff;refine ⟨_, rfl, fun K hK => ?_⟩;replace ha := A7.mk ha;have E := A7.mk Q_E;refine Be (w1 := w'.alloc (.cells #[.slice none 0 0, .slice none 0 0, .slice none 0 0, .slice none 0 0] 71)) (v := .pointer (some ⟨w'.heap.size, 0, none⟩)) (by rfl) rfl ?_ ?_
   ·go_simp
    try rfl
   have E2_ := E.out.newAt 1 (by simp only [DO, hb_]; rfl) #[.slice none 0 0, .slice none 0 0, .slice none 0 0, .slice none 0 0] 71;have E3_ : (Au w ZZ (DO g3 w'.heap.size ga gb #[.int .i64 xa.f0, .string xa.f1, .string xa.f2, .slice A xa.f3.length c] #[.int .i64 xb.f0, .string xb.f1, .string xb.f2, .slice B xb.f3.length d] (A8.u p8 sa) (A8.u q8 sb) [] (up b 5)) (Ef [AF kP P e prs, AF AY B d xb.f3, AF AY A c xa.f3] sa sb p8 q8 (up b 5)) (w'.alloc (.cells #[.slice none 0 0, .slice none 0 0, .slice none 0 0, .slice none 0 0] 71))) := by have h_ := E2_; simp only [Ef, DO, PA, Pu, Qd, Pa, NB, GW, up, PH, reduceIte, cond_true, cond_false, hb_, (hoff 7 (by kernel_rfl))] at h_ ⊢; exact h_
   refine hK.out _ _ ⟨ZZ, g3, w'.heap.size, p8, q8, m1_, m3_, m4_, (.pointer (some ⟨w'.heap.size, 0, none⟩)), (by rw [ha.out]; exact At 5 hb_ rfl rfl rfl), E3_, Q_X1_, Q_X3_, Q_X4_, fun _ => rfl⟩
  refine Am ?_ ?_
  ·rintro b a w' ⟨ZZ, g3, g4, p8, q8, m1_, m3_, m4_, m5_, ha, Q_E, Q_X1_, Q_X3_, Q_X4_, Q_X5_⟩ hb_ hon hoff;refine ⟨_, rfl, fun K hK => ?_⟩;have e7 : a.tmps[7]? = some (m4_) := by rw [ha]; exact Ax (e := (4, 7, m4_)) 4 rfl rfl (hon 4 (by kernel_rfl)) rfl
   rw [Q_X4_ (hon 4 (by kernel_rfl))] at e7;have e13 : a.tmps[13]? = some (m1_) := by rw [ha]; exact Ax (e := (1, 13, m1_)) 1 rfl rfl (hon 1 (by kernel_rfl)) rfl
   rw [Q_X1_ (hon 1 (by kernel_rfl))] at e13;replace ha := A7.mk ha;have E := A7.mk Q_E;simp only [A8.u] at e13;obtain ⟨⟨hc0_, hc1_, hc2_, hc3_⟩, hf0_, hf1_, hf2_, hf3_⟩ := box4 (c0 := .slice none 0 0) (c1 := .slice none 0 0) (c2 := .slice none 0 0) (c3 := .slice none 0 0) (E.out.at_blk 0 (by simp only [DO, (hon 4 (by kernel_rfl)), hb_]; rfl));refine DG (w1 := ((((w'.setCell ⟨g3, 0, none⟩ (.slice p8.an sa.N.length p8.cn)).setCell ⟨g3, 1, none⟩ (.slice p8.ap sa.P.length p8.cp)).setCell ⟨g3, 2, none⟩ (.slice p8.az sa.Z.length p8.cz)).setCell ⟨g3, 3, none⟩ (.slice p8.ak sa.K.length p8.ck))) (by rfl) rfl ?_ ?_
   ·go_simp
    try rfl
   have E2_ := E.out.set4At 0 (c0 := .slice none 0 0) (c1 := .slice none 0 0) (c2 := .slice none 0 0) (c3 := .slice none 0 0) (by simp only [DO, (hon 4 (by kernel_rfl)), hb_]; rfl) (.slice p8.an sa.N.length p8.cn) (.slice p8.ap sa.P.length p8.cp) (.slice p8.az sa.Z.length p8.cz) (.slice p8.ak sa.K.length p8.ck);have E3_ : (Au w ZZ (DO g3 g4 ga gb #[.int .i64 xa.f0, .string xa.f1, .string xa.f2, .slice A xa.f3.length c] #[.int .i64 xb.f0, .string xb.f1, .string xb.f2, .slice B xb.f3.length d] (A8.u p8 sa) (A8.u q8 sb) [] (up b 6)) (Ef [AF kP P e prs, AF AY B d xb.f3, AF AY A c xa.f3] sa sb p8 q8 (up b 6)) ((((w'.setCell ⟨g3, 0, none⟩ (.slice p8.an sa.N.length p8.cn)).setCell ⟨g3, 1, none⟩ (.slice p8.ap sa.P.length p8.cp)).setCell ⟨g3, 2, none⟩ (.slice p8.az sa.Z.length p8.cz)).setCell ⟨g3, 3, none⟩ (.slice p8.ak sa.K.length p8.ck))) := by have h_ := E2_; simp only [Ef, DO, PA, Pu, Qd, Pa, NB, GW, up, PH, reduceIte, cond_true, cond_false, hb_, (hon 4 (by kernel_rfl)), (hon 1 (by kernel_rfl)), (hon 3 (by kernel_rfl))] at h_ ⊢; exact h_
   refine hK.out _ _ ⟨ZZ, g3, g4, p8, q8, m1_, m3_, m4_, m5_, (by rw [ha.out]; exact BX (v := undef) rfl), E3_, Q_X1_, Q_X3_, Q_X4_, Q_X5_⟩
  refine Am ?_ ?_
  ·rintro b a w' ⟨ZZ, g3, g4, p8, q8, m1_, m3_, m4_, m5_, ha, Q_E, Q_X1_, Q_X3_, Q_X4_, Q_X5_⟩ hb_ hon hoff;refine ⟨_, rfl, fun K hK => ?_⟩;have e8 : a.tmps[8]? = some (m5_) := by rw [ha]; exact Ax (e := (5, 8, m5_)) 5 rfl rfl (hon 5 (by kernel_rfl)) rfl
   rw [Q_X5_ (hon 5 (by kernel_rfl))] at e8;have e15 : a.tmps[15]? = some (m3_) := by rw [ha]; exact Ax (e := (3, 15, m3_)) 3 rfl rfl (hon 3 (by kernel_rfl)) rfl
   rw [Q_X3_ (hon 3 (by kernel_rfl))] at e15;replace ha := A7.mk ha;have E := A7.mk Q_E;simp only [A8.u] at e15;obtain ⟨⟨hc0_, hc1_, hc2_, hc3_⟩, hf0_, hf1_, hf2_, hf3_⟩ := box4 (c0 := .slice none 0 0) (c1 := .slice none 0 0) (c2 := .slice none 0 0) (c3 := .slice none 0 0) (E.out.at_blk 1 (by simp only [DO, (hon 5 (by kernel_rfl)), hb_]; rfl));refine DG (w1 := ((((w'.setCell ⟨g4, 0, none⟩ (.slice q8.an sb.N.length q8.cn)).setCell ⟨g4, 1, none⟩ (.slice q8.ap sb.P.length q8.cp)).setCell ⟨g4, 2, none⟩ (.slice q8.az sb.Z.length q8.cz)).setCell ⟨g4, 3, none⟩ (.slice q8.ak sb.K.length q8.ck))) (by rfl) rfl ?_ ?_
   ·go_simp
    try rfl
   have E2_ := E.out.set4At 1 (c0 := .slice none 0 0) (c1 := .slice none 0 0) (c2 := .slice none 0 0) (c3 := .slice none 0 0) (by simp only [DO, (hon 5 (by kernel_rfl)), hb_]; rfl) (.slice q8.an sb.N.length q8.cn) (.slice q8.ap sb.P.length q8.cp) (.slice q8.az sb.Z.length q8.cz) (.slice q8.ak sb.K.length q8.ck);have E3_ : (Au w ZZ (DO g3 g4 ga gb #[.int .i64 xa.f0, .string xa.f1, .string xa.f2, .slice A xa.f3.length c] #[.int .i64 xb.f0, .string xb.f1, .string xb.f2, .slice B xb.f3.length d] (A8.u p8 sa) (A8.u q8 sb) [] (up b 7)) (Ef [AF kP P e prs, AF AY B d xb.f3, AF AY A c xa.f3] sa sb p8 q8 (up b 7)) ((((w'.setCell ⟨g4, 0, none⟩ (.slice q8.an sb.N.length q8.cn)).setCell ⟨g4, 1, none⟩ (.slice q8.ap sb.P.length q8.cp)).setCell ⟨g4, 2, none⟩ (.slice q8.az sb.Z.length q8.cz)).setCell ⟨g4, 3, none⟩ (.slice q8.ak sb.K.length q8.ck))) := by have h_ := E2_; simp only [Ef, DO, PA, Pu, Qd, Pa, NB, GW, up, PH, reduceIte, cond_true, cond_false, hb_, (hon 5 (by kernel_rfl)), (hon 3 (by kernel_rfl)), (hon 3 (by kernel_rfl)), (hon 6 (by kernel_rfl))] at h_ ⊢; exact h_
   refine hK.out _ _ ⟨ZZ, g3, g4, p8, q8, m1_, m3_, m4_, m5_, (by rw [ha.out]; exact BX (v := undef) rfl), E3_, Q_X1_, Q_X3_, Q_X4_, Q_X5_⟩
  exact CB
 ·rintro b a w' hall ⟨ZZ, g3, g4, p8, q8, m1_, m3_, m4_, m5_, ha, Q_E, Q_X1_, Q_X3_, Q_X4_, Q_X5_⟩;clear E;have hb0_ := hall 0 (by kernel_rfl);have hb1_ := hall 1 (by kernel_rfl);have hb2_ := hall 2 (by kernel_rfl);have hb3_ := hall 3 (by kernel_rfl);have hb4_ := hall 4 (by kernel_rfl);have hb5_ := hall 5 (by kernel_rfl);have hb6_ := hall 6 (by kernel_rfl);have hb7_ := hall 7 (by kernel_rfl);subst ha;obtain rfl := Q_X1_ hb1_;obtain rfl := Q_X3_ hb3_;obtain rfl := Q_X4_ hb4_;obtain rfl := Q_X5_ hb5_;simp only [Bm, hb0_, hb1_, hb2_, hb3_, hb4_, hb5_, hb6_, hb7_, if_true, Act.put, GW, Pa, NB];have E := A7.mk Q_E;clear Q_E;have S := E.out; simp only [DO, Ef, cond_true, hb1_, hb3_, hb4_, hb5_, hb6_, hb7_, A8.u, A8.F, PA, Pu] at S;clear hall hb0_ hb1_ hb2_ hb3_ hb4_ hb5_ hb6_ hb7_;clear E;obtain ⟨an, cn, ap, cp, az, cz, ak, ck⟩ := p8;obtain ⟨bn, dn, bp, dp, bz, dz, bk, dk⟩ := q8;dsimp only at S ⊢;obtain ⟨nA, hnA⟩ : ∃ nA, sa.N.length = nA := ⟨_, rfl⟩;obtain ⟨nB, hnB⟩ : ∃ nB, sb.N.length = nB := ⟨_, rfl⟩;rw [hnA, hnB] at S;have hA6 : nA <= 1000 := by have h9 := hB.out; rw [<- hnA, h9.2.2.2.2.1, Is]; exact h9.2.2.1
  have hB6 : nB <= 1000 := by have h9 := hB.out; rw [<- hnB, h9.2.2.2.2.2, Is]; exact h9.2.2.2.1
  replace hnA := A7.mk hnA;replace hnB := A7.mk hnB;replace hA6 := A7.mk hA6;replace hB6 := A7.mk hB6;replace S := A7.mk S;clear HOa HOb hHeld;go_wp2;have S9 := Gk S.out;obtain ⟨bm, hbm⟩ : ∃ b, w'.heap.size = b := ⟨_, rfl⟩;rw [hbm] at S9 ⊢;obtain ⟨wq, hwq⟩ : ∃ wq, w'.alloc (.map #[] 0) = wq := ⟨_, rfl⟩;rw [hwq] at S9 ⊢;clear hwq hbm S;replace S9 := A7.mk S9
  go_loopg [19] (nP + 1) (fun kq v19 W => ∃ (i m : Nat) (K : Int -> Bool), v19 = .int .i64 (i : Int) /\ A7 (i <= nP /\ kq = nP - i + 1 /\ m <= i) /\ A7 ((∀ j, j < i -> ¬ CC sa.N sb.N prs j) /\ ∀ x, K x = true ↔ x ∈ (prs.take i).map (·.2)) /\ A7 (Au w ZZ (Df bm m K :: [Al g3 71 #[.slice an nA cn, .slice ap sa.P.length cp, .slice az sa.Z.length cz, .slice ak sa.K.length ck], Al g4 71 #[.slice bn nB dn, .slice bp sb.P.length dp, .slice bz sb.Z.length dz, .slice bk sb.K.length dk], Al gb 24 #[.int .i64 xb.f0, .string xb.f1, .string xb.f2, .slice B xb.f3.length d], Al ga 24 #[.int .i64 xa.f0, .string xa.f1, .string xa.f2, .slice A xa.f3.length c]]) [AF AY bn dn sb.N, AF (Kd.int .i64) bp dp sb.P, AF (Kd.int .i64) bz dz sb.Z, AF (Kd.slice 3 (Kd.int .i64)) bk dk sb.K, AF AY an cn sa.N, AF (Kd.int .i64) ap cp sa.P, AF (Kd.int .i64) az cz sa.Z, AF (Kd.slice 3 (Kd.int .i64)) ak ck sa.K, AF kP P e prs, AF AY B d xb.f3, AF AY A c xa.f3] W))
  case atStart => exact ⟨0, 0, fun _ => BK, rfl, ⟨Nat.zero_le _, rfl, Ps _⟩, ⟨fun j hj => absurd hj (Nat.not_lt_zero _), fun x => by simp⟩, S9⟩
  case round =>
   clear S9;obtain ⟨i, m, K, rfl, hi, hg, S⟩ := hrel;by_cases hlt2 : i < nP
   ·have i1 : decide ((i : Int) < (nP : Int)) = true := decide_eq_true (by omega);have i2 : (0 : Int) <= (i : Int) := by omega
    have i3 : (i : Int) < (nP : Int) := by omega
    obtain ⟨adP, rfl, x0, x1⟩ := Nv (S.out.rdC 8 rfl) (i : Int) i2 (by rw [hB.out.1]; exact i3);simp only [PO] at x0 x1;obtain ⟨⟨u, v⟩, hx⟩ : ∃ x, prs.getD i (0, 0) = x := ⟨_, rfl⟩;rw [hx] at x0 x1;dsimp only at x0 x1;have hbad : CC sa.N sb.N prs i ↔ (u < 0 \/ (nA : Int) <= u \/ v < 0 \/ (nB : Int) <= v \/ K v = true \/ (0 < i /\ u <= (prs.getD (i - 1) (0, 0)).1) \/ (sa.N.getD u.toNat D0).f0 ≠ (sb.N.getD v.toNat D0).f0) := by
     unfold CC;rw [hx, hnA.out, hnB.out, hg.out.2]
    have S0 := S
    go_upto_region 6 with ((with_reducible refine AE (N := 11) rfl ?_); refine Aw ?hg (N := 11) ?hd (cs := #[.int .i64 0, .int .i64 0]) (t := 50) ?hr ?_; (case hd => rfl); (case hg => rfl); (case hr => first | (go_simp; done) | (go_simp; rfl)); intro g11 hg_ w5 hbox hb; have S1 := S.out.box hg_ hbox hb; clear hbox hb hg_; have z0 := (Aa (S1.at_blk 0 rfl) 0).trans (show (#[PE .i64 0, .int .i64 0] : Array Pd)[0]? = some (.int .i64 0) from rfl); have z1 := (Aa (S1.at_blk 0 rfl) 1).trans (show (#[PE .i64 0, .int .i64 0] : Array Pd)[1]? = some (.int .i64 0) from rfl); have zf0 := Ad (S1.at_blk 0 rfl) 0; have zf1 := Ad (S1.at_blk 0 rfl) 1)
    have S2 := S1.of (S1.st.set (i := 0) rfl 0 (.int .i64 u));have S3 := S2.of (S2.st.set (i := 0) rfl 1 (.int .i64 v));have S4 : Au w ZZ (Al g11 50 #[.int .i64 u, .int .i64 v] :: Df bm m K :: [Al g3 71 #[.slice an nA cn, .slice ap sa.P.length cp, .slice az sa.Z.length cz, .slice ak sa.K.length ck], Al g4 71 #[.slice bn nB dn, .slice bp sb.P.length dp, .slice bz sb.Z.length dz, .slice bk sb.K.length dk], Al gb 24 #[.int .i64 xb.f0, .string xb.f1, .string xb.f2, .slice B xb.f3.length d], Al ga 24 #[.int .i64 xa.f0, .string xa.f1, .string xa.f2, .slice A xa.f3.length c]]) [AF AY bn dn sb.N, AF (Kd.int .i64) bp dp sb.P, AF (Kd.int .i64) bz dz sb.Z, AF (Kd.slice 3 (Kd.int .i64)) bk dk sb.K, AF AY an cn sa.N, AF (Kd.int .i64) ap cp sa.P, AF (Kd.int .i64) az cz sa.Z, AF (Kd.slice 3 (Kd.int .i64)) ak ck sa.K, AF kP (some adP) e prs, AF AY B d xb.f3, AF AY A c xa.f3] ((w5.setCell ⟨g11, 0, none⟩ (.int .i64 u)).setCell ⟨g11, 1, none⟩ (.int .i64 v)) := S3;clear S1 S2 S3 z0 z1 zf0 zf1 x0 x1 S0;obtain ⟨wq, hwq⟩ : ∃ wq, ((w5.setCell ⟨g11, 0, none⟩ (.int .i64 u)).setCell ⟨g11, 1, none⟩ (.int .i64 v)) = wq := ⟨_, rfl⟩;rw [hwq] at S4 ⊢;clear hwq;have hmix : Try.prog.follows .mixedOrders = true := by kernel_rfl
    have q0 : wq.cell? ⟨g11, 0, none⟩ = some (.int .i64 u) := (Aa (S4.at_blk 0 rfl) 0).trans rfl;have q1 : wq.cell? ⟨g11, 1, none⟩ = some (.int .i64 v) := (Aa (S4.at_blk 0 rfl) 1).trans rfl;have ha0 : wq.cell? ⟨g3, 0, none⟩ = some (.slice an nA cn) := (Aa (S4.at_blk 2 rfl) 0).trans rfl;have hb0 : wq.cell? ⟨g4, 0, none⟩ = some (.slice bn nB dn) := (Aa (S4.at_blk 3 rfl) 0).trans rfl;obtain ⟨PB, hPB⟩ : ∃ PB, CC sa.N sb.N prs i = PB := ⟨_, rfl⟩;have hdec : ∀ b : Bool, (b = true ↔ PB) -> True := fun _ _ => trivial
    rw [hPB] at hbad;replace hPB := A7.mk hPB;replace S4 := A7.mk S4;have HL := A7.mk hlt2;clear S hdec
    go_cut [85] (fun v85 W => ∃ b : Bool, v85 = .bool b /\ A7 (b = true ↔ PB) /\ A7 (Au w ZZ (Al g11 50 #[.int .i64 u, .int .i64 v] :: Df bm m K :: [Al g3 71 #[.slice an nA cn, .slice ap sa.P.length cp, .slice az sa.Z.length cz, .slice ak sa.K.length ck], Al g4 71 #[.slice bn nB dn, .slice bp sb.P.length dp, .slice bz sb.Z.length dz, .slice bk sb.K.length dk], Al gb 24 #[.int .i64 xb.f0, .string xb.f1, .string xb.f2, .slice B xb.f3.length d], Al ga 24 #[.int .i64 xa.f0, .string xa.f1, .string xa.f2, .slice A xa.f3.length c]]) [AF AY bn dn sb.N, AF (Kd.int .i64) bp dp sb.P, AF (Kd.int .i64) bz dz sb.Z, AF (Kd.slice 3 (Kd.int .i64)) bk dk sb.K, AF AY an cn sa.N, AF (Kd.int .i64) ap cp sa.P, AF (Kd.int .i64) az cz sa.Z, AF (Kd.slice 3 (Kd.int .i64)) ak ck sa.K, AF kP (some adP) e prs, AF AY B d xb.f3, AF AY A c xa.f3] W))
    case first =>
     by_cases k1 : u < 0
     ·have d1 : decide (u < 0) = true := decide_eq_true k1;replace hbad := A7.mk (hbad.2 (.inl k1));clear k1
      go_region_o
      all_goals (go_wp2_with fail; go_meet; first | exact ⟨_, rfl, ⟨by simp [hbad.out]⟩, ⟨S4.out.keep ⟨rfl, rfl, rfl, Ps _, fun _ _ => rfl⟩⟩⟩)
     have d1 : decide (u < 0) = BK := decide_eq_false k1;by_cases k2 : (nA : Int) <= u
     ·have d2 : decide ((nA : Int) <= u) = true := decide_eq_true k2;replace hbad := A7.mk (hbad.2 (.inr (.inl k2)));clear k1 k2
      go_region_o
      all_goals (go_wp2_with fail; go_meet; first | exact ⟨_, rfl, ⟨by simp [hbad.out]⟩, ⟨S4.out.keep ⟨rfl, rfl, rfl, Ps _, fun _ _ => rfl⟩⟩⟩)
     have d2 : decide ((nA : Int) <= u) = BK := decide_eq_false k2;by_cases k3 : v < 0
     ·have d3 : decide (v < 0) = true := decide_eq_true k3;replace hbad := A7.mk (hbad.2 (.inr (.inr (.inl k3))));clear k1 k2 k3
      go_region_o
      all_goals (go_wp2_with fail; go_meet; first | exact ⟨_, rfl, ⟨by simp [hbad.out]⟩, ⟨S4.out.keep ⟨rfl, rfl, rfl, Ps _, fun _ _ => rfl⟩⟩⟩)
     have d3 : decide (v < 0) = BK := decide_eq_false k3;by_cases k4 : (nB : Int) <= v
     ·have d4 : decide ((nB : Int) <= v) = true := decide_eq_true k4;replace hbad := A7.mk (hbad.2 (.inr (.inr (.inr (.inl k4)))));clear k1 k2 k3 k4
      go_region_o
      all_goals (go_wp2_with fail; go_meet; first | exact ⟨_, rfl, ⟨by simp [hbad.out]⟩, ⟨S4.out.keep ⟨rfl, rfl, rfl, Ps _, fun _ _ => rfl⟩⟩⟩)
     have d4 : decide ((nB : Int) <= v) = BK := decide_eq_false k4;have lk := KD S4.out.drew 1 rfl (x := v) (by have := hB6.out; unfold in64; omega);by_cases k5 : K v = true
     ·rw [k5] at lk;replace hbad := A7.mk (hbad.2 (.inr (.inr (.inr (.inr (.inl k5))))));clear k1 k2 k3 k4 k5
      go_region_o
      all_goals (go_wp2_with fail; go_meet; first | exact ⟨_, rfl, ⟨by simp [hbad.out]⟩, ⟨S4.out.keep ⟨rfl, rfl, rfl, Ps _, fun _ _ => rfl⟩⟩⟩)
     have k5' : K v = BK := by simpa using k5
     rw [k5'] at lk;obtain ⟨adA, C3, z3, rfl, na0, _⟩ := Cw (S4.out.rdC 4 rfl) u (by omega) (by rw [hnA.out]; omega);obtain ⟨adB, D3, y3, rfl, nb0, _⟩ := Cw (S4.out.rdC 0 rfl) v (by omega) (by rw [hnB.out]; omega);obtain ⟨ka, hka⟩ : ∃ x, (Aj sa.N u).f0 = x := ⟨_, rfl⟩;obtain ⟨kb, hkb⟩ : ∃ x, (Aj sb.N v).f0 = x := ⟨_, rfl⟩;rw [hka] at na0;rw [hkb] at nb0;have p1 : 0 <= u := by omega
     have p2 : u < (nA : Int) := by omega
     have p3 : 0 <= v := by omega
     have p4 : v < (nB : Int) := by omega
     have hbad2 : PB ↔ ((0 < i /\ u <= (prs.getD (i - 1) (0, 0)).1) \/ ka ≠ kb) := by
      rw [hbad, <- hka, <- hkb];constructor
      ·rintro (h | h | h | h | h | h | h)
       ·exact absurd h k1
       ·exact absurd h k2
       ·exact absurd h k3
       ·exact absurd h k4
       ·exact absurd h k5
       ·exact .inl h
       ·exact .inr h
      ·rintro (h | h)
       ·exact .inr (.inr (.inr (.inr (.inr (.inl h)))))
       ·exact .inr (.inr (.inr (.inr (.inr (.inr h)))))
     clear hbad hka hkb k1 k2 k3 k4 k5 k5';by_cases k6 : 0 < i
     ·have d6 : decide ((0 : Int) < (i : Int)) = true := decide_eq_true (by omega);have d6b : decide (0 < i) = true := decide_eq_true k6;have hwi : Pq ((i : Int) - 1) = ((i - 1 : Nat) : Int) := by have := hB.out.2.1; have := hB.out.1; clear hbad2; unfold Pq; omega
      have j1 : (0 : Int) <= ((i - 1 : Nat) : Int) := by omega
      have j2 : ((i - 1 : Nat) : Int) < (nP : Int) := by omega
      have j3 : i - 1 < nP := by omega
      obtain ⟨adP', eP, pp0, _⟩ := Nv (S4.out.rdC 8 rfl) ((i - 1 : Nat) : Int) j1 (by rw [hB.out.1]; exact j2);obtain rfl := Px eP;simp only [PO] at pp0;obtain ⟨pu, hpu⟩ : ∃ x, (prs.getD (i - 1) (0, 0)).1 = x := ⟨_, rfl⟩;rw [hpu] at pp0 hbad2;clear hpu;by_cases k7 : u <= pu
      ·have d7 : decide (u <= pu) = true := decide_eq_true k7;have hbad := A7.mk (hbad2.2 (.inl ⟨k6, k7⟩));clear hbad2 k7
       go_region_o
       all_goals (go_wp2_with fail; go_meet; first | exact ⟨_, rfl, ⟨by simp [hbad.out]⟩, ⟨S4.out.keep ⟨rfl, rfl, rfl, Ps _, fun _ _ => rfl⟩⟩⟩)
      have d7 : decide (u <= pu) = BK := decide_eq_false k7;by_cases k8 : ka = kb
      ·have d8 : (ka != kb) = BK := by simp [k8]
       have hbad := A7.mk (show ¬ PB from fun h => (hbad2.1 h).elim (fun h => k7 h.2) (fun h => h k8));clear hbad2 k7 k8
       go_region_o
       all_goals (go_wp2_with fail; go_meet; first | exact ⟨_, rfl, ⟨by simp [hbad.out]⟩, ⟨S4.out.keep ⟨rfl, rfl, rfl, Ps _, fun _ _ => rfl⟩⟩⟩)
      ·have d8 : (ka != kb) = true := by simp [k8]
       have hbad := A7.mk (hbad2.2 (.inr k8));clear hbad2 k7 k8
       go_region_o
       all_goals (go_wp2_with fail; go_meet; first | exact ⟨_, rfl, ⟨by simp [hbad.out]⟩, ⟨S4.out.keep ⟨rfl, rfl, rfl, Ps _, fun _ _ => rfl⟩⟩⟩)
     ·have d6 : decide ((0 : Int) < (i : Int)) = BK := decide_eq_false (by omega);have d6b : decide (0 < i) = BK := decide_eq_false k6;by_cases k8 : ka = kb
      ·have d8 : (ka != kb) = BK := by simp [k8]
       have hbad := A7.mk (show ¬ PB from fun h => (hbad2.1 h).elim (fun h => k6 h.1) (fun h => h k8));clear hbad2 k8
       go_region_o
       all_goals (go_wp2_with fail; go_meet; first | exact ⟨_, rfl, ⟨by simp [hbad.out]⟩, ⟨S4.out.keep ⟨rfl, rfl, rfl, Ps _, fun _ _ => rfl⟩⟩⟩)
      ·have d8 : (ka != kb) = true := by simp [k8]
       have hbad := A7.mk (hbad2.2 (.inr k8));clear hbad2 k8
       go_region_o
       all_goals (go_wp2_with fail; go_meet; first | exact ⟨_, rfl, ⟨by simp [hbad.out]⟩, ⟨S4.out.keep ⟨rfl, rfl, rfl, Ps _, fun _ _ => rfl⟩⟩⟩)
    case rest =>
     clear q0 q1 ha0 hb0 S4;obtain ⟨bb, rfl, hbb, S5⟩ := hcut;have q1 : wc.cell? ⟨g11, 1, none⟩ = some (.int .i64 v) := (Aa (S5.out.at_blk 0 rfl) 1).trans rfl;cases bb with
     | true =>
      have hPBt := hbb.out.1 rfl;rw [<- hPB.out] at hPBt;have hRf : R = BK := by
       rw [<- hR.out];unfold Dg;exact decide_eq_false (fun h => h.1 i (by rw [hB.out.1]; exact HL.out) hPBt)
      replace hRf := A7.mk hRf;clear hPBt hbad;go_wp2
      go_ret
      exact ⟨by rw [hRf.out]; rfl, S5.out.below⟩
     | false =>
      have hPBf : ¬ PB := fun h => by have := hbb.out.2 h; cases this
      have hv : 0 <= v /\ v < (nB : Int) := by
       have h1 := fun h => hPBf (hbad.2 h)
       constructor
       ·exact Int.not_lt.1 (fun h => h1 (.inr (.inr (.inl h))))
       ·exact Int.not_le.1 (fun h => h1 (.inr (.inr (.inr (.inl h)))))
      rw [<- hPB.out] at hPBf;obtain ⟨w8, hr8, S6, _⟩ := Ir S5.out 1 rfl (x := v) (by have := hB6.out; unfold in64; omega) (by have := hi.out; have := hB.out.2.1; have := hB.out.1; simp only [maxLen]; omega);have S7 := A7.mk (Au.drop (a := Al g11 50 #[.int .i64 u, .int .i64 v]) (l := Df bm (m + 1) (fun j => K j || decide (j = v)) :: [Al g3 71 #[.slice an nA cn, .slice ap sa.P.length cp, .slice az sa.Z.length cz, .slice ak sa.K.length ck], Al g4 71 #[.slice bn nB dn, .slice bp sb.P.length dp, .slice bz sb.Z.length dz, .slice bk sb.K.length dk], Al gb 24 #[.int .i64 xb.f0, .string xb.f1, .string xb.f2, .slice B xb.f3.length d], Al ga 24 #[.int .i64 xa.f0, .string xa.f1, .string xa.f2, .slice A xa.f3.length c]]) S6);replace hr8 := A7.mk hr8;have hwi : Pq ((i : Int) + 1) = ((i + 1 : Nat) : Int) := by have := HL.out; have := hB.out.2.1; have := hB.out.1; clear hbad hv; unfold Pq; omega
      replace hwi := A7.mk hwi;replace hPBf := A7.mk hPBf;clear hbad hv S5 S6
      go_wp2_with (refine D2 rfl 74 _ _ _ rfl _ _ _ (by rfl) (by rfl) (by rfl) hr8.out ?_)
      go_roundg (nP - i)
      case rel => exact ⟨i + 1, m + 1, _, by rw [hwi.out], ⟨by have := HL.out; omega, by have := HL.out; omega, by have := hi.out; omega⟩, ⟨fun j hj => by
       by_cases e : j = i
       ·rw [e]; exact hPBf.out
       ·exact hg.out.1 j (by omega), fun x => by
       have hl : i < prs.length := by rw [hB.out.1]; exact HL.out
       have hxi : prs[i]? = some (u, v) := by rw [<- hx]; simp [List.getD_eq_getElem?_getD, List.getElem?_eq_getElem hl]
       rw [List.take_add_one, hxi, List.map_append, List.mem_append];simp [hg.out.2]⟩, S7⟩
      case measure => have := hi.out; have := HL.out; omega
   ·have hin : i = nP := by have := hi.out.1; omega
    have i1 : decide ((i : Int) < (nP : Int)) = BK := decide_eq_false (by omega);have i1b : decide (i < nP) = BK := decide_eq_false (by omega);have i1c : ¬ (i : Int) < (nP : Int) := by omega
    replace hin := A7.mk hin;clear hlt2;by_cases h0 : 0 < nP
    ·have d0 : decide ((0 : Int) < (nP : Int)) = true := decide_eq_true (by omega);have d0b : decide (0 < nP) = true := decide_eq_true h0;have d0c : (0 : Int) < (nP : Int) := by omega
     obtain ⟨adP, rfl, x0, x1⟩ := Nv (S.out.rdC 8 rfl) (0 : Int) (Int.le_refl _) (by rw [hB.out.1]; omega);obtain ⟨⟨u, v⟩, hx⟩ : ∃ x, prs.getD 0 (0, 0) = x := ⟨_, rfl⟩;simp only [Int.toNat_zero, Nat.zero_mul] at x0 x1;rw [hx] at x0 x1;dsimp only at x0 x1;have e0 : adP.add 0 = adP := rfl;rw [e0] at x0 x1;have hRv : R = decide (u = 0 /\ v = 0) := by
      rw [<- hR.out];unfold Dg;have h1 : (∀ j, j < prs.length -> ¬ CC sa.N sb.N prs j) := fun j hj => hg.out.1 j (by rw [hB.out.1] at hj; have := hin.out; omega)
      rw [hx];by_cases e : u = 0 /\ v = 0
      ·rw [decide_eq_true e]; exact decide_eq_true ⟨h1, by rw [hB.out.1]; exact h0, by rw [e.1, e.2]⟩
      ·rw [decide_eq_false e]; exact decide_eq_false (fun h => e ⟨congrArg Prod.fst h.2.2, congrArg Prod.snd h.2.2⟩)
     replace hRv := A7.mk hRv;have heq := fun W => Nu W u v
     go_wp2
     go_ret
     exact ⟨by rw [hRv.out, Bool.decide_and]; rfl, S.out.below⟩
    ·have d0 : decide ((0 : Int) < (nP : Int)) = BK := decide_eq_false (by omega);have d0b : decide (0 < nP) = BK := decide_eq_false h0;have d0c : ¬ (0 : Int) < (nP : Int) := by omega
     have hRv : R = BK := by
      rw [<- hR.out];unfold Dg;exact decide_eq_false (fun h => h0 (by rw [<- hB.out.1]; exact h.2.1))
     replace hRv := A7.mk hRv;go_wp2
     go_ret
     exact ⟨by rw [hRv.out]; rfl, S.out.below⟩
end Go.Proofs.Q
