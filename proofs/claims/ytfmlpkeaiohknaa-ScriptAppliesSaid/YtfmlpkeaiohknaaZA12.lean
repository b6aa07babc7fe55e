/- The texts of this claim that lie below its row, in their order: GOl1. -/
import Derived.Test.YtfmlpkeaiohknaaZA11
set_option linter.unusedVariables false
set_option linter.unusedSimpArgs false
set_option maxHeartbeats 16000000
set_option maxRecDepth 100000
open Bool renaming false -> BK
open Go renaming World -> Pe, undef -> Pc
open Go.IntKind renaming i64 -> Po
open Go.Value renaming slice -> Pk, int -> PE, string -> Pr, agg -> Q5, pointer -> Pw, func -> RC, map -> RM, bool -> RD
open Go.World renaming new_ne -> RJ
open Int renaming toNat_natCast -> PO
open List renaming replicate -> Pz, getD_eq_getElem?_getD -> Pt, getElem?_eq_getElem -> Pg
open Nat renaming le_refl -> Ps
open Option renaming bind_some -> Pj
namespace Go.Proofs.Q
open Go Go.RowKit Go.Lib Go.Sort Go.Proofs.V.Words Go.Proofs.V.Last Go.Proofs.V.More Go.Proofs.V.SL
attribute [local go_sem] BI BJ BY BZ Bu Bv BL BM
theorem LK {xa xb : B8} {A B P : Option Addr} {c d e : Nat} {prs : List (Int × Int)} {w : Pe} {sF : Os} {sa sb : PS} {nP : Nat} {ga : Nat} {gb : Nat} {g3 g4 : Nat} {an : Option Addr} {cn : Nat} {ap : Option Addr} {cp : Nat} {az : Option Addr} {cz : Nat} {ak : Option Addr} {ck : Nat} {bn : Option Addr} {dn : Nat} {bp : Option Addr} {dp : Nat} {bz : Option Addr} {dz : Nat} {bk : Option Addr} {dk nA nB : Nat} {gg bm : Nat} {Z5 : Nat -> Prop} {ad0 : Int -> Nat} {g10 : Nat} {g11 : Nat} {gn bkm : Nat} {wc : Pe} {u15 u53 u54 u55 u56 u57 u58 u59 : Value} {G : Os -> Option Os} {Jx Kx : Act -> Pe -> Prop}
 (hB : A7
  (prs.length = nP /\
   prs.length <= 1000 /\
    KL sb /\
     (sa.N.length <= 1000 /\ sb.N.length <= 1000) /\
      Eh sb.N.length
       {nm := Pz sb.N.length (-1), nx := ↑sa.N.length, ks := Bn sa.N sa.P sa.N.length,
        ed := [] }))
 (HN : A7 (sa.N.length = nA /\ sb.N.length = nB /\ sb.K.length = nB /\ nA <= 1000 /\ nB <= 1000))
 (H4 : A7
  (AG w Z5
   [AF AY bn dn sb.N, AF (Kd.int Po) bp dp sb.P, AF (Kd.int Po) bz dz sb.Z,
    AF (Kd.slice 3 (Kd.int Po)) bk dk sb.K, AF AY an cn sa.N, AF (Kd.int Po) ap cp sa.P,
    AF (Kd.int Po) az cz sa.Z, AF (Kd.slice 3 (Kd.int Po)) ak ck sa.K, AF kP P e prs,
    AF AY B d xb.f3, AF AY A c xa.f3]
   gg bm []
   (G5 w.heap.size g10 g11 gg (Pk none 0 0) []
    [Df bkm 0 fun x => BK, Al gn 3 (iA (Pz nB (-1))),
     Al g3 71
      #[Pk an nA cn, Pk ap sa.P.length cp, Pk az sa.Z.length cz,
       Pk ak sa.K.length ck],
     Al g4 71
      #[Pk bn nB dn, Pk bp sb.P.length dp, Pk bz sb.Z.length dz, Pk bk nB dk],
     Al gb 24
      #[PE Po xb.f0, Pr xb.f1, Pr xb.f2, Pk B xb.f3.length d],
     Al ga 24
      #[PE Po xa.f0, Pr xa.f1, Pr xa.f2, Pk A xa.f3.length c]])
   1000 ad0 (Bn sa.N sa.P sa.N.length) wc))
 (hF0 : A7
  ((LX sa.N sb.N prs { nm := Pz nB (-1), nx := ↑nA, ks := Bn sa.N sa.P sa.N.length, ed := [] }).bind
    G =
   some sF))
 (hnb : A7 (∀ (j : Nat), j < nP -> ¬CC sa.N sb.N prs j))
 (hok0 : A7 (Eh nB { nm := Pz nB (-1), nx := ↑nA, ks := Bn sa.N sa.P nA, ed := [] }))
 (hG : A7
  (G = fun s1 =>
   (KH sb.N sb.K nB 0 s1).bind fun s2 => LY (fun x => decide (x ∈ List.map (fun x => x.fst) prs)) nA s2))
 (hJ : ∀ (a' : Act) (w' : Pe),
  (∃ u17 u18 u19 u62 u63 u64 u65 u66 u67 u68 u69 u70 u71 u72 u73 u74 u75 u76 u77 u78 u79 u80 u81 u82 u83 u84 u85 u86
    u87 u88 u89 u90 u91 u92 u93 u94 u95 u96 u97 u98 u99 u100 u101 u102 u103 u104 u105 u106 u107 u108,
    (∃ s v ad K m,
      A7
        (G s = some sF /\
         Eh nB s /\ s.nx = ↑nA /\ m <= nP /\ ∀ (x : Int), K x = true ↔ x ∈ List.map (fun x => x.fst) prs) /\
       A7
        (AG w Z5
         [AF AY bn dn sb.N, AF (Kd.int Po) bp dp sb.P, AF (Kd.int Po) bz dz sb.Z,
          AF (Kd.slice 3 (Kd.int Po)) bk dk sb.K, AF AY an cn sa.N,
          AF (Kd.int Po) ap cp sa.P, AF (Kd.int Po) az cz sa.Z,
          AF (Kd.slice 3 (Kd.int Po)) ak ck sa.K, AF kP P e prs, AF AY B d xb.f3,
          AF AY A c xa.f3]
         gg bm []
         (G5 w.heap.size g10 g11 gg v s.ed
          [Df bkm m K, Al gn 3 (iA s.nm),
           Al g3 71
            #[Pk an nA cn, Pk ap sa.P.length cp, Pk az sa.Z.length cz,
             Pk ak sa.K.length ck],
           Al g4 71
            #[Pk bn nB dn, Pk bp sb.P.length dp, Pk bz sb.Z.length dz,
             Pk bk nB dk],
           Al gb 24
            #[PE Po xb.f0, Pr xb.f1, Pr xb.f2,
             Pk B xb.f3.length d],
           Al ga 24
            #[PE Po xa.f0, Pr xa.f1, Pr xa.f2,
             Pk A xa.f3.length c]])
         (1000 + s.ed.length) ad s.ks w')) /\
     a' =
      {
       tmps :=
        #[Q5
          #[PE Po xa.f0, Pr xa.f1, Pr xa.f2,
           Pk A xa.f3.length c],
         Q5
          #[PE Po xb.f0, Pr xb.f1, Pr xb.f2,
           Pk B xb.f3.length d],
         Pk P nP e, Pw (some { block := ga, off := 0 }),
         Pw (some { block := gb, off := 0 }), Pc, Pk none 0 0, PE Po 0,
         Pw (some { block := g3, off := 0 }), Pw (some { block := g4, off := 0 }),
         Pw (some { block := g10, off := 0 }), Pw (some { block := g11, off := 0 }),
         RC (Fn.func 28) #[]
          #[Pw (some { block := g10, off := 0 }), Pw (some { block := g11, off := 0 })],
         Pk (some { block := gn, off := 0 }) nB nB, RM (some bkm), u15, Pc, u17, u18, u19,
         Pc, Pc, Pc, Pc, Pc, Pc, Pc, Pc, Pc, Pc, Pc, Pc, Pc, Pc,
         Q5
          #[PE Po xa.f0, Pr xa.f1, Pr xa.f2,
           Pk A xa.f3.length c],
         Q5
          #[PE Po xb.f0, Pr xb.f1, Pr xb.f2,
           Pk B xb.f3.length d],
         Pk P nP e, RD true, RD BK,
         Q5
          #[PE Po xa.f0, Pr xa.f1, Pr xa.f2,
           Pk A xa.f3.length c],
         Q5 ((⟨an, cn, ap, cp, az, cz, ak, ck⟩ : A8).u sa),
         Q5
          #[PE Po xb.f0, Pr xb.f1, Pr xb.f2,
           Pk B xb.f3.length d],
         Q5 ((⟨bn, dn, bp, dp, bz, dz, bk, dk⟩ : A8).u sb),
         Q5
          #[PE Po xa.f0, Pr xa.f1, Pr xa.f2,
           Pk A xa.f3.length c],
         Pw (some { block := gg, off := 0 }),
         RC (Fn.func 28) #[]
          #[Pw (some { block := g10, off := 0 }), Pw (some { block := g11, off := 0 })],
         Pw (some { block := g4, off := 0 }), Pk bn nB dn, PE Po ↑nB,
         Pk (some { block := gn, off := 0 }) nB nB, RM (some bkm),
         Pk (some { block := gn, off := 0 }) nB nB, PE Po ↑nB, u53, u54, u55, u56,
         u57, u58, u59, Pk P nP e, PE Po ↑nP, u62, u63, u64, u65, u66, u67, u68, u69,
         u70, u71, u72, u73, u74, u75, u76, u77, u78, u79, u80, u81, u82, u83, u84, u85, u86, u87, u88, u89,
         u90, u91, u92, u93, u94, u95, u96, u97, u98, u99, u100, u101, u102, u103, u104, u105, u106, u107,
         u108, Pc, Pc, Pc, Pc, Pc, Pc, Pc, Pc, Pc, Pc, Pc, Pc, Pc,
         Pc, Pc, Pc, Pc, Pc, Pc, Pc, Pc, Pc, Pc, Pc, Pc, Pc, Pc,
         Pc, Pc, Pc, Pc, Pc, Pc, Pc, Pc, Pc, Pc, Pc, Pc, Pc, Pc,
         Pc, Pc, Pc, Pc, Pc, Pc, Pc, Pc, Pc, Pc, Pc, Pc, Pc, Pc,
         Pc, Pc, Pc, Pc, Pc, Pc, Pc, Pc, Pc, Pc, Pc, Pc, Pc, Pc,
         Pc, Pc, Pc, Pc, Pc, Pc, Pc, Pc, Pc, Pc, Pc, Pc, Pc, Pc,
         Pc, Pc, Pc, Pc, Pc, Pc, Pc, Pc, Pc, Pc, Pc, Pc, Pc, Pc,
         Pc, Pc, Pc, Pc, Pc, Pc, Pc, Pc, Pc, Pc, Pc, Pc, Pc, Pc,
         Pc, Pc, Pc, Pc, Pc, Pc, Pc, Pc, Pc, Pc, Pc, Pc, Pc, Pc,
         Pc, Pc, Pc, Pc, Pc, Pc, Pc, Pc, Pc, Pc, Pc, Pc, Pc, Pc,
         Pc, Pc, Pc, Pc, Pc, Pc, Pc, Pc, Pc, Pc, Pc, Pc, Pc, Pc,
         Pc],
       defers := [] }) ->
   Jx a' w')
 (hM : ∀ (a' : Act) (w' : Pe), Met Jx a' w' -> Kx a' w') :
 Code.wp Try.prog
  (sof.code 2)
  (Exit.then Kx (bodyPost Try.prog Try.f15 fun e w' => RowKit.Below w.heap.size w w' /\ JY w true sF.ed e w'))
  {
   tmps :=
    #[Q5
      #[PE Po xa.f0, Pr xa.f1, Pr xa.f2, Pk A xa.f3.length c],
     Q5
      #[PE Po xb.f0, Pr xb.f1, Pr xb.f2, Pk B xb.f3.length d],
     Pk P nP e, Pw (some { block := ga, off := 0 }),
     Pw (some { block := gb, off := 0 }), Pc, Pk none 0 0, PE Po 0,
     Pw (some { block := g3, off := 0 }), Pw (some { block := g4, off := 0 }),
     Pw (some { block := g10, off := 0 }), Pw (some { block := g11, off := 0 }),
     RC (Fn.func 28) #[]
      #[Pw (some { block := g10, off := 0 }), Pw (some { block := g11, off := 0 })],
     Pk (some { block := gn, off := 0 }) nB nB, RM (some bkm), u15, Pc, Pc, Pc, Pc,
     Pc, Pc, Pc, Pc, Pc, Pc, Pc, Pc, Pc, Pc, Pc, Pc, Pc, Pc,
     Q5
      #[PE Po xa.f0, Pr xa.f1, Pr xa.f2, Pk A xa.f3.length c],
     Q5
      #[PE Po xb.f0, Pr xb.f1, Pr xb.f2, Pk B xb.f3.length d],
     Pk P nP e, RD true, RD BK,
     Q5
      #[PE Po xa.f0, Pr xa.f1, Pr xa.f2, Pk A xa.f3.length c],
     Q5 ((⟨an, cn, ap, cp, az, cz, ak, ck⟩ : A8).u sa),
     Q5
      #[PE Po xb.f0, Pr xb.f1, Pr xb.f2, Pk B xb.f3.length d],
     Q5 ((⟨bn, dn, bp, dp, bz, dz, bk, dk⟩ : A8).u sb),
     Q5
      #[PE Po xa.f0, Pr xa.f1, Pr xa.f2, Pk A xa.f3.length c],
     Pw (some { block := gg, off := 0 }),
     RC (Fn.func 28) #[]
      #[Pw (some { block := g10, off := 0 }), Pw (some { block := g11, off := 0 })],
     Pw (some { block := g4, off := 0 }), Pk bn nB dn, PE Po ↑nB,
     Pk (some { block := gn, off := 0 }) nB nB, RM (some bkm),
     Pk (some { block := gn, off := 0 }) nB nB, PE Po ↑nB, u53, u54, u55, u56, u57, u58,
     u59, Pk P nP e, PE Po ↑nP, PE Po 0, Pc, Pc, Pc, Pc,
     Pc, Pc, Pc, Pc, Pc, Pc, Pc, Pc, Pc, Pc, Pc, Pc, Pc, Pc, Pc,
     Pc, Pc, Pc, Pc, Pc, Pc, Pc, Pc, Pc, Pc, Pc, Pc, Pc, Pc, Pc,
     Pc, Pc, Pc, Pc, Pc, Pc, Pc, Pc, Pc, Pc, Pc, Pc, Pc, Pc, Pc,
     Pc, Pc, Pc, Pc, Pc, Pc, Pc, Pc, Pc, Pc, Pc, Pc, Pc, Pc, Pc,
     Pc, Pc, Pc, Pc, Pc, Pc, Pc, Pc, Pc, Pc, Pc, Pc, Pc, Pc, Pc,
     Pc, Pc, Pc, Pc, Pc, Pc, Pc, Pc, Pc, Pc, Pc, Pc, Pc, Pc, Pc,
     Pc, Pc, Pc, Pc, Pc, Pc, Pc, Pc, Pc, Pc, Pc, Pc, Pc, Pc, Pc,
     Pc, Pc, Pc, Pc, Pc, Pc, Pc, Pc, Pc, Pc, Pc, Pc, Pc, Pc, Pc,
     Pc, Pc, Pc, Pc, Pc, Pc, Pc, Pc, Pc, Pc, Pc, Pc, Pc, Pc, Pc,
     Pc, Pc, Pc, Pc, Pc, Pc, Pc, Pc, Pc, Pc, Pc, Pc, Pc, Pc, Pc,
     Pc, Pc, Pc, Pc, Pc, Pc, Pc, Pc, Pc, Pc, Pc, Pc, Pc, Pc, Pc,
     Pc, Pc, Pc, Pc, Pc, Pc, Pc, Pc, Pc, Pc, Pc, Pc, Pc, Pc, Pc,
     Pc, Pc, Pc, Pc, Pc, Pc, Pc, Pc, Pc, Pc, Pc, Pc, Pc, Pc, Pc,
     Pc],
   defers := [] }
  wc := by
 have hmm := @run_makeMap Try.prog;have hu24 := Try.underlying24;have hu71 := Try.underlying71
 conv => arg 2; whnf
 go_wp2_with fail
 go_loopg [62] (nP + 1) (fun kq v62 W => ∃ (i : Nat) (s : Os) (v : Value) (ad : Int -> Nat) (K : Int -> Bool) (m : Nat), v62 = .int .i64 (i : Int) /\ A7 (i <= nP /\ kq = nP - i + 1 /\ m <= i) /\ A7 ((LX sa.N sb.N (prs.drop i) s).bind G = some sF /\ Eh nB s /\ s.nx = (nA : Int) /\ ∀ x, K x = true ↔ x ∈ (prs.take i).map (·.1)) /\ A7 (AG w Z5 [AF AY bn dn sb.N, AF (Kd.int .i64) bp dp sb.P, AF (Kd.int .i64) bz dz sb.Z, AF (Kd.slice 3 (Kd.int .i64)) bk dk sb.K, AF AY an cn sa.N, AF (Kd.int .i64) ap cp sa.P, AF (Kd.int .i64) az cz sa.Z, AF (Kd.slice 3 (Kd.int .i64)) ak ck sa.K, AF kP P e prs, AF AY B d xb.f3, AF AY A c xa.f3] gg bm [] (G5 w.heap.size g10 g11 gg v s.ed [Df bkm m K, Al gn 3 (iA s.nm), Al g3 71 #[.slice an nA cn, .slice ap sa.P.length cp, .slice az sa.Z.length cz, .slice ak sa.K.length ck], Al g4 71 #[.slice bn nB dn, .slice bp sb.P.length dp, .slice bz sb.Z.length dz, .slice bk nB dk], Al gb 24 #[.int .i64 xb.f0, .string xb.f1, .string xb.f2, .slice B xb.f3.length d], Al ga 24 #[.int .i64 xa.f0, .string xa.f1, .string xa.f2, .slice A xa.f3.length c]]) (1000 + s.ed.length) ad s.ks W))
 case atStart => exact ⟨0, ⟨Pz nB (-1), (nA : Int), Bn sa.N sa.P nA, []⟩, _, ad0, fun _ => BK, 0, rfl, ⟨Nat.zero_le _, rfl, Ps _⟩, ⟨by have h1 := hF0.out; rw [HN.out.1] at h1; exact h1, hok0.out, rfl, fun x => by simp⟩, ⟨by have h1 := H4.out; rw [HN.out.1] at h1; exact h1⟩⟩
 case round =>
  clear H4 hF0 hok0;obtain ⟨i, s, v, ad, K, m, rfl, hi, hs, H4⟩ := hrel;by_cases hlt : i < nP
  ·have i1 : decide ((i : Int) < (nP : Int)) = true := decide_eq_true (by omega);have i2 : (0 : Int) <= (i : Int) := by omega
   have i3 : (i : Int) < (nP : Int) := by omega
   obtain ⟨adP, rfl, x0, x1⟩ := Nv (H4.out.facts fun L S => S.rdC 8 rfl) (i : Int) i2 (by rw [hB.out.1]; exact i3);simp only [PO] at x0 x1;have hlp : i < prs.length := by rw [hB.out.1]; exact hlt
   obtain ⟨⟨u, q⟩, hx⟩ : ∃ x, prs.getD i (0, 0) = x := ⟨_, rfl⟩;have hdr : prs.drop i = (u, q) :: prs.drop (i + 1) := by
    rw [List.drop_eq_getElem_cons hlp, <- hx];simp [Pt, Pg hlp]
   rw [hx] at x0 x1;dsimp only at x0 x1;have hnbi := hnb.out i hlt;have hu : 0 <= u /\ u < (nA : Int) /\ 0 <= q /\ q < (nB : Int) := by
    unfold CC at hnbi;rw [hx, HN.out.1, HN.out.2.1] at hnbi;dsimp only at hnbi;exact ⟨Int.not_lt.1 (fun h => hnbi (.inl h)), Int.not_le.1 (fun h => hnbi (.inr (.inl h))), Int.not_lt.1 (fun h => hnbi (.inr (.inr (.inl h)))), Int.not_le.1 (fun h => hnbi (.inr (.inr (.inr (.inl h)))))⟩
   obtain ⟨u', rfl⟩ : ∃ n : Nat, u = (n : Int) := ⟨u.toNat, by omega⟩;obtain ⟨q', rfl⟩ : ∃ n : Nat, q = (n : Int) := ⟨q.toNat, by omega⟩;have hu6 := HN.out.2.2.2.1;have hq6 := HN.out.2.2.2.2;have u1 : (0 : Int) <= (u' : Int) := by omega
   have u2 : (u' : Int) < (nA : Int) := hu.2.1;have u3 : (0 : Int) <= (q' : Int) := by omega
   have u4 : (q' : Int) < (nB : Int) := hu.2.2.2;have h64 : in64 (u' : Int) := Ey (by omega);have hst := hs.out.1;rw [hdr, LX, Option.bind_assoc] at hst;have hql : q' < s.nm.length := by rw [hs.out.2.1.nm]; omega
   have HW := A7.mk (⟨hlt, hx, hst, h64, hql, hlp⟩ : _ /\ _ /\ _ /\ _ /\ _ /\ _);clear hdr hnbi hu hu6 hq6 hst h64 hlt hlp
   go_upto_region 17 with ((with_reducible refine AE (N := 17) rfl ?_); refine Aw ?hg (N := 17) ?hd (cs := #[.int .i64 0, .int .i64 0]) (t := 50) ?hr ?_; (case hd => rfl); (case hg => rfl); (case hr => first | (go_simp; done) | (go_simp; rfl)); intro g17 hg_ w5 hbox hb; have H5 := H4.out.box hg_ hbox hb; clear hbox hb hg_; have z0 := (Aa (H5.blkAt (k := 0) rfl) 0).trans (show (#[PE .i64 0, .int .i64 0] : Array Value)[0]? = some (.int .i64 0) from rfl); have z1 := (Aa (H5.blkAt (k := 0) rfl) 1).trans (show (#[PE .i64 0, .int .i64 0] : Array Value)[1]? = some (.int .i64 0) from rfl); have zf0 := Ad (H5.blkAt (k := 0) rfl) 0; have zf1 := Ad (H5.blkAt (k := 0) rfl) 1)
   have H6 := (H5.setAt (k := 0) rfl 0 (.int .i64 (u' : Int))).setAt (k := 0) rfl 1 (.int .i64 (q' : Int));obtain ⟨w6, hw6⟩ : ∃ q, ((w5.setCell ⟨g17, 0, none⟩ (.int .i64 (u' : Int))).setCell ⟨g17, 1, none⟩ (.int .i64 (q' : Int))) = q := ⟨_, rfl⟩;rw [hw6] at H6 ⊢;clear hw6 H5 z0 z1 zf0 zf1 x0 x1;have z0 : w6.cell? ⟨g17, 0, none⟩ = some (.int .i64 (u' : Int)) := (Aa (H6.blkAt (k := 0) rfl) 0).trans rfl;have z1 : w6.cell? ⟨g17, 1, none⟩ = some (.int .i64 (q' : Int)) := (Aa (H6.blkAt (k := 0) rfl) 1).trans rfl;have n0 := (Aa (H6.blkAt (k := 5) rfl) q').trans (C9 HW.out.2.2.2.2.1);have nf := Ad (H6.blkAt (k := 5) rfl) q';have H7 := H6.setAt (k := 5) rfl q' (.int .i64 (u' : Int));rw [GD] at H7;replace H7 := A7.mk H7;clear H6
   go_upto_region 18 with fail
   obtain ⟨w7, hw7⟩ : ∃ q, (w6.setCell ⟨gn, q', none⟩ (.int .i64 (u' : Int))) = q := ⟨_, rfl⟩;rw [hw7] at H7 ⊢;clear hw7 z0 z1 n0 nf;have z0 : w7.cell? ⟨g17, 0, none⟩ = some (.int .i64 (u' : Int)) := (Aa (H7.out.blkAt (k := 0) rfl) 0).trans rfl;obtain ⟨w8, hr8, H8⟩ := H7.out.setPut (k := 4) rfl HW.out.2.2.2.1 (by have := hi.out; have := hB.out.2.1; have := hB.out.1; simp only [maxLen]; omega);replace hr8 := A7.mk hr8;replace H8 := A7.mk H8
   go_upto_region 19 with (refine D2 rfl 74 _ _ _ rfl _ _ _ (by rfl) (by rfl) (by rfl) hr8.out ?_)
   go_frame
   clear hr8 z0 H7;have H9 : AG w Z5 [AF AY bn dn sb.N, AF (Kd.int .i64) bp dp sb.P, AF (Kd.int .i64) bz dz sb.Z, AF (Kd.slice 3 (Kd.int .i64)) bk dk sb.K, AF AY an cn sa.N, AF (Kd.int .i64) ap cp sa.P, AF (Kd.int .i64) az cz sa.Z, AF (Kd.slice 3 (Kd.int .i64)) ak ck sa.K, AF kP (some adP) e prs, AF AY B d xb.f3, AF AY A c xa.f3] gg bm [] (Al g17 50 #[.int .i64 (u' : Int), .int .i64 (q' : Int)] :: G5 w.heap.size g10 g11 gg v s.ed [Df bkm (m + 1) (fun j => K j || decide (j = (u' : Int))), Al gn 3 (iA (s.nm.set q' (u' : Int))), Al g3 71 #[.slice an nA cn, .slice ap sa.P.length cp, .slice az sa.Z.length cz, .slice ak sa.K.length ck], Al g4 71 #[.slice bn nB dn, .slice bp sb.P.length dp, .slice bz sb.Z.length dz, .slice bk nB dk], Al gb 24 #[.int .i64 xb.f0, .string xb.f1, .string xb.f2, .slice B xb.f3.length d], Al ga 24 #[.int .i64 xa.f0, .string xa.f1, .string xa.f2, .slice A xa.f3.length c]]) (1000 + s.ed.length) ad s.ks w8 := H8.out;clear H8;obtain ⟨adM, A3, c3, rfl, y0, y1, y2, y3, _, _⟩ := Cw (H9.facts fun L S => S.rdC 4 rfl) (u' : Int) u1 (by rw [HN.out.1]; exact u2);obtain ⟨adN, B3, d3, rfl, s0, s1, s2, s3, _, _⟩ := Cw (H9.facts fun L S => S.rdC 0 rfl) (q' : Int) u3 (by rw [HN.out.2.1]; exact u4);obtain ⟨y, hy⟩ : ∃ y, Aj sa.N (u' : Int) = y := ⟨_, rfl⟩;obtain ⟨z, hz⟩ : ∃ z, Aj sb.N (q' : Int) = z := ⟨_, rfl⟩;rw [hy] at y0 y1 y2 y3;rw [hz] at s0 s1 s2 s3;simp only [PO] at y0 y1 y2 y3 s0 s1 s2 s3;have z0 : w8.cell? ⟨g17, 0, none⟩ = some (.int .i64 (u' : Int)) := (Aa (H9.blkAt (k := 0) rfl) 0).trans rfl;have z1 : w8.cell? ⟨g17, 1, none⟩ = some (.int .i64 (q' : Int)) := (Aa (H9.blkAt (k := 0) rfl) 1).trans rfl;have pa0 : w8.cell? ⟨g3, 0, none⟩ = some (.slice (some adM) nA cn) := (Aa (H9.blkAt (k := 6) rfl) 0).trans rfl;have pb0 : w8.cell? ⟨g4, 0, none⟩ = some (.slice (some adN) nB dn) := (Aa (H9.blkAt (k := 7) rfl) 0).trans rfl;have HY := A7.mk (⟨hy, hz⟩ : _ /\ _);replace H9 := A7.mk H9;clear hy hz
   go_cut [18, 19] (fun v18 v19 W => ∃ g18 g19, v18 = .pointer (some ⟨g18, 0, none⟩) /\ v19 = .pointer (some ⟨g19, 0, none⟩) /\ A7 (AG w Z5 [AF AY (some adN) dn sb.N, AF (Kd.int .i64) bp dp sb.P, AF (Kd.int .i64) bz dz sb.Z, AF (Kd.slice 3 (Kd.int .i64)) bk dk sb.K, AF AY (some adM) cn sa.N, AF (Kd.int .i64) ap cp sa.P, AF (Kd.int .i64) az cz sa.Z, AF (Kd.slice 3 (Kd.int .i64)) ak ck sa.K, AF kP (some adP) e prs, AF AY B d xb.f3, AF AY A c xa.f3] gg bm [] (Al g19 24 #[.int .i64 z.f0, .string z.f1, .string z.f2, .slice B3 z.f3.length d3] :: Al g18 24 #[.int .i64 y.f0, .string y.f1, .string y.f2, .slice A3 y.f3.length c3] :: Al g17 50 #[.int .i64 (u' : Int), .int .i64 (q' : Int)] :: G5 w.heap.size g10 g11 gg v s.ed [Df bkm (m + 1) (fun j => K j || decide (j = (u' : Int))), Al gn 3 (iA (s.nm.set q' (u' : Int))), Al g3 71 #[.slice (some adM) nA cn, .slice ap sa.P.length cp, .slice az sa.Z.length cz, .slice ak sa.K.length ck], Al g4 71 #[.slice (some adN) nB dn, .slice bp sb.P.length dp, .slice bz sb.Z.length dz, .slice bk nB dk], Al gb 24 #[.int .i64 xb.f0, .string xb.f1, .string xb.f2, .slice B xb.f3.length d], Al ga 24 #[.int .i64 xa.f0, .string xa.f1, .string xa.f2, .slice A xa.f3.length c]]) (1000 + s.ed.length) ad s.ks W))
   case first =>
    have nn1 := RJ w8 _ z0;have nn2 := RJ w8 _ pa0;have nn3 := RJ w8 _ pb0;have nn4 := RJ w8 _ y0;have nn5 := RJ w8 _ s0
    go_region_held3 (fun w' => w'.cell? ⟨g17, 0, none⟩ = some (.int .i64 (u' : Int)) /\ w'.cell? ⟨g17, 1, none⟩ = some (.int .i64 (q' : Int)) /\ w'.cell? ⟨g3, 0, none⟩ = some (.slice (some adM) nA cn) /\ w'.cell? ⟨g4, 0, none⟩ = some (.slice (some adN) nB dn) /\
     w'.cell? (adM.add (u' * 4)) = some (.int .i64 y.f0) /\ w'.cell? ⟨(adM.add (u' * 4)).block, (adM.add (u' * 4)).off + 1, none⟩ = some (.string y.f1) /\ w'.cell? ⟨(adM.add (u' * 4)).block, (adM.add (u' * 4)).off + 2, none⟩ = some (.string y.f2) /\ w'.cell? ⟨(adM.add (u' * 4)).block, (adM.add (u' * 4)).off + 3, none⟩ = some (.slice A3 y.f3.length c3) /\
     w'.cell? (adN.add (q' * 4)) = some (.int .i64 z.f0) /\ w'.cell? ⟨(adN.add (q' * 4)).block, (adN.add (q' * 4)).off + 1, none⟩ = some (.string z.f1) /\ w'.cell? ⟨(adN.add (q' * 4)).block, (adN.add (q' * 4)).off + 2, none⟩ = some (.string z.f2) /\ w'.cell? ⟨(adN.add (q' * 4)).block, (adN.add (q' * 4)).off + 3, none⟩ = some (.slice B3 z.f3.length d3)) (go_keep) (fail)
    all_goals (go_wp2_with fail; go_meet; first | exact ⟨_, _, rfl, rfl, ⟨H9.out.box2 #[.int .i64 y.f0, .string y.f1, .string y.f2, .slice A3 y.f3.length c3] #[.int .i64 z.f0, .string z.f1, .string z.f2, .slice B3 z.f3.length d3] 24 24⟩⟩ | exact ⟨_, _, rfl, rfl, ⟨(H9.out.box2 #[.int .i64 z.f0, .string z.f1, .string z.f2, .slice B3 z.f3.length d3] #[.int .i64 y.f0, .string y.f1, .string y.f2, .slice A3 y.f3.length c3] 24 24).permX (List.Perm.swap _ _ _)⟩⟩)
   case rest =>
   clear H9 y0 y1 y2 y3 s0 s1 s2 s3 z0 z1 pa0 pb0;obtain ⟨g18, g19, rfl, rfl, H10⟩ := hcut;have hwi : wrap64 ((i : Int) + 1) = ((i + 1 : Nat) : Int) := by have := HW.out.1; have := hB.out.2.1; have := hB.out.1; unfold wrap64; omega
   replace hwi := A7.mk hwi;have y1 : wc.cell? ⟨g18, 1, none⟩ = some (.string y.f1) := (Aa (H10.out.blkAt (k := 1) rfl) 1).trans rfl;have y2 : wc.cell? ⟨g18, 2, none⟩ = some (.string y.f2) := (Aa (H10.out.blkAt (k := 1) rfl) 2).trans rfl;have s1 : wc.cell? ⟨g19, 1, none⟩ = some (.string z.f1) := (Aa (H10.out.blkAt (k := 0) rfl) 1).trans rfl;have s2 : wc.cell? ⟨g19, 2, none⟩ = some (.string z.f2) := (Aa (H10.out.blkAt (k := 0) rfl) 2).trans rfl;have z0 : wc.cell? ⟨g17, 0, none⟩ = some (.int .i64 (u' : Int)) := (Aa (H10.out.blkAt (k := 2) rfl) 0).trans rfl;have H11 := H10.out.toFront3;clear H10;have hstep : Og sa.N sb.N s (prs.getD i (0, 0)) = if y.f1 = z.f1 /\ y.f2 = z.f2 then some ⟨s.nm.set q' (u' : Int), s.nx, s.ks, s.ed⟩ else (⟨s.nm.set q' (u' : Int), s.nx, s.ks, s.ed⟩ : Os).run ⟨3, (u' : Int), 0, 0, 0, z.f1, z.f2⟩ := by
    rw [HW.out.2.1];unfold Og;dsimp only;rw [PO, PO, show sa.N.getD u' D0 = y from HY.out.1, show sb.N.getD q' D0 = z from HY.out.2]
   have hst := HW.out.2.2.1;rw [<- HW.out.2.1, hstep] at hst;have hok1 : Eh nB ⟨s.nm.set q' (u' : Int), s.nx, s.ks, s.ed⟩ := ⟨hs.out.2.1.inv, hs.out.2.1.len, by show (s.nm.set q' (u' : Int)).length = nB; rw [List.length_set]; exact hs.out.2.1.nm⟩;have hKn : ∀ x, (K x || decide (x = (u' : Int))) = true ↔ x ∈ (prs.take (i + 1)).map (·.1) := fun x => by
    have hxi : prs[i]? = some ((u' : Int), (q' : Int)) := by
     have h9 := HW.out.2.1;rw [Pt, Pg HW.out.2.2.2.2.2] at h9;rw [Pg HW.out.2.2.2.2.2];exact congrArg some h9
    rw [List.take_add_one, hxi, List.map_append, List.mem_append, <- hs.out.2.2.2 x];simp
   clear hstep;have hte : (y.f1 = z.f1 /\ y.f2 = z.f2) ↔ (y.f1.toList = z.f1.toList /\ y.f2.toList = z.f2.toList) := by rw [toList_inj, toList_inj]
   by_cases ht1 : y.f1.toList = z.f1.toList
   ·have e1 : (y.f1.toList == z.f1.toList) = true := beq_iff_eq.mpr ht1;have e1b : (y.f1.toList != z.f1.toList) = BK := bne_eq_false_iff_eq.mpr ht1;by_cases ht2 : y.f2.toList = z.f2.toList
    ·have e2 : (y.f2.toList == z.f2.toList) = true := beq_iff_eq.mpr ht2;have e2b : (y.f2.toList != z.f2.toList) = BK := bne_eq_false_iff_eq.mpr ht2;rw [if_pos (hte.2 ⟨ht1, ht2⟩), Pj] at hst;replace hst := A7.mk hst;replace hok1 := A7.mk hok1;replace hKn := A7.mk hKn;have HH : AG w Z5 [AF AY (some adN) dn sb.N, AF (Kd.int .i64) bp dp sb.P, AF (Kd.int .i64) bz dz sb.Z, AF (Kd.slice 3 (Kd.int .i64)) bk dk sb.K, AF AY (some adM) cn sa.N, AF (Kd.int .i64) ap cp sa.P, AF (Kd.int .i64) az cz sa.Z, AF (Kd.slice 3 (Kd.int .i64)) ak ck sa.K, AF kP (some adP) e prs, AF AY B d xb.f3, AF AY A c xa.f3] gg bm [] (G5 w.heap.size g10 g11 gg v s.ed [Df bkm (m + 1) (fun j => K j || decide (j = (u' : Int))), Al gn 3 (iA (s.nm.set q' (u' : Int))), Al g3 71 #[.slice (some adM) nA cn, .slice ap sa.P.length cp, .slice az sa.Z.length cz, .slice ak sa.K.length ck], Al g4 71 #[.slice (some adN) nB dn, .slice bp sb.P.length dp, .slice bz sb.Z.length dz, .slice bk nB dk], Al gb 24 #[.int .i64 xb.f0, .string xb.f1, .string xb.f2, .slice B xb.f3.length d], Al ga 24 #[.int .i64 xa.f0, .string xa.f1, .string xa.f2, .slice A xa.f3.length c]]) (1000 + s.ed.length) ad s.ks wc := H11.drop3;replace HH := A7.mk HH;clear ht1 ht2 hte H11;go_wp2
     go_roundg (nP - i)
     case rel => exact ⟨i + 1, ⟨s.nm.set q' (u' : Int), s.nx, s.ks, s.ed⟩, v, ad, _, m + 1, by rw [hwi.out], ⟨by have := HW.out.1; omega, by have := HW.out.1; omega, by have := hi.out; omega⟩, ⟨hst.out, hok1.out, hs.out.2.2.1, hKn.out⟩, HH⟩
     case measure => have := hi.out; have := HW.out.1; omega
    ·have e2 : (y.f2.toList == z.f2.toList) = BK := beq_eq_false_iff_ne.mpr ht2;have e2b : (y.f2.toList != z.f2.toList) = true := bne_iff_ne.mpr ht2;rw [if_neg (fun h => ht2 (hte.1 h).2)] at hst;clear ht1 ht2 hte;cases hr : (⟨s.nm.set q' (u' : Int), s.nx, s.ks, s.ed⟩ : Os).run ⟨3, (u' : Int), 0, 0, 0, z.f1, z.f2⟩ with
     | none => rw [hr] at hst; cases hst
     | some t =>
     rw [hr, Pj] at hst;obtain ⟨o1, o2, o3, o4, o5, o6, o7, o8⟩ := Os.run_ok hok1 hr;dsimp only at o6;have hD := DS H11 hs.out.2.1.inv (by simp only [maxLen]; omega) (by have := hs.out.2.1.len; omega) (by omega) ⟨3, (u' : Int), 0, 0, 0, z.f1, z.f2⟩ o7 o8;rw [<- o2, <- o3] at hD;dsimp only at hD o3 o4 o5;have ho3l : t.ed.length = s.ed.length + 1 := by rw [o3]; simp
     replace hst := A7.mk (⟨hst, o1, o4, o5, ho3l⟩ : _ /\ _ /\ _ /\ _ /\ _);replace hD := A7.mk hD;replace hKn := A7.mk hKn;clear hok1 H11 hr o1 o2 o3 o4 o5 o6 o7 o8 ho3l
     go_wp2_with (go_at_call 28; refine hD.out.mono ?_; rintro e_ w9 ⟨rfl, ad', v9, _, H9⟩; replace H9 := A7.mk H9.drop3)
     go_roundg (nP - i)
     case rel => exact ⟨i + 1, t, v9, ad', _, m + 1, by rw [hwi.out], ⟨by have := HW.out.1; omega, by have := HW.out.1; omega, by have := hi.out; omega⟩, ⟨hst.out.1, hst.out.2.1, hst.out.2.2.2.1.trans hs.out.2.2.1, hKn.out⟩, ⟨by rw [hst.out.2.2.2.2, hst.out.2.2.1]; exact H9.out⟩⟩
     case measure => have := hi.out; have := HW.out.1; omega
   ·have e1 : (y.f1.toList == z.f1.toList) = BK := beq_eq_false_iff_ne.mpr ht1;have e1b : (y.f1.toList != z.f1.toList) = true := bne_iff_ne.mpr ht1;rw [if_neg (fun h => ht1 (hte.1 h).1)] at hst;clear ht1 hte;cases hr : (⟨s.nm.set q' (u' : Int), s.nx, s.ks, s.ed⟩ : Os).run ⟨3, (u' : Int), 0, 0, 0, z.f1, z.f2⟩ with
    | none => rw [hr] at hst; cases hst
    | some t =>
    rw [hr, Pj] at hst;obtain ⟨o1, o2, o3, o4, o5, o6, o7, o8⟩ := Os.run_ok hok1 hr;dsimp only at o6;have hD := DS H11 hs.out.2.1.inv (by simp only [maxLen]; omega) (by have := hs.out.2.1.len; omega) (by omega) ⟨3, (u' : Int), 0, 0, 0, z.f1, z.f2⟩ o7 o8;rw [<- o2, <- o3] at hD;dsimp only at hD o3 o4 o5;have ho3l : t.ed.length = s.ed.length + 1 := by rw [o3]; simp
    replace hst := A7.mk (⟨hst, o1, o4, o5, ho3l⟩ : _ /\ _ /\ _ /\ _ /\ _);replace hD := A7.mk hD;replace hKn := A7.mk hKn;clear hok1 H11 hr o1 o2 o3 o4 o5 o6 o7 o8 ho3l
    go_wp2_with (go_at_call 28; refine hD.out.mono ?_; rintro e_ w9 ⟨rfl, ad', v9, _, H9⟩; replace H9 := A7.mk H9.drop3)
    go_roundg (nP - i)
    case rel => exact ⟨i + 1, t, v9, ad', _, m + 1, by rw [hwi.out], ⟨by have := HW.out.1; omega, by have := HW.out.1; omega, by have := hi.out; omega⟩, ⟨hst.out.1, hst.out.2.1, hst.out.2.2.2.1.trans hs.out.2.2.1, hKn.out⟩, ⟨by rw [hst.out.2.2.2.2, hst.out.2.2.1]; exact H9.out⟩⟩
    case measure => have := hi.out; have := HW.out.1; omega
  ·have i1 : decide ((i : Int) < (nP : Int)) = BK := decide_eq_false (by omega);have i1b : decide (i < nP) = BK := decide_eq_false hlt;have i1c : ¬ (i : Int) < (nP : Int) := by omega
   have e : i = nP := by have := hi.out.1; omega
   have hst := hs.out.1;rw [List.drop_of_length_le (by rw [hB.out.1, e]; exact Ps _), LX, Pj] at hst;have hKx := hs.out.2.2.2;rw [List.take_of_length_le (by rw [hB.out.1, e]; exact Ps _)] at hKx;have hmi : m <= nP := by have := hi.out; omega
   have HZ := A7.mk (⟨hst, hs.out.2.1, hs.out.2.2.1, hmi, hKx⟩ : _ /\ _ /\ _ /\ _ /\ _);clear hst hKx hmi e hlt
   go_wp2_with fail
   go_meet;exact ⟨s, v, ad, K, m, HZ, H4⟩
end Go.Proofs.Q
