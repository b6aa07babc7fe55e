/- The texts of this claim that lie below its row, in their order: GOl2. -/
import Derived.Test.YtfmlpkeaiohknaaZA12
set_option linter.unusedVariables false
set_option linter.unusedSimpArgs false
set_option maxHeartbeats 16000000
set_option maxRecDepth 100000
open Bool renaming false -> BK
open Go renaming World -> Pe, Value -> Pd, undef -> Pc
open Go.Act renaming eval -> Q1, put -> Ph
open Go.IntKind renaming i64 -> Po
open Go.RowKit renaming wrap64 -> Pq
open Go.Value renaming slice -> Pk, int -> PE, string -> Pr, agg -> Q5, pointer -> Pw, func -> RC, map -> RM, bool -> RD
open Int renaming toNat_natCast -> PO
open List renaming length_append -> PK, mem_cons_of_mem -> R9, length_set -> Q6
open Nat renaming zero_le -> Qa, le_trans -> Qo
open Option renaming bind_assoc -> SN, map_some -> Ra, bind_some -> Pj
open Option.some renaming inj -> Px
namespace Go.Proofs.Q
open Go Go.RowKit Go.Lib Go.Sort Go.Proofs.V.Words Go.Proofs.V.Last Go.Proofs.V.More Go.Proofs.V.SL
attribute [local go_sem] BI BJ BY BZ Bu Bv BL BM
theorem LL {xa xb : B8} {A B P : Option Addr} {c d e : Nat} {prs : List (Int × Int)} {w : Pe} {sF : Os} {sa sb : PS} {nP : Nat} {ga : Nat} {gb : Nat} {g3 g4 : Nat} {an : Option Addr} {cn : Nat} {ap : Option Addr} {cp : Nat} {az : Option Addr} {cz : Nat} {ak : Option Addr} {ck : Nat} {bn : Option Addr} {dn : Nat} {bp : Option Addr} {dp : Nat} {bz : Option Addr} {dz : Nat} {bk : Option Addr} {dk nA nB : Nat} {gg bm : Nat} {Z5 : Nat -> Prop} {g10 : Nat} {g11 : Nat} {gn bkm : Nat} {u15 u53 u54 u55 u56 u57 u58 u59 : Pd} {wc : Pe} {u17 u18 u19 u62 u63 u64 u65 u66 u67 u68 u69 u70 u71 u72 u73 u74 u75 u76 u77 u78 u79 u80 u81 u82 u83 u84 u85 u86 u87 u88 u89 u90 u91 u92 u93 u94 u95 u96 u97 u98 u99 u100 u101 u102 u103 u104 u105 u106 u107 u108 : Pd} {s : Os} {v : Pd} {ad : Int -> Nat} {K : Int -> Bool} {m : Nat} {G3 : Os -> Option Os} {Jx Kx : Act -> Pe -> Prop}
 (hB : A7
  (prs.length = nP /\
   prs.length <= 1000 /\
    KL sb /\
     (sa.N.length <= 1000 /\ sb.N.length <= 1000) /\
      Eh sb.N.length
       {nm := List.replicate sb.N.length (-1), nx := ↑sa.N.length, ks := Bn sa.N sa.P sa.N.length,
        ed := [] }))
 (HN : A7 (sa.N.length = nA /\ sb.N.length = nB /\ sb.K.length = nB /\ nA <= 1000 /\ nB <= 1000))
 (H4 : A7
  (AG w Z5
   [AF AY bn dn sb.N, AF (Kd.int Po) bp dp sb.P, AF (Kd.int Po) bz dz sb.Z,
    AF (Kd.slice 3 (Kd.int Po)) bk dk sb.K, AF AY an cn sa.N, AF (Kd.int Po) ap cp sa.P,
    AF (Kd.int Po) az cz sa.Z, AF (Kd.slice 3 (Kd.int Po)) ak ck sa.K, AF kP P e prs,
    AF AY B d xb.f3, AF AY A c xa.f3]
   gg bm []
   (G5 w.heap.size g10 g11 gg v s.ed
    [Df bkm m K, Al gn 3 (iA s.nm),
     Al g3 71
      #[Pk an nA cn, Pk ap sa.P.length cp, Pk az sa.Z.length cz,
       Pk ak sa.K.length ck],
     Al g4 71
      #[Pk bn nB dn, Pk bp sb.P.length dp, Pk bz sb.Z.length dz, Pk bk nB dk],
     Al gb 24
      #[PE Po xb.f0, Pr xb.f1, Pr xb.f2, Pk B xb.f3.length d],
     Al ga 24
      #[PE Po xa.f0, Pr xa.f1, Pr xa.f2, Pk A xa.f3.length c]])
   (1000 + s.ed.length) ad s.ks wc))
 (HS : A7 ((KH sb.N sb.K nB 0 s).bind G3 = some sF /\ Eh nB s /\ s.nx <= 1000 + ↑s.ed.length))
 (HK : A7 (m <= nP /\ ∀ (x : Int), K x = true ↔ x ∈ List.map (fun x => x.fst) prs))
 (hG3 : A7 (G3 = fun s2 => LY (fun x => decide (x ∈ List.map (fun x => x.fst) prs)) nA s2))
 (hnx0 : A7 (s.nx = ↑nA))
 (hJ : ∀ (a' : Act) (w' : Pe),
  (∃ u20 u21 u22 u23 u24 u26 u27 u28 u29 u31 u32 u115 u116 u117 u118 u119 u120 u121 u122 u123 u124 u125 u126 u127 u128
    u129 u130 u131 u132 u133 u134 u135 u136 u137 u138 u139 u140 u141 u142 u143 u144 u145 u146 u147 u148 u149 u150
    u151 u152 u153 u154 u155 u156 u157 u158 u159 u160 u161 u162 u163 u164 u165 u166 u167 u168 u169 u170 u171 u172
    u173 u174 u175 u176 u177 u178 u179 u180 u181 u182 u183 u184 u185 u186 u187 u188 u189 u190 u191 u192 u193 u194
    u195 u196 u197 u198 u199 u200 u201 u202 u203 u204 u205 u206 u207 u208 u209 u210 u211 u212 u213 u214 u215 u216
    u217 u218 u219 u220 u221 u222 u223 u224 u225 u226 u227 u228 u229 u230 u231 u232 u233 u234 u235 u236 u237 u238
    u239 u240 u241 u242 u243 u244 u245,
    (∃ s v ad,
      A7 (G3 s = some sF /\ Eh nB s) /\
       A7
        (AG w Z5
         [AF AY bn dn sb.N, AF (Kd.int Po) bp dp sb.P, AF (Kd.int Po) bz dz sb.Z,
          AF (Kd.slice 3 (Kd.int Po)) bk dk sb.K, AF AY an cn sa.N,
          AF (Kd.int Po) ap cp sa.P, AF (Kd.int Po) az cz sa.Z,
          AF (Kd.slice 3 (Kd.int Po)) ak ck sa.K, AF kP P e prs, AF AY B d xb.f3,
          AF AY A c xa.f3]
         gg bm []
         (G5 w.heap.size g10 g11 gg v s.ed
          [Df bkm m K, Al gn 3 (iA s.nm),
           Al g3 71
            #[Pk an nA cn, Pk ap sa.P.length cp, Pk az sa.Z.length cz,
             Pk ak sa.K.length ck],
           Al g4 71
            #[Pk bn nB dn, Pk bp sb.P.length dp, Pk bz sb.Z.length dz,
             Pk bk nB dk],
           Al gb 24
            #[PE Po xb.f0, Pr xb.f1, Pr xb.f2,
             Pk B xb.f3.length d],
           Al ga 24
            #[PE Po xa.f0, Pr xa.f1, Pr xa.f2,
             Pk A xa.f3.length c]])
         (1000 + s.ed.length) ad s.ks w')) /\
     a' =
      {
       tmps :=
        #[Q5
          #[PE Po xa.f0, Pr xa.f1, Pr xa.f2,
           Pk A xa.f3.length c],
         Q5
          #[PE Po xb.f0, Pr xb.f1, Pr xb.f2,
           Pk B xb.f3.length d],
         Pk P nP e, Pw (some { block := ga, off := 0 }),
         Pw (some { block := gb, off := 0 }), Pc, Pk none 0 0, PE Po 0,
         Pw (some { block := g3, off := 0 }), Pw (some { block := g4, off := 0 }),
         Pw (some { block := g10, off := 0 }), Pw (some { block := g11, off := 0 }),
         RC (Fn.func 28) #[]
          #[Pw (some { block := g10, off := 0 }), Pw (some { block := g11, off := 0 })],
         Pk (some { block := gn, off := 0 }) nB nB, RM (some bkm), u15, Pc, u17, u18, u19,
         u20, u21, u22, u23, u24, Pc, u26, u27, u28, u29, Pc, u31, u32, Pc,
         Q5
          #[PE Po xa.f0, Pr xa.f1, Pr xa.f2,
           Pk A xa.f3.length c],
         Q5
          #[PE Po xb.f0, Pr xb.f1, Pr xb.f2,
           Pk B xb.f3.length d],
         Pk P nP e, RD true, RD BK,
         Q5
          #[PE Po xa.f0, Pr xa.f1, Pr xa.f2,
           Pk A xa.f3.length c],
         Q5 ((⟨an, cn, ap, cp, az, cz, ak, ck⟩ : A8).u sa),
         Q5
          #[PE Po xb.f0, Pr xb.f1, Pr xb.f2,
           Pk B xb.f3.length d],
         Q5 ((⟨bn, dn, bp, dp, bz, dz, bk, dk⟩ : A8).u sb),
         Q5
          #[PE Po xa.f0, Pr xa.f1, Pr xa.f2,
           Pk A xa.f3.length c],
         Pw (some { block := gg, off := 0 }),
         RC (Fn.func 28) #[]
          #[Pw (some { block := g10, off := 0 }), Pw (some { block := g11, off := 0 })],
         Pw (some { block := g4, off := 0 }), Pk bn nB dn, PE Po ↑nB,
         Pk (some { block := gn, off := 0 }) nB nB, RM (some bkm),
         Pk (some { block := gn, off := 0 }) nB nB, PE Po ↑nB, u53, u54, u55, u56,
         u57, u58, u59, Pk P nP e, PE Po ↑nP, u62, u63, u64, u65, u66, u67, u68, u69,
         u70, u71, u72, u73, u74, u75, u76, u77, u78, u79, u80, u81, u82, u83, u84, u85, u86, u87, u88, u89,
         u90, u91, u92, u93, u94, u95, u96, u97, u98, u99, u100, u101, u102, u103, u104, u105, u106, u107,
         u108, Pw (some { block := g3, off := 0 }), Pk an nA cn, PE Po ↑nA,
         Pw (some { block := g4, off := 0 }), Pk bn nB dn, PE Po ↑nB, u115,
         u116, u117, u118, u119, u120, u121, u122, u123, u124, u125, u126, u127, u128, u129, u130, u131, u132,
         u133, u134, u135, u136, u137, u138, u139, u140, u141, u142, u143, u144, u145, u146, u147, u148, u149,
         u150, u151, u152, u153, u154, u155, u156, u157, u158, u159, u160, u161, u162, u163, u164, u165, u166,
         u167, u168, u169, u170, u171, u172, u173, u174, u175, u176, u177, u178, u179, u180, u181, u182, u183,
         u184, u185, u186, u187, u188, u189, u190, u191, u192, u193, u194, u195, u196, u197, u198, u199, u200,
         u201, u202, u203, u204, u205, u206, u207, u208, u209, u210, u211, u212, u213, u214, u215, u216, u217,
         u218, u219, u220, u221, u222, u223, u224, u225, u226, u227, u228, u229, u230, u231, u232, u233, u234,
         u235, u236, u237, u238, u239, u240, u241, u242, u243, u244, u245, Pc, Pc, Pc, Pc, Pc,
         Pc, Pc, Pc, Pc, Pc, Pc, Pc, Pc, Pc, Pc, Pc, Pc],
       defers := [] }) ->
   Jx a' w')
 (hM : ∀ (a' : Act) (w' : Pe), Met Jx a' w' -> Kx a' w') :
 Code.wp Try.prog
  (sof.code 4)
  (Exit.then Kx (bodyPost Try.prog Try.f15 fun e w' => RowKit.Below w.heap.size w w' /\ JY w true sF.ed e w'))
  {
   tmps :=
    #[Q5
      #[PE Po xa.f0, Pr xa.f1, Pr xa.f2, Pk A xa.f3.length c],
     Q5
      #[PE Po xb.f0, Pr xb.f1, Pr xb.f2, Pk B xb.f3.length d],
     Pk P nP e, Pw (some { block := ga, off := 0 }),
     Pw (some { block := gb, off := 0 }), Pc, Pk none 0 0, PE Po 0,
     Pw (some { block := g3, off := 0 }), Pw (some { block := g4, off := 0 }),
     Pw (some { block := g10, off := 0 }), Pw (some { block := g11, off := 0 }),
     RC (Fn.func 28) #[]
      #[Pw (some { block := g10, off := 0 }), Pw (some { block := g11, off := 0 })],
     Pk (some { block := gn, off := 0 }) nB nB, RM (some bkm), u15, Pc, u17, u18, u19,
     PE Po ↑nA, Pc, Pc, Pc, Pc, Pc, Pc, Pc, Pc, Pc, Pc, Pc, Pc,
     Pc,
     Q5
      #[PE Po xa.f0, Pr xa.f1, Pr xa.f2, Pk A xa.f3.length c],
     Q5
      #[PE Po xb.f0, Pr xb.f1, Pr xb.f2, Pk B xb.f3.length d],
     Pk P nP e, RD true, RD BK,
     Q5
      #[PE Po xa.f0, Pr xa.f1, Pr xa.f2, Pk A xa.f3.length c],
     Q5 ((⟨an, cn, ap, cp, az, cz, ak, ck⟩ : A8).u sa),
     Q5
      #[PE Po xb.f0, Pr xb.f1, Pr xb.f2, Pk B xb.f3.length d],
     Q5 ((⟨bn, dn, bp, dp, bz, dz, bk, dk⟩ : A8).u sb),
     Q5
      #[PE Po xa.f0, Pr xa.f1, Pr xa.f2, Pk A xa.f3.length c],
     Pw (some { block := gg, off := 0 }),
     RC (Fn.func 28) #[]
      #[Pw (some { block := g10, off := 0 }), Pw (some { block := g11, off := 0 })],
     Pw (some { block := g4, off := 0 }), Pk bn nB dn, PE Po ↑nB,
     Pk (some { block := gn, off := 0 }) nB nB, RM (some bkm),
     Pk (some { block := gn, off := 0 }) nB nB, PE Po ↑nB, u53, u54, u55, u56, u57, u58,
     u59, Pk P nP e, PE Po ↑nP, u62, u63, u64, u65, u66, u67, u68, u69, u70, u71, u72,
     u73, u74, u75, u76, u77, u78, u79, u80, u81, u82, u83, u84, u85, u86, u87, u88, u89, u90, u91, u92, u93, u94,
     u95, u96, u97, u98, u99, u100, u101, u102, u103, u104, u105, u106, u107, u108,
     Pw (some { block := g3, off := 0 }), Pk an nA cn, PE Po ↑nA,
     Pw (some { block := g4, off := 0 }), Pk bn nB dn, PE Po ↑nB,
     PE Po 0, Pc, Pc, Pc, Pc, Pc, Pc, Pc, Pc, Pc, Pc, Pc, Pc,
     Pc, Pc, Pc, Pc, Pc, Pc, Pc, Pc, Pc, Pc, Pc, Pc, Pc, Pc, Pc,
     Pc, Pc, Pc, Pc, Pc, Pc, Pc, Pc, Pc, Pc, Pc, Pc, Pc, Pc, Pc,
     Pc, Pc, Pc, Pc, Pc, Pc, Pc, Pc, Pc, Pc, Pc, Pc, Pc, Pc, Pc,
     Pc, Pc, Pc, Pc, Pc, Pc, Pc, Pc, Pc, Pc, Pc, Pc, Pc, Pc, Pc,
     Pc, Pc, Pc, Pc, Pc, Pc, Pc, Pc, Pc, Pc, Pc, Pc, Pc, Pc, Pc,
     Pc, Pc, Pc, Pc, Pc, Pc, Pc, Pc, Pc, Pc, Pc, Pc, Pc, Pc, Pc,
     Pc, Pc, Pc, Pc, Pc, Pc, Pc, Pc, Pc, Pc, Pc, Pc, Pc, Pc, Pc,
     Pc, Pc, Pc, Pc, Pc, Pc, Pc, Pc, Pc, Pc, Pc, Pc, Pc, Pc, Pc,
     Pc, Pc, Pc, Pc, Pc, Pc, Pc, Pc, Pc, Pc, Pc, Pc, Pc, Pc, Pc],
   defers := [] }
  wc := by
 have hmm := @run_makeMap Try.prog;have hu24 := Try.underlying24;have hu71 := Try.underlying71
 conv => arg 2; whnf
 go_wp2_with fail
 go_loopg [20, 115] (nB + 1) (fun kq v20 v115 W => ∃ (i : Nat) (s : Os) (v : Pd) (ad : Int -> Nat), v115 = .int .i64 (i : Int) /\ v20 = .int .i64 s.nx /\ A7 (i <= nB /\ kq = nB - i + 1) /\ A7 ((KH sb.N sb.K (nB - i) i s).bind G3 = some sF /\ Eh nB s /\ s.nx <= 1000 + (s.ed.length : Int)) /\ A7 (AG w Z5 [AF AY bn dn sb.N, AF (Kd.int .i64) bp dp sb.P, AF (Kd.int .i64) bz dz sb.Z, AF (Kd.slice 3 (Kd.int .i64)) bk dk sb.K, AF AY an cn sa.N, AF (Kd.int .i64) ap cp sa.P, AF (Kd.int .i64) az cz sa.Z, AF (Kd.slice 3 (Kd.int .i64)) ak ck sa.K, AF kP P e prs, AF AY B d xb.f3, AF AY A c xa.f3] gg bm [] (G5 w.heap.size g10 g11 gg v s.ed [Df bkm m K, Al gn 3 (iA s.nm), Al g3 71 #[.slice an nA cn, .slice ap sa.P.length cp, .slice az sa.Z.length cz, .slice ak sa.K.length ck], Al g4 71 #[.slice bn nB dn, .slice bp sb.P.length dp, .slice bz sb.Z.length dz, .slice bk nB dk], Al gb 24 #[.int .i64 xb.f0, .string xb.f1, .string xb.f2, .slice B xb.f3.length d], Al ga 24 #[.int .i64 xa.f0, .string xa.f1, .string xa.f2, .slice A xa.f3.length c]]) (1000 + s.ed.length) ad s.ks W))
 case atStart => exact ⟨0, s, v, ad, rfl, by rw [hnx0.out], ⟨Qa _, rfl⟩, HS, H4⟩
 case round =>
  clear H4 HS hnx0;clear s v ad;obtain ⟨i, s, v, ad, rfl, rfl, hi, hs, H4⟩ := hrel;by_cases hlt : i < nB
  ·have i1 : decide ((i : Int) < (nB : Int)) = true := decide_eq_true (by omega);have i1b : decide (i < nB) = true := decide_eq_true hlt;have i1c : (i : Int) < (nB : Int) := by omega
   have i2 : (0 : Int) <= (i : Int) := by omega
   obtain ⟨G2, hG2⟩ : ∃ G2 : Os -> Option Os, G2 = fun s2 => (KH sb.N sb.K (nB - (i + 1)) (i + 1) s2).bind G3 := ⟨_, rfl⟩
   have hst := hs.out.1;rw [show nB - i = (nB - (i + 1)) + 1 by omega, KH, SN] at hst;rw [<- hG2] at hst;unfold ER at hst;cases hg : CY s.ks (s.nm.getD i 0) with
   | none => rw [hg] at hst; cases hst
   | some p =>
   rw [hg] at hst;dsimp only at hst;obtain ⟨hpm, hpi⟩ := Cn hg;have hI := hs.out.2.1.inv;have hp64 := (hI.in64 p hpm).2;have hkin := hB.out.2.2.1.kin i (by rw [HN.out.2.1]; exact hlt);rw [HN.out.2.1] at hkin;have hkle := hB.out.2.2.1.kle i;have hiK : i < sb.K.length := by rw [HN.out.2.2.1]; exact hlt
   have l27 := H4.out.drew.at_ hp64 (List.mem_map.2 ⟨p, hpm, rfl⟩)
   have c10 : wr.cell? ⟨g10, 0, none⟩ = some (.pointer (some ⟨gg, 0, none⟩)) := (Aa (H4.out.blkAt (k := 2) rfl) 0).trans rfl;have cgb := H4.out.gbCell;have hil : i < s.nm.length := by rw [hs.out.2.1.nm]; exact hlt
   have cgn : wr.cell? ⟨gn, i, none⟩ = some (.int .i64 p.id) := (Aa (H4.out.blkAt (k := 4) rfl) i).trans (by rw [C9 hil, hpi]);have H5 := H4.out.drew;replace H5 := A7.mk H5;obtain ⟨kids, hkids⟩ : ∃ q, sb.K.getD i [] = q := ⟨_, rfl⟩;rw [hkids] at hst hkin hkle;have HW := A7.mk (⟨hlt, hst, hpm, hpi, hI, hp64, hkin, hkle, hiK, hil, hkids, hG2⟩ : _ /\ _ /\ _ /\ _ /\ _ /\ _ /\ _ /\ _ /\ _ /\ _ /\ _ /\ _);clear hlt hst hpm hpi hI hp64 hkin hkle hiK hil hkids hG2 hg
   go_upto_block 5 with fail
   go_cut [20] (fun v20 W => ∃ (s2 : Os) (v2 : Pd) (ad2 : Int -> Nat), v20 = .int .i64 s2.nx /\ A7 (G2 s2 = some sF /\ Eh nB s2 /\ s2.nx <= 1000 + (s2.ed.length : Int)) /\ A7 (AG w Z5 [AF AY bn dn sb.N, AF (Kd.int .i64) bp dp sb.P, AF (Kd.int .i64) bz dz sb.Z, AF (Kd.slice 3 (Kd.int .i64)) bk dk sb.K, AF AY an cn sa.N, AF (Kd.int .i64) ap cp sa.P, AF (Kd.int .i64) az cz sa.Z, AF (Kd.slice 3 (Kd.int .i64)) ak ck sa.K, AF kP P e prs, AF AY B d xb.f3, AF AY A c xa.f3] gg bm [] (G5 w.heap.size g10 g11 gg v2 s2.ed [Df bkm m K, Al gn 3 (iA s2.nm), Al g3 71 #[.slice an nA cn, .slice ap sa.P.length cp, .slice az sa.Z.length cz, .slice ak sa.K.length ck], Al g4 71 #[.slice bn nB dn, .slice bp sb.P.length dp, .slice bz sb.Z.length dz, .slice bk nB dk], Al gb 24 #[.int .i64 xb.f0, .string xb.f1, .string xb.f2, .slice B xb.f3.length d], Al ga 24 #[.int .i64 xa.f0, .string xa.f1, .string xa.f2, .slice A xa.f3.length c]]) (1000 + s2.ed.length) ad2 s2.ks W))
   case rest =>
    clear H5 H4 l27 c10 cgb cgn;obtain ⟨s2, v2, ad2, rfl, HJ, H16⟩ := hcut;have hwi : Pq ((i : Int) + 1) = ((i + 1 : Nat) : Int) := by have := HN.out.2.2.2.2; have := HW.out.1; unfold Pq; omega
    have HE := A7.mk (⟨hwi, HJ.out.1.symm.trans (by rw [HW.out.2.2.2.2.2.2.2.2.2.2.2])⟩ : _ /\ some sF = (KH sb.N sb.K (nB - (i + 1)) (i + 1) s2).bind G3);clear hwi
    go_wp2_with fail
    go_roundg (nB - i)
    case rel => exact ⟨i + 1, s2, v2, ad2, by rw [HE.out.1], rfl, ⟨by have := HW.out.1; omega, by have := HW.out.1; omega⟩, ⟨HE.out.2.symm, HJ.out.2.1, HJ.out.2.2⟩, H16⟩
    case measure => have := hi.out; have := HW.out.1; omega
   case first =>
   go_upto_region 27 with fail
   have hmix : Try.prog.follows .mixedOrders = true := by kernel_rfl
   go_region_o
   clear l27 c10 cgb cgn;obtain ⟨w6, hw6⟩ : ∃ q, wr.drew = q := ⟨_, rfl⟩;rw [hw6] at H5 ⊢;clear hw6 H4;obtain ⟨adK, A0, c0, rfl, hK, hrd⟩ := H5.out.facts fun L S => Iw S (j := 3) rfl i HW.out.2.2.2.2.2.2.2.2.1
   rw [HW.out.2.2.2.2.2.2.2.2.2.2.1] at hK hrd;have H6 := H5.out.addF (fun _ _ => hrd);have pb3 : w6.cell? ⟨g4, 3, none⟩ = some (.slice (some adK) nB dk) := (Aa (H6.blkAt (k := 6) rfl) 3).trans rfl;replace H6 := A7.mk H6;clear H5 hrd
   go_upto_block 6 with fail
   clear pb3 hK
   go_cut [23, 24] (fun v23 v24 W => ∃ A3 c3 A4 c4, v23 = .slice A3 (BO s.nm p kids).length c3 /\ v24 = .slice A4 (BP s.nm p kids).length c4 /\ A7 (AG w Z5 (AF (Kd.int .i64) A0 c0 kids :: [AF AY bn dn sb.N, AF (Kd.int .i64) bp dp sb.P, AF (Kd.int .i64) bz dz sb.Z, AF (Kd.slice 3 (Kd.int .i64)) (some adK) dk sb.K, AF AY an cn sa.N, AF (Kd.int .i64) ap cp sa.P, AF (Kd.int .i64) az cz sa.Z, AF (Kd.slice 3 (Kd.int .i64)) ak ck sa.K, AF kP P e prs, AF AY B d xb.f3, AF AY A c xa.f3]) gg bm [] (Bo (Kd.int .i64) 3 w.heap.size (.slice A3 (BO s.nm p kids).length c3) (BO s.nm p kids) :: Bo (Kd.int .i64) 3 w.heap.size (.slice A4 (BP s.nm p kids).length c4) (BP s.nm p kids) :: G5 w.heap.size g10 g11 gg v s.ed [Df bkm m K, Al gn 3 (iA s.nm), Al g3 71 #[.slice an nA cn, .slice ap sa.P.length cp, .slice az sa.Z.length cz, .slice ak sa.K.length ck], Al g4 71 #[.slice bn nB dn, .slice bp sb.P.length dp, .slice bz sb.Z.length dz, .slice (some adK) nB dk], Al gb 24 #[.int .i64 xb.f0, .string xb.f1, .string xb.f2, .slice B xb.f3.length d], Al ga 24 #[.int .i64 xa.f0, .string xa.f1, .string xa.f2, .slice A xa.f3.length c]]) (1000 + s.ed.length) ad s.ks W))
   case first =>
    obtain ⟨nk, hnk⟩ : ∃ n, kids.length = n := ⟨_, rfl⟩;rw [hnk];have hnk6 : nk <= 1000 := by rw [<- hnk]; exact HW.out.2.2.2.2.2.2.2.1
    have HNK := A7.mk (⟨hnk, hnk6⟩ : _ /\ _);have H7 := (H6.out.add (a := Bo (Kd.int .i64) 3 w.heap.size (.slice none 0 0) []) (fun L S => D8 S)).add (a := Bo (Kd.int .i64) 3 w.heap.size (.slice none 0 0) []) (fun L S => D8 S);replace H7 := A7.mk H7;clear H6 hnk hnk6
    go_wp2_with fail
    go_loopg [23, 24, 133] (nk + 1) (fun kq v23 v24 v133 W => ∃ (j : Nat) (A3 : Option Addr) (c3 : Nat) (A4 : Option Addr) (c4 : Nat), v133 = .int .i64 (j : Int) /\ v23 = .slice A3 (BO s.nm p (kids.take j)).length c3 /\ v24 = .slice A4 (BP s.nm p (kids.take j)).length c4 /\ A7 (j <= nk /\ kq = nk - j + 1) /\ A7 (AG w Z5 (AF (Kd.int .i64) A0 c0 kids :: [AF AY bn dn sb.N, AF (Kd.int .i64) bp dp sb.P, AF (Kd.int .i64) bz dz sb.Z, AF (Kd.slice 3 (Kd.int .i64)) (some adK) dk sb.K, AF AY an cn sa.N, AF (Kd.int .i64) ap cp sa.P, AF (Kd.int .i64) az cz sa.Z, AF (Kd.slice 3 (Kd.int .i64)) ak ck sa.K, AF kP P e prs, AF AY B d xb.f3, AF AY A c xa.f3]) gg bm [] (Bo (Kd.int .i64) 3 w.heap.size (.slice A3 (BO s.nm p (kids.take j)).length c3) (BO s.nm p (kids.take j)) :: Bo (Kd.int .i64) 3 w.heap.size (.slice A4 (BP s.nm p (kids.take j)).length c4) (BP s.nm p (kids.take j)) :: G5 w.heap.size g10 g11 gg v s.ed [Df bkm m K, Al gn 3 (iA s.nm), Al g3 71 #[.slice an nA cn, .slice ap sa.P.length cp, .slice az sa.Z.length cz, .slice ak sa.K.length ck], Al g4 71 #[.slice bn nB dn, .slice bp sb.P.length dp, .slice bz sb.Z.length dz, .slice (some adK) nB dk], Al gb 24 #[.int .i64 xb.f0, .string xb.f1, .string xb.f2, .slice B xb.f3.length d], Al ga 24 #[.int .i64 xa.f0, .string xa.f1, .string xa.f2, .slice A xa.f3.length c]]) (1000 + s.ed.length) ad s.ks W))
    case atStart => exact ⟨0, none, 0, none, 0, rfl, rfl, rfl, ⟨Qa _, rfl⟩, ⟨by rw [List.take_zero]; exact H7.out⟩⟩
    case round =>
     clear H7;obtain ⟨j, A3, c3, A4, c4, rfl, rfl, rfl, hj, H7⟩ := hrel;by_cases hjl : j < nk
     ·have j1 : decide ((j : Int) < (nk : Int)) = true := decide_eq_true (by omega);have j1b : decide (j < nk) = true := decide_eq_true hjl;have j1c : (j : Int) < (nk : Int) := by omega
      have j2 : (0 : Int) <= (j : Int) := by omega
      have hjk : j < kids.length := by rw [HNK.out.1]; exact hjl
      obtain ⟨adI, rfl, x0⟩ := Oh (H7.out.facts fun L S => S.rdC 0 rfl) (j : Int) j2 (by rw [HNK.out.1]; exact j1c);simp only [PO] at x0;have hkin := HW.out.2.2.2.2.2.2.1 _ (Fv hjk 0);obtain ⟨k, hk⟩ : ∃ k : Nat, kids.getD j 0 = (k : Int) := ⟨_, (Int.toNat_of_nonneg hkin.1).symm⟩;rw [hk] at x0 hkin;obtain ⟨k0, k1⟩ := hkin;have htk : kids.take (j + 1) = kids.take j ++ [(k : Int)] := by rw [LB hjk 0, hk]
      have hkl : k < s.nm.length := by rw [hs.out.2.1.nm]; omega
      have n0 := (Aa (H7.out.blkAt (k := 6) rfl) k).trans (C9 hkl);obtain ⟨x, hx⟩ : ∃ x, s.nm.getD k 0 = x := ⟨_, rfl⟩;rw [hx] at n0;have hx2 : s.nm.getD (k : Int).toNat 0 = x := by rw [PO]; exact hx
      have hin := LA (nm := s.nm) (p := p) (l := kids.take j) (k := (k : Int));have hout := JT (nm := s.nm) (p := p) (l := kids.take j) (k := (k : Int));rw [<- htk, hx2] at hin hout;obtain ⟨q, hq⟩ : ∃ q, AO p.kids x = q := ⟨_, rfl⟩;rw [hq] at hin hout;have htl : (BO s.nm p (kids.take j)).length <= 1000 := Qo (GF _ _ _) (by rw [List.length_take]; have := HNK.out.2; have := HNK.out.1; omega);have hpl2 : (BP s.nm p (kids.take j)).length <= 1000 := by rw [EA]; exact htl
      obtain ⟨th, hth⟩ : ∃ q, BO s.nm p (kids.take j) = q := ⟨_, rfl⟩;obtain ⟨pl, hpl⟩ : ∃ q, BP s.nm p (kids.take j) = q := ⟨_, rfl⟩;rw [hth] at H7 hin hout htl ⊢;rw [hpl] at H7 hin hout hpl2 ⊢;have hwj : Pq ((j : Int) + 1) = ((j + 1 : Nat) : Int) := by have := HNK.out.2; unfold Pq; omega
      replace hwj := A7.mk hwj;have hPC := H7.out.placeC HW.out.2.2.2.2.1 HW.out.2.2.1 x;rw [hq] at hPC;unfold pk at hPC;replace hPC := A7.mk hPC;have HK2 := A7.mk (⟨hjl, hkl, hx, hq, htl, hpl2⟩ : _ /\ _ /\ _ /\ _ /\ _ /\ _);replace hin := A7.mk hin;replace hout := A7.mk hout;clear hjl hjk hk htk hkl hx hx2 hq htl hpl2 hth hpl;by_cases k2 : 0 <= x
      ·have d1 : decide (0 <= x) = true := decide_eq_true k2;by_cases k3 : 0 <= q
       ·have d2 : decide (0 <= q) = true := decide_eq_true k3;replace hin := A7.mk (hin.out k2 k3);clear hout k2 k3
        go_upto_region 33 with (go_at_call 29; refine hPC.out.mono ?_; rintro e_ w9 ⟨rfl, hb⟩; have H8 := A7.mk (H7.out.keep hb).drew; have n9 : w9.cell? ⟨gn, k, none⟩ = some (.int .i64 x) := (Aa ((H7.out.keep hb).blkAt (k := 6) rfl) k).trans (by rw [C9 HK2.out.2.1, HK2.out.2.2.1]); clear hb)
        clear n0 x0 H7 hPC
        go_region_held3 (fun w' => w'.cell? ⟨gn, k, none⟩ = some (.int .i64 x)) (first | assumption | go_keep) (first
         | (obtain ⟨ok, o1, o2, o3⟩ := H8.out.app0; refine Kd.R_append_step (Kd.int .i64) (w0 := w) w.heap.size (by rfl) (.tmp 151) (.tmp 153) 36 3 (.int .i64 0) 8 (by rfl) Try.underlying36 Ca rfl (by decide) (by omega) (.slice A3 th.length c3) th (k : Int) [.int .i64 (k : Int)] ok (fun _ => False) (by simp [Q1, Ph]) (by simp [Q1, Ph]) rfl (fun _ h => h.elim) o1 o2 H8.out.below H8.out.below.size (by have := HK2.out.2.2.2.2.1; omega) ?_; intro v10 w10 hR10 _ hg10 _; have H9 := o3 v10 w10 _ hR10 hg10; obtain ⟨A5, c5, e5⟩ := Kd.R_slice hR10; subst e5; have n10 : w10.cell? ⟨gn, k, none⟩ = some (.int .i64 x) := (Aa (H9.blkAt (k := 6) rfl) k).trans (by rw [C9 HK2.out.2.1, HK2.out.2.2.1]); have hPC2 := H9.placeC HW.out.2.2.2.2.1 HW.out.2.2.1 x; rw [HK2.out.2.2.2.1] at hPC2; unfold pk at hPC2; replace hPC2 := A7.mk hPC2; replace H9 := A7.mk H9; clear o1 o2 o3 hR10 hg10)
         | (refine Du (N := some 161) Try.func29 (by kernel_rfl) rfl #[.pointer (some ⟨ad p.id, 0, none⟩), .int .i64 x] (by rfl) rfl rfl (by simp [Q1, Ph]) ?_; refine hPC2.out.mono ?_; rintro e_ w11 ⟨rfl, hb⟩; refine ⟨_, rfl, ?_⟩; have H10 := A7.mk ((H9.out.keep hb).swap2); have n11 : w11.cell? ⟨gn, k, none⟩ = some (.int .i64 x) := (Aa ((H9.out.keep hb).blkAt (k := 6) rfl) k).trans (by rw [C9 HK2.out.2.1, HK2.out.2.2.1]); clear hb)
         | (obtain ⟨ok, o1, o2, o3⟩ := H10.out.app0; refine Kd.R_append_step (Kd.int .i64) (w0 := w) w.heap.size (by rfl) (.tmp 155) (.tmp 162) 36 3 (.int .i64 0) 8 (by rfl) Try.underlying36 Ca rfl (by decide) (by omega) (.slice A4 pl.length c4) pl q [.int .i64 q] ok (fun _ => False) (by simp [Q1, Ph]) (by simp [Q1, Ph]) rfl (fun _ h => h.elim) o1 o2 H10.out.below H10.out.below.size (by have := HK2.out.2.2.2.2.2; omega) ?_; intro v12 w12 hR12 _ hg12 _; have H11 := o3 v12 w12 _ hR12 hg12; obtain ⟨A6, c6, e6⟩ := Kd.R_slice hR12; subst e6; have n12 : w12.cell? ⟨gn, k, none⟩ = some (.int .i64 x) := (Aa (H11.blkAt (k := 6) rfl) k).trans (by rw [C9 HK2.out.2.1, HK2.out.2.2.1]); replace H11 := A7.mk H11; clear o1 o2 o3 hR12 hg12))
        all_goals (
         go_wp2
         go_roundg (nk - j)
         case rel => exact ⟨j + 1, A5, c5, A6, c6, by rw [hwj.out], by rw [hin.out.1, PK]; rfl, by rw [hin.out.2, PK]; rfl, ⟨by have := HK2.out.1; omega, by have := HK2.out.1; omega⟩, ⟨by rw [hin.out.1, hin.out.2]; exact H11.out.swap2⟩⟩
         case measure => have := hj.out; have := HK2.out.1; omega)
       ·have d2 : decide (0 <= q) = BK := decide_eq_false k3;replace hout := A7.mk (hout.out (fun h => k3 h.2));clear hin k2 k3
        go_wp2_with (go_at_call 29; refine hPC.out.mono ?_; rintro e_ w9 ⟨rfl, hb⟩; have H8 := A7.mk (H7.out.keep hb); clear hb)
        go_roundg (nk - j)
        case rel => exact ⟨j + 1, A3, c3, A4, c4, by rw [hwj.out], by rw [hout.out.1], by rw [hout.out.2], ⟨by have := HK2.out.1; omega, by have := HK2.out.1; omega⟩, ⟨by rw [hout.out.1, hout.out.2]; exact H8.out⟩⟩
        case measure => have := hj.out; have := HK2.out.1; omega
      ·have d1 : decide (0 <= x) = BK := decide_eq_false k2;replace hout := A7.mk (hout.out (fun h => k2 h.1));clear hin k2 hPC
       go_wp2_with fail
       go_roundg (nk - j)
       case rel => exact ⟨j + 1, A3, c3, A4, c4, by rw [hwj.out], by rw [hout.out.1], by rw [hout.out.2], ⟨by have := HK2.out.1; omega, by have := HK2.out.1; omega⟩, ⟨by rw [hout.out.1, hout.out.2]; exact H7.out⟩⟩
       case measure => have := hj.out; have := HK2.out.1; omega
     ·have j1 : decide ((j : Int) < (nk : Int)) = BK := decide_eq_false (by omega);have j1b : decide (j < nk) = BK := decide_eq_false hjl;have j1c : ¬ (j : Int) < (nk : Int) := by omega
      have htk : kids.take j = kids := List.take_of_length_le (by rw [HNK.out.1]; omega);rw [htk] at H7 ⊢;clear htk hjl
      go_wp2_with fail
      have hnk2 := HNK.out.1;clear HNK;subst hnk2;go_meet;exact ⟨A3, c3, A4, c4, rfl, rfl, H7⟩
   case rest =>
   clear H6;obtain ⟨A3, c3, A4, c4, rfl, rfl, H7⟩ := hcut
   go_upto_region 36 with fail
   have H8 := H7.out.newSet;obtain ⟨bs, hbs⟩ : ∃ b, wc.heap.size = b := ⟨_, rfl⟩;obtain ⟨w13, hw13⟩ : ∃ q, wc.alloc (.map #[] 0) = q := ⟨_, rfl⟩;rw [hbs, hw13] at H8 ⊢;have hpl6 : (BP s.nm p kids).length <= 1000 := by rw [EA]; exact Qo (GF _ _ _) HW.out.2.2.2.2.2.2.2.1
   have HR3 := A7.mk (H8.rising (k := 2) rfl (by omega));replace hpl6 := A7.mk hpl6;clear H7 H8 hbs hw13
   go_upto_block 8 with (first
    | (go_at_call 30; go_loud (refine HR3.out.mono ?_; rintro e_ w14 ⟨br, mr, rfl, hmr, H9⟩; obtain ⟨rr, w15, cnt, hr15, H10, hcm⟩ := H9.setRange (k := 0) rfl; replace hr15 := A7.mk hr15; replace H10 := A7.mk H10; have hcm2 : cnt <= 1001 := (by have := hpl6.out; omega); replace hcm2 := A7.mk hcm2; clear H9 hmr hcm))
    | (at_range; refine LD rfl 74 _ rfl _ _ (by rfl) hr15.out ?_))
   try go_frame
   clear hr15 HR3
   go_cut [] (fun W => ∃ m2, A7 (AG w Z5 (AF (Kd.int .i64) A0 c0 kids :: [AF AY bn dn sb.N, AF (Kd.int .i64) bp dp sb.P, AF (Kd.int .i64) bz dz sb.Z, AF (Kd.slice 3 (Kd.int .i64)) (some adK) dk sb.K, AF AY an cn sa.N, AF (Kd.int .i64) ap cp sa.P, AF (Kd.int .i64) az cz sa.Z, AF (Kd.slice 3 (Kd.int .i64)) ak ck sa.K, AF kP P e prs, AF AY B d xb.f3, AF AY A c xa.f3]) gg bm [] (Df bs m2 (F0 s.nm p kids) :: Bo (Kd.int .i64) 3 w.heap.size (.slice A3 (BO s.nm p kids).length c3) (BO s.nm p kids) :: Bo (Kd.int .i64) 3 w.heap.size (.slice A4 (BP s.nm p kids).length c4) (BP s.nm p kids) :: G5 w.heap.size g10 g11 gg v s.ed [Df bkm m K, Al gn 3 (iA s.nm), Al g3 71 #[.slice an nA cn, .slice ap sa.P.length cp, .slice az sa.Z.length cz, .slice ak sa.K.length ck], Al g4 71 #[.slice bn nB dn, .slice bp sb.P.length dp, .slice bz sb.Z.length dz, .slice (some adK) nB dk], Al gb 24 #[.int .i64 xb.f0, .string xb.f1, .string xb.f2, .slice B xb.f3.length d], Al ga 24 #[.int .i64 xa.f0, .string xa.f1, .string xa.f2, .slice A xa.f3.length c]]) (1000 + s.ed.length) ad s.ks W))
   case first =>
    go_wp2_with fail
    go_loopg [28] (cnt + 1) (fun kq v28 W => ∃ (left : Int -> Bool) (ct m2 : Nat) (K2 : Int -> Bool), A7 (kq = ct + 1 /\ m2 + ct <= cnt /\ (∀ x, left x = true -> x ∈ CE (BP s.nm p kids)) /\ ∀ k, K2 k = true ↔ ∃ y ∈ CE (BP s.nm p kids), left y = BK /\ (BO s.nm p kids).getD y.toNat 0 = k) /\ A7 (AG w Z5 (AF (Kd.int .i64) A0 c0 kids :: [AF AY bn dn sb.N, AF (Kd.int .i64) bp dp sb.P, AF (Kd.int .i64) bz dz sb.Z, AF (Kd.slice 3 (Kd.int .i64)) (some adK) dk sb.K, AF AY an cn sa.N, AF (Kd.int .i64) ap cp sa.P, AF (Kd.int .i64) az cz sa.Z, AF (Kd.slice 3 (Kd.int .i64)) ak ck sa.K, AF kP P e prs, AF AY B d xb.f3, AF AY A c xa.f3]) gg bm [] (NS br rr mr (fun x => decide (x ∈ CE (BP s.nm p kids))) left ct :: Df bs m2 K2 :: Bo (Kd.int .i64) 3 w.heap.size (.slice A3 (BO s.nm p kids).length c3) (BO s.nm p kids) :: Bo (Kd.int .i64) 3 w.heap.size (.slice A4 (BP s.nm p kids).length c4) (BP s.nm p kids) :: G5 w.heap.size g10 g11 gg v s.ed [Df bkm m K, Al gn 3 (iA s.nm), Al g3 71 #[.slice an nA cn, .slice ap sa.P.length cp, .slice az sa.Z.length cz, .slice ak sa.K.length ck], Al g4 71 #[.slice bn nB dn, .slice bp sb.P.length dp, .slice bz sb.Z.length dz, .slice (some adK) nB dk], Al gb 24 #[.int .i64 xb.f0, .string xb.f1, .string xb.f2, .slice B xb.f3.length d], Al ga 24 #[.int .i64 xa.f0, .string xa.f1, .string xa.f2, .slice A xa.f3.length c]]) (1000 + s.ed.length) ad s.ks W))
    case atStart => exact ⟨_, cnt, 0, fun _ => BK, ⟨rfl, Nat.le_of_eq (Nat.zero_add _), fun x hx => of_decide_eq_true hx, JV⟩, H10⟩
    case round =>
     clear H10;obtain ⟨left, ct, m2, K2, hj, H11⟩ := hrel;rcases H11.out.setNext (k := 0) rfl 0 with ⟨hn, hr⟩ | ⟨x, w16, ct2, a1, a2, a3, a4, a5, H12⟩
     ·replace hr := A7.mk hr;have HE := A7.mk (ML hn hj.out.2.2.2);clear hn
      go_wp2_with (at_next; refine Jd rfl _ rfl _ _ (by rfl) hr.out ?_)
      go_meet;exact ⟨m2, ⟨by rw [<- HE.out]; exact H11.out.drop⟩⟩
     ·have hxR := hj.out.2.2.1 x a1;obtain ⟨b0, b1⟩ := He hxR;rw [EA] at b1;obtain ⟨x', rfl⟩ : ∃ n : Nat, x = (n : Int) := ⟨x.toNat, by omega⟩;obtain ⟨adT, rfl, x0⟩ := Oh ((H12.rowC (k := 2) (n := (BO s.nm p kids).length) rfl rfl).2) (x' : Int) b0 b1;rw [PO] at x0;have hkm := Fv (l := BO s.nm p kids) (i := x') (by omega) 0;have hkin := HW.out.2.2.2.2.2.2.1 _ (JU hkm);obtain ⟨kk, hkk⟩ : ∃ q, (BO s.nm p kids).getD x' 0 = q := ⟨_, rfl⟩;rw [hkk] at x0 hkin;have hk64 : in64 kk := by have := HN.out.2.2.2.2; unfold in64; omega
      obtain ⟨w17, hr17, H13⟩ := H12.setPut (k := 1) rfl hk64 (by have := hj.out.2.1; have := hcm2.out; simp only [maxLen]; omega);have x1 := x0;have HE := A7.mk (⟨hxR, hkk, a5⟩ : _ /\ _ /\ _);replace a3 := A7.mk a3;replace hr17 := A7.mk hr17;replace H13 := A7.mk H13;clear x1 hxR hkm hkin hkk hk64 H12 H11 a5 a1 a2
      go_wp2_with (first
       | (at_next; refine Jd rfl _ rfl _ _ (by rfl) a3.out ?_)
       | (refine D2 rfl 74 _ _ _ rfl _ _ _ (by rfl) (by rfl) (by rfl) hr17.out ?_))
      go_roundg (ct2 + 1)
      case rel => exact ⟨_, ct2, m2 + 1, _, ⟨rfl, by have := hj.out.2.1; have := HE.out.2.2; omega, fun y hy => hj.out.2.2.1 y (by simp at hy; exact hy.1), LF HE.out.1 (by rw [PO]; exact HE.out.2.1) hj.out.2.2.2⟩, H13⟩
      case measure => have := hj.out.1; have := HE.out.2.2; omega
   case rest =>
   clear H10;obtain ⟨m2, H14⟩ := hcut;obtain ⟨st, hst⟩ : ∃ q, F0 s.nm p kids = q := ⟨_, rfl⟩;have hstart : (Fs sb.N i st kids (s, -1)).bind (fun t => G2 t.1) = some sF := by
    have h1 := HW.out.2.1;rw [LG, hst] at h1;exact h1
   rw [hst] at H14;clear hst;have H15 := ((H14.out.swap2.drop.swap2.drop).in4).lessF (F' := [AF AY bn dn sb.N, AF (Kd.int .i64) bp dp sb.P, AF (Kd.int .i64) bz dz sb.Z, AF (Kd.slice 3 (Kd.int .i64)) (some adK) dk sb.K, AF AY an cn sa.N, AF (Kd.int .i64) ap cp sa.P, AF (Kd.int .i64) az cz sa.Z, AF (Kd.slice 3 (Kd.int .i64)) ak ck sa.K, AF kP P e prs, AF AY B d xb.f3, AF AY A c xa.f3]) (fun a ha => R9 _ ha);obtain ⟨adK2, A1, cK, eK, hK, hrd⟩ := H15.facts fun L S => Iw S (j := 3) rfl i HW.out.2.2.2.2.2.2.2.2.1
   rw [HW.out.2.2.2.2.2.2.2.2.2.2.1] at hK hrd;rw [<- Px eK] at hK;have H16 := H15.addF (fun _ _ => hrd);have pb3 : wc.cell? ⟨g4, 3, none⟩ = some (.slice (some adK) nB dk) := (Aa (H16.blkAt (k := 7) rfl) 3).trans rfl;obtain ⟨nk, hnk⟩ : ∃ n, kids.length = n := ⟨_, rfl⟩;rw [hnk] at hK;have hnk6 : nk <= 1000 := by rw [<- hnk]; exact HW.out.2.2.2.2.2.2.2.1
   have HNK := A7.mk (⟨hnk, hnk6⟩ : _ /\ _);have HJ := A7.mk (⟨hstart, hs.out.2.1, hs.out.2.2⟩ : _ /\ _ /\ _);replace H16 := A7.mk H16;clear hnk hnk6 hstart H14 H15 eK hrd
   go_upto_block 10 with fail
   clear pb3 hK
   go_wp2_with fail
   go_loopg [20, 29, 184] (nk + 1) (fun kq v20 v29 v184 W => ∃ (j : Nat) (s2 : Os) (last : Int) (v2 : Pd) (ad2 : Int -> Nat), v184 = .int .i64 (j : Int) /\ v20 = .int .i64 s2.nx /\ v29 = .int .i64 last /\ A7 (j <= nk /\ kq = nk - j + 1) /\ A7 ((Fs sb.N i st (kids.drop j) (s2, last)).bind (fun t => G2 t.1) = some sF /\ Eh nB s2 /\ s2.nx <= 1000 + (s2.ed.length : Int)) /\ A7 (AG w Z5 (AF (Kd.int .i64) A1 cK kids :: [AF AY bn dn sb.N, AF (Kd.int .i64) bp dp sb.P, AF (Kd.int .i64) bz dz sb.Z, AF (Kd.slice 3 (Kd.int .i64)) (some adK) dk sb.K, AF AY an cn sa.N, AF (Kd.int .i64) ap cp sa.P, AF (Kd.int .i64) az cz sa.Z, AF (Kd.slice 3 (Kd.int .i64)) ak ck sa.K, AF kP P e prs, AF AY B d xb.f3, AF AY A c xa.f3]) gg bm [] (G5 w.heap.size g10 g11 gg v2 s2.ed [Df bs m2 st, Df bkm m K, Al gn 3 (iA s2.nm), Al g3 71 #[.slice an nA cn, .slice ap sa.P.length cp, .slice az sa.Z.length cz, .slice ak sa.K.length ck], Al g4 71 #[.slice bn nB dn, .slice bp sb.P.length dp, .slice bz sb.Z.length dz, .slice (some adK) nB dk], Al gb 24 #[.int .i64 xb.f0, .string xb.f1, .string xb.f2, .slice B xb.f3.length d], Al ga 24 #[.int .i64 xa.f0, .string xa.f1, .string xa.f2, .slice A xa.f3.length c]]) (1000 + s2.ed.length) ad2 s2.ks W))
   case atStart => exact ⟨0, s, -1, v, ad, rfl, rfl, rfl, ⟨Qa _, rfl⟩, HJ, H16⟩
   case round =>
    clear H16 HJ;obtain ⟨j, s2, last, v2, ad2, rfl, rfl, rfl, hj, HJ, H16⟩ := hrel;by_cases hjl : j < nk
    ·have j1 : decide ((j : Int) < (nk : Int)) = true := decide_eq_true (by omega);have j1b : decide (j < nk) = true := decide_eq_true hjl;have j1c : (j : Int) < (nk : Int) := by omega
     have j2 : (0 : Int) <= (j : Int) := by omega
     have hjk : j < kids.length := by rw [HNK.out.1]; exact hjl
     obtain ⟨adI, rfl, x0⟩ := Oh (H16.out.facts fun L S => S.rdC 0 rfl) (j : Int) j2 (by rw [HNK.out.1]; exact j1c);simp only [PO] at x0;have hkin := HW.out.2.2.2.2.2.2.1 _ (Fv hjk 0);obtain ⟨k, hk⟩ : ∃ k : Nat, kids.getD j 0 = (k : Int) := ⟨_, (Int.toNat_of_nonneg hkin.1).symm⟩;rw [hk] at x0 hkin;obtain ⟨k0, k1⟩ := hkin;have hdr : kids.drop j = (k : Int) :: kids.drop (j + 1) := by rw [LC hjk 0, hk]
     have hstp := HJ.out.1;rw [hdr, Fs, SN] at hstp;obtain ⟨adN, B3, d3, rfl, r0, r1, r2, r3, _, _⟩ := Cw (H16.out.facts fun L S => S.rdC 1 rfl) (k : Int) k0 (by rw [HN.out.2.1]; exact k1);obtain ⟨y, hy⟩ : ∃ y, Aj sb.N (k : Int) = y := ⟨_, rfl⟩;rw [hy] at r0 r1 r2 r3;have hy2 : sb.N.getD k D0 = y := by rw [<- hy]; unfold Aj; rw [PO]
     simp only [PO] at r0 r1 r2 r3;have pb0 : wr.cell? ⟨g4, 0, none⟩ = some (.slice (some adN) nB dn) := (Aa (H16.out.blkAt (k := 7) rfl) 0).trans rfl;have hkl : k < s2.nm.length := by rw [HJ.out.2.1.nm]; omega
     have hil : i < s2.nm.length := by rw [HJ.out.2.1.nm]; exact HW.out.1
     have hk64 : in64 (k : Int) := by have := HN.out.2.2.2.2; unfold in64; omega
     have hwj : Pq ((j : Int) + 1) = ((j + 1 : Nat) : Int) := by have := HNK.out.2; unfold Pq; omega
     have HK := A7.mk (⟨hjl, hstp, hy2, hkl, hil, hk64, hwj⟩ : _ /\ _ /\ _ /\ _ /\ _ /\ _ /\ _);clear hjl hjk hk hdr hstp hy hy2 hkl hil hk64 hwj
     go_upto_block 12 with ((with_reducible refine AE (N := 32) rfl ?_); refine Aw ?hg (N := 32) ?hd (cs := #[.int .i64 0, .string (⟨#[]⟩ : ByteArray), .string (⟨#[]⟩ : ByteArray), .slice none 0 0]) (t := 24) ?hr ?_; (case hd => rfl); (case hg => rfl); (case hr => first | (go_simp; done) | (go_simp; rfl)); intro g32 hg_ w20 hbox hb; have H20 := H16.out.box hg_ hbox hb; clear hbox hb hg_; obtain ⟨⟨n0, n1, n2, n3⟩, n4, n5, n6, n7⟩ := box4 (H20.blkAt (k := 0) rfl))
     have H21 := H20.set4X 0 rfl (.int .i64 y.f0) (.string y.f1) (.string y.f2) (.slice B3 y.f3.length d3);obtain ⟨w21, hw21⟩ : ∃ q, ((((w20.setCell ⟨g32, 0, none⟩ (.int .i64 y.f0)).setCell ⟨g32, 1, none⟩ (.string y.f1)).setCell ⟨g32, 2, none⟩ (.string y.f2)).setCell ⟨g32, 3, none⟩ (.slice B3 y.f3.length d3)) = q := ⟨_, rfl⟩;rw [hw21] at H21 ⊢;clear hw21 H20 n0 n1 n2 n3 n4 n5 n6 n7 x0 r0 r1 r2 r3 pb0;have n0 := (Aa (H21.blkAt (k := 6) rfl) k).trans (C9 HK.out.2.2.2.1);obtain ⟨x, hx⟩ : ∃ x, s2.nm.getD k 0 = x := ⟨_, rfl⟩;rw [hx] at n0;by_cases k2 : x < 0
     ·have d1 : decide (x < 0) = true := decide_eq_true k2;have hstp := HK.out.2.1;rw [G6 (by rw [hx]; exact k2), HK.out.2.2.1] at hstp;have hok1 : Eh nB ⟨s2.nm.set k s2.nx, s2.nx + 1, s2.ks, s2.ed⟩ := ⟨HJ.out.2.1.inv, HJ.out.2.1.len, by show (s2.nm.set k s2.nx).length = nB; rw [Q6]; exact HJ.out.2.1.nm⟩;obtain ⟨xi, hxi⟩ : ∃ q, (s2.nm.set k s2.nx).getD i 0 = q := ⟨_, rfl⟩;rw [hxi] at hstp;cases hrun : (⟨s2.nm.set k s2.nx, s2.nx + 1, s2.ks, s2.ed⟩ : Os).run ⟨1, s2.nx, xi, last, y.f0, y.f1, y.f2⟩ with
      | none => rw [hrun] at hstp; cases hstp
      | some t =>
      rw [hrun, Ra, Pj] at hstp;obtain ⟨o1, o2, o3, o4, o5, o6, o7, o8⟩ := Os.run_ok hok1 hrun;dsimp only at o2 o3 o4 o5 o6 o7 o8;have hwn : Pq (s2.nx + 1) = s2.nx + 1 := by have := HJ.out.2.2; unfold in64 at o7; unfold Pq; omega
      have hed : t.ed.length = s2.ed.length + 1 := by rw [o3]; simp
      have hnx : t.nx <= 1000 + (t.ed.length : Int) := by rw [o5, hed]; have := HJ.out.2.2; omega
      have nf := Ad (H21.blkAt (k := 6) rfl) k;have H22 : AG w Z5 (AF (Kd.int .i64) (some adI) cK kids :: [AF AY (some adN) dn sb.N, AF (Kd.int .i64) bp dp sb.P, AF (Kd.int .i64) bz dz sb.Z, AF (Kd.slice 3 (Kd.int .i64)) (some adK) dk sb.K, AF AY an cn sa.N, AF (Kd.int .i64) ap cp sa.P, AF (Kd.int .i64) az cz sa.Z, AF (Kd.slice 3 (Kd.int .i64)) ak ck sa.K, AF kP P e prs, AF AY B d xb.f3, AF AY A c xa.f3]) gg bm [] (G5 w.heap.size g10 g11 gg v2 s2.ed (Al g32 24 #[.int .i64 y.f0, .string y.f1, .string y.f2, .slice B3 y.f3.length d3] :: [Df bs m2 st, Df bkm m K, Al gn 3 (iA (s2.nm.set k s2.nx)), Al g3 71 #[.slice an nA cn, .slice ap sa.P.length cp, .slice az sa.Z.length cz, .slice ak sa.K.length ck], Al g4 71 #[.slice (some adN) nB dn, .slice bp sb.P.length dp, .slice bz sb.Z.length dz, .slice (some adK) nB dk], Al gb 24 #[.int .i64 xb.f0, .string xb.f1, .string xb.f2, .slice B xb.f3.length d], Al ga 24 #[.int .i64 xa.f0, .string xa.f1, .string xa.f2, .slice A xa.f3.length c]])) (1000 + s2.ed.length) ad2 s2.ks (w21.setCell ⟨gn, k, none⟩ (.int .i64 s2.nx)) := by
       have h := H21.setAt (k := 6) rfl k (.int .i64 s2.nx);rw [GD] at h;exact h.in4
      have HT := A7.mk (⟨hstp, o1, o4, o5, hed, hwn, hnx⟩ : _ /\ _ /\ _ /\ _ /\ _ /\ _ /\ _);have HO := A7.mk (⟨o2, o3, o6, o7, o8, hok1, hxi⟩ : _ /\ _ /\ _ /\ _ /\ _ /\ _ /\ _);replace H22 := A7.mk H22;clear hstp hrun hok1 o1 o2 o3 o4 o5 o6 o7 o8 hed hwn hnx hx hxi k2
      go_upto_region 48 with fail
      obtain ⟨w22, hw22⟩ : ∃ q, w21.setCell ⟨gn, k, none⟩ (.int .i64 s2.nx) = q := ⟨_, rfl⟩;rw [hw22] at H22 ⊢;clear hw22 H21 n0 nf;have f0 : w22.cell? ⟨gn, k, none⟩ = some (.int .i64 s2.nx) := (Aa (H22.out.blkAt (k := 6) rfl) k).trans (by rw [C9 (by rw [Q6]; exact HK.out.2.2.2.1), CK, if_pos rfl, if_pos HK.out.2.2.2.1]);have f1 : w22.cell? ⟨gn, i, none⟩ = some (.int .i64 xi) := (Aa (H22.out.blkAt (k := 6) rfl) i).trans (by rw [C9 (by rw [Q6]; exact HK.out.2.2.2.2.1), HO.out.2.2.2.2.2.2]);have f2 : w22.cell? ⟨g32, 0, none⟩ = some (.int .i64 y.f0) := (Aa (H22.out.blkAt (k := 3) rfl) 0).trans rfl;have f3 : w22.cell? ⟨g32, 1, none⟩ = some (.string y.f1) := (Aa (H22.out.blkAt (k := 3) rfl) 1).trans rfl;have f4 : w22.cell? ⟨g32, 2, none⟩ = some (.string y.f2) := (Aa (H22.out.blkAt (k := 3) rfl) 2).trans rfl;have hD := DS H22.out.drew HO.out.2.2.2.2.2.1.inv (by have := HO.out.2.2.1; simp only [maxLen]; omega) (by have := HJ.out.2.1.len; have := HO.out.2.2.1; omega) (by have := HO.out.2.2.1; omega) ⟨1, s2.nx, xi, last, y.f0, y.f1, y.f2⟩ HO.out.2.2.2.1 HO.out.2.2.2.2.1;rw [<- HO.out.1, <- HO.out.2.1] at hD;dsimp only at hD;replace hD := A7.mk hD
      go_region_held3 (fun w' => w'.cell? ⟨gn, k, none⟩ = some (.int .i64 s2.nx) /\ w'.cell? ⟨gn, i, none⟩ = some (.int .i64 xi) /\ w'.cell? ⟨g32, 0, none⟩ = some (.int .i64 y.f0) /\ w'.cell? ⟨g32, 1, none⟩ = some (.string y.f1) /\ w'.cell? ⟨g32, 2, none⟩ = some (.string y.f2)) (first | (refine ⟨?_, ?_, ?_, ?_, ?_⟩ <;> assumption) | go_keep) ((go_at_call 28; refine hD.out.mono ?_; rintro e_ w23 ⟨rfl, ad3, v3, _, H23⟩; clear f0 f1 f2 f3 f4; have f0 : w23.cell? ⟨gn, k, none⟩ = some (.int .i64 s2.nx) := (Aa (H23.blkAt (k := 6) rfl) k).trans (by rw [C9 (by rw [Q6]; exact HK.out.2.2.2.1), CK, if_pos rfl, if_pos HK.out.2.2.2.1]); have f1 : w23.cell? ⟨gn, i, none⟩ = some (.int .i64 xi) := (Aa (H23.blkAt (k := 6) rfl) i).trans (by rw [C9 (by rw [Q6]; exact HK.out.2.2.2.2.1), HO.out.2.2.2.2.2.2]); have f2 : w23.cell? ⟨g32, 0, none⟩ = some (.int .i64 y.f0) := (Aa (H23.blkAt (k := 3) rfl) 0).trans rfl; have f3 : w23.cell? ⟨g32, 1, none⟩ = some (.string y.f1) := (Aa (H23.blkAt (k := 3) rfl) 1).trans rfl; have f4 : w23.cell? ⟨g32, 2, none⟩ = some (.string y.f2) := (Aa (H23.blkAt (k := 3) rfl) 2).trans rfl; have H24 := A7.mk (H23.out4.drop); clear H23))
      all_goals (
       go_wp2
       go_roundg (nk - j)
       case rel => exact ⟨j + 1, t, s2.nx, v3, ad3, by rw [HK.out.2.2.2.2.2.2], by rw [HT.out.2.2.2.1, HT.out.2.2.2.2.2.1], rfl, ⟨by have := HK.out.1; omega, by have := HK.out.1; omega⟩, ⟨HT.out.1, HT.out.2.1, HT.out.2.2.2.2.2.2⟩, ⟨by rw [HT.out.2.2.2.2.1, HT.out.2.2.1]; exact H24.out⟩⟩
       case measure => have := hj.out; have := HK.out.1; omega)
     ·have d1 : decide (x < 0) = BK := decide_eq_false k2;have l49 := H21.setGet (k := 4) rfl HK.out.2.2.2.2.2.1;obtain ⟨xi, hxi⟩ : ∃ q, s2.nm.getD i 0 = q := ⟨_, rfl⟩;have n1 : w21.cell? ⟨gn, i, none⟩ = some (.int .i64 xi) := (Aa (H21.blkAt (k := 6) rfl) i).trans (by rw [C9 HK.out.2.2.2.2.1, hxi]);have hstp := HK.out.2.1;by_cases k3 : st (k : Int) = true
      ·rw [Fw (by rw [hx]; exact k2) k3, Pj, hx] at hstp;rw [k3] at l49;have HT := A7.mk hstp;replace H21 := A7.mk H21.drop;clear hstp k2 k3 hx hxi;go_wp2
       go_roundg (nk - j)
       case rel => exact ⟨j + 1, s2, x, v2, ad2, by rw [HK.out.2.2.2.2.2.2], rfl, rfl, ⟨by have := HK.out.1; omega, by have := HK.out.1; omega⟩, ⟨HT.out, HJ.out.2.1, HJ.out.2.2⟩, H21⟩
       case measure => have := hj.out; have := HK.out.1; omega
      ·have k4 : st (k : Int) = BK := Bool.eq_false_iff.2 k3;rw [Ix (by rw [hx]; exact k2) k4, hx, hxi] at hstp;rw [k4] at l49;cases hrun : s2.run ⟨4, x, xi, last, 0, ⟨#[]⟩, ⟨#[]⟩⟩ with
       | none => rw [hrun] at hstp; cases hstp
       | some t =>
       rw [hrun, Ra, Pj] at hstp;obtain ⟨o1, o2, o3, o4, o5, o6, o7, o8⟩ := Os.run_ok HJ.out.2.1 hrun;dsimp only at o2 o3 o4 o5 o6 o7 o8;have hed : t.ed.length = s2.ed.length + 1 := by rw [o3]; simp
       have hnx : t.nx <= 1000 + (t.ed.length : Int) := by rw [o5, hed]; have := HJ.out.2.2; omega
       have H22 : AG w Z5 (AF (Kd.int .i64) (some adI) cK kids :: [AF AY (some adN) dn sb.N, AF (Kd.int .i64) bp dp sb.P, AF (Kd.int .i64) bz dz sb.Z, AF (Kd.slice 3 (Kd.int .i64)) (some adK) dk sb.K, AF AY an cn sa.N, AF (Kd.int .i64) ap cp sa.P, AF (Kd.int .i64) az cz sa.Z, AF (Kd.slice 3 (Kd.int .i64)) ak ck sa.K, AF kP P e prs, AF AY B d xb.f3, AF AY A c xa.f3]) gg bm [] (G5 w.heap.size g10 g11 gg v2 s2.ed (Al g32 24 #[.int .i64 y.f0, .string y.f1, .string y.f2, .slice B3 y.f3.length d3] :: [Df bs m2 st, Df bkm m K, Al gn 3 (iA s2.nm), Al g3 71 #[.slice an nA cn, .slice ap sa.P.length cp, .slice az sa.Z.length cz, .slice ak sa.K.length ck], Al g4 71 #[.slice (some adN) nB dn, .slice bp sb.P.length dp, .slice bz sb.Z.length dz, .slice (some adK) nB dk], Al gb 24 #[.int .i64 xb.f0, .string xb.f1, .string xb.f2, .slice B xb.f3.length d], Al ga 24 #[.int .i64 xa.f0, .string xa.f1, .string xa.f2, .slice A xa.f3.length c]])) (1000 + s2.ed.length) ad2 s2.ks w21 := H21.in4;have HT := A7.mk (⟨hstp, o1, o4, o5, hed, hnx⟩ : _ /\ _ /\ _ /\ _ /\ _ /\ _);have hD := DS H22.drew HJ.out.2.1.inv (by simp only [maxLen]; omega) (by have := HJ.out.2.1.len; omega) (by omega) ⟨4, x, xi, last, 0, ⟨#[]⟩, ⟨#[]⟩⟩ o7 o8;rw [<- o2, <- o3] at hD;dsimp only at hD;replace hD := A7.mk hD;have HO := A7.mk (⟨hx, hxi⟩ : _ /\ _);clear hstp hrun o1 o2 o3 o4 o5 o6 o7 o8 hed hnx k2 k3 k4 hx hxi H21 H22
       go_upto_region 50 with fail
       clear l49
       go_region_held3 (fun w' => w'.cell? ⟨gn, k, none⟩ = some (.int .i64 x) /\ w'.cell? ⟨gn, i, none⟩ = some (.int .i64 xi)) (first | (refine ⟨?_, ?_⟩ <;> assumption) | go_keep) ((go_at_call 28; refine hD.out.mono ?_; rintro e_ w23 ⟨rfl, ad3, v3, _, H23⟩; clear n0 n1; have n0 : w23.cell? ⟨gn, k, none⟩ = some (.int .i64 x) := (Aa (H23.blkAt (k := 6) rfl) k).trans (by rw [C9 HK.out.2.2.2.1, HO.out.1]); have n1 : w23.cell? ⟨gn, i, none⟩ = some (.int .i64 xi) := (Aa (H23.blkAt (k := 6) rfl) i).trans (by rw [C9 HK.out.2.2.2.2.1, HO.out.2]); have H24 := A7.mk (H23.out4.drop); clear H23))
       all_goals (
        go_wp2
        go_roundg (nk - j)
        case rel => exact ⟨j + 1, t, x, v3, ad3, by rw [HK.out.2.2.2.2.2.2], by rw [HT.out.2.2.2.1], rfl, ⟨by have := HK.out.1; omega, by have := HK.out.1; omega⟩, ⟨HT.out.1, HT.out.2.1, HT.out.2.2.2.2.2⟩, ⟨by rw [HT.out.2.2.2.2.1, HT.out.2.2.1]; exact H24.out⟩⟩
        case measure => have := hj.out; have := HK.out.1; omega)
    ·have j1 : decide ((j : Int) < (nk : Int)) = BK := decide_eq_false (by omega);have j1b : decide (j < nk) = BK := decide_eq_false hjl;have j1c : ¬ (j : Int) < (nk : Int) := by omega
     have hst := HJ.out.1;rw [List.drop_of_length_le (by rw [HNK.out.1]; omega), Fs, Pj] at hst;have HJ2 := A7.mk (⟨hst, HJ.out.2.1, HJ.out.2.2⟩ : _ /\ _ /\ _);have H17 := A7.mk ((H16.out.lessF (F' := [AF AY bn dn sb.N, AF (Kd.int .i64) bp dp sb.P, AF (Kd.int .i64) bz dz sb.Z, AF (Kd.slice 3 (Kd.int .i64)) (some adK) dk sb.K, AF AY an cn sa.N, AF (Kd.int .i64) ap cp sa.P, AF (Kd.int .i64) az cz sa.Z, AF (Kd.slice 3 (Kd.int .i64)) ak ck sa.K, AF kP P e prs, AF AY B d xb.f3, AF AY A c xa.f3]) (fun a ha => R9 _ ha)).out4.drop);clear hst hjl H16 HJ
     go_wp2_with fail
     go_meet;exact ⟨s2, v2, ad2, rfl, HJ2, H17⟩
  ·have i1 : decide ((i : Int) < (nB : Int)) = BK := decide_eq_false (by omega);have i1b : decide (i < nB) = BK := decide_eq_false hlt;have i1c : ¬ (i : Int) < (nB : Int) := by omega
   have e : i = nB := by have := hi.out.1; omega
   have hst := hs.out.1;rw [e, Nat.sub_self, KH, Pj] at hst;have HZ := A7.mk (⟨hst, hs.out.2.1⟩ : _ /\ _);clear hst e hlt
   go_wp2_with fail
   go_meet;exact ⟨s, v, ad, HZ, H4⟩
end Go.Proofs.Q
