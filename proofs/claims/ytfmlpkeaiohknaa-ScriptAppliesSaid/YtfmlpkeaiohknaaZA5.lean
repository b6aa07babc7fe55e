/- The texts of this claim that lie below its row, in their order: MOut MCopy MOf MLay MFew GRow Gv MShelf Gc Gd Go Gb Gi Gj Gp Gq Gr Gs. -/
import Derived.Lib.SmallJoins
import Derived.Lib.LaidTab
import Derived.Maps.OwnSet
import Derived.Maps.Views
import Derived.Maps.Keyed
import Derived.Shelf.SlGeneric
import Derived.Ground.SlgfProg
import Derived.Shelf.SlicesE.DeleteFunc
import Derived.Test.YtfmlpkeaiohknaaProg
import Derived.LaidEqlPtr
import Derived.Shelf.Spec.SlicesInsertGrow
import Derived.Test.YtfmlpkeaiohknaaZA4
set_option linter.unusedVariables false
set_option linter.unusedSimpArgs false
set_option maxHeartbeats 8000000
set_option maxRecDepth 100000
open Array renaming getElem?_modify -> SC, getElem?_eq_getElem -> Sv, getElem?_eq_some_iff -> R3
open Bool renaming false -> BK, false_eq_true -> R5
open Go renaming World -> Pe, Value -> Pd, Calls -> PJ, TypeId -> Q9, MemPlace -> SG, maxLen -> R7, heap_alloc_new -> Pv, yielded -> QP, setRow_other -> RB, setRow_output -> Sl, heap_alloc_old -> SH
open Go.Act renaming put -> Ph, eval -> Q1
open Go.Builtin renaming copy_ -> RR, zeroCells -> R8
open Go.DataW renaming trod_string -> Sp
open Go.Instr renaming lookup -> SM
open Go.IntKind renaming i64 -> Po, wrap_i64 -> RA
open Go.Oper renaming wp -> QE
open Go.Region renaming wanted -> PR
open Go.RowKit renaming wrap64 -> Pq
open Go.RowKit.Below renaming refl -> Pn
open Go.Value renaming int -> PE, pointer -> Pw
open Go.World renaming block_lt_of_cell? -> Pb
open Iff renaming rfl -> RY
open List renaming getElem?_eq_some_iff -> Pf, getElem?_eq_getElem -> Pg, length_take -> Pp, length_drop -> PG, map_toArray -> PN, map_cons -> Py, map_nil -> PZ, take_of_length_le -> Ql, getD_eq_getElem?_getD -> Pt, mem_cons -> Qg, take_take -> RQ, length_append -> PK, length_cons -> PX, length_nil -> Qu, length_set -> Q6, getElem?_append_left -> PQ, getElem?_set_ne -> Q4, nil_append -> Pu, getElem?_set_self -> Q0, append_assoc -> PP, take_append -> RH, take_append_of_le_length -> Ru, mem_cons_self -> QY, mem_cons_of_mem -> R9, mem_singleton -> PC, getElem?_of_mem -> SJ, setIfInBounds_toArray -> GW, set_cons_zero -> Pa, set_cons_succ -> NB, length_eq_zero_iff -> Sy, getElem?_map -> PU, getElem?_take -> PW, length_map -> PM, replicate -> Pz, take_left' -> Rn, map_map -> RL, set_append_right -> QN, set_append_left -> Sf, mem_map -> PF, map_append -> Qs, length_singleton -> QV, getElem?_drop -> Qk, map_drop -> RZ, map_take -> Sa
open Nat renaming mul_one -> RG, strongRecOn -> SV, ne_of_lt -> Re, ne_of_gt -> Rb, le_refl -> Ps, min_eq_left -> Rm, zero_add -> R1, zero_le -> Qa, add_sub_cancel_left -> Q2
open Ne renaming symm -> Ry
open Option renaming bind_some -> Pj, bind_eq_some_iff -> Q3, map_eq_some_iff -> Qb
open Option.some renaming injEq -> QA
open Or renaming inl -> PD
open Prod.mk renaming injEq -> QQ
namespace Go.Proofs.Q
open Go.RowKit Go.Proofs.V.Words Go.Proofs.V.Last Go.Proofs.V.More Go.Proofs.V.SL
section
variable {w0 w w' W : Pe} {Z Φ : Nat -> Prop} {g : Nat} {v : PV} {s : PS} {X : List Bj}
theorem IX {l : List Bj} {i : Nat} {us : List Pd} {ks : List (List Int)} (h : St w0 Z l w) (hi : l[i]? = some (Ei (Eg us ks))) (hu : us.length = ks.length) {ok : Nat -> Prop}
  (hok : ∀ (j : Nat) (u : Pd), us[j]? = some u -> ∀ k, u.ownBlock = some k -> ok k) : ∃ f, Cj ((Kd.tag f (Kd.slice 3 (Kd.int .i64))).M w w0.heap.size ok) 1 ks.zipIdx us := by
 refine Kd.reps_tag (d := Kd.slice 3 (Kd.int .i64)) (fun j k => ∃ u, us[j]? = some u /\ u.ownBlock = some k) ?_ (fun j k ⟨u, hj, hk⟩ => hok j u hj k hk) (by rw [hu]; exact (RG _).symm) ?_
 ·rintro a b k ⟨u, ha, hka⟩ ⟨u', hb, hkb⟩;apply Classical.byContradiction;intro hne;have hla : a < ks.length := by rw [<- hu]; exact (Pf.1 ha).1
  have hlb : b < ks.length := by rw [<- hu]; exact (Pf.1 hb).1
  exact h.sub_apart hi (En ha (Pg hla)) (En hb (Pg hlb)) hne k hka hkb.symm
 ·intro j x hx;have hl : j < us.length := by rw [hu]; exact (Pf.1 hx).1
  have hju := Pg hl;have h1 := (h.sub_out hi (En hju hx)).1;have h2 : ((us.drop (j * (Kd.slice 3 (Kd.int .i64)).sz)).take (Kd.slice 3 (Kd.int .i64)).sz) = [us[j]] := by
   show (us.drop (j * 1)).take 1 = [us[j]]
   rw [RG, List.drop_eq_getElem_cons hl]; rfl
  rw [h2];exact ⟨us[j], rfl, Kd.R_of_own (enc := PE .i64) h1 (fun k hk => ⟨us[j], hju, hk⟩)⟩
theorem Pl.out (h : Pl w0 Z Φ g v s X w) (hΦ : ∀ k, Φ k -> Z k /\ w0.heap.size <= k) :
    Kd.N AY 24 w w0.heap.size (fun k_ => (w0.heap.size <= k_) /\ some k_ ≠ v.p.ownBlock /\ some k_ ≠ v.z.ownBlock /\ some k_ ≠ v.k.ownBlock) v.n s.N /\
    Kd.R (Kd.int .i64) 3 w w0.heap.size (fun k_ => (w0.heap.size <= k_) /\ some k_ ≠ v.z.ownBlock) v.p s.P /\
    Kd.R (Kd.int .i64) 3 w w0.heap.size (fun k_ => (w0.heap.size <= k_) /\ some k_ ≠ v.p.ownBlock) v.z s.Z /\
    Kd.S (Kd.slice 3 (Kd.int .i64)) 36 w w0.heap.size (fun k_ => (w0.heap.size <= k_) /\ some k_ ≠ v.p.ownBlock /\ some k_ ≠ v.z.ownBlock) v.k s.K := by
  have hn : (Eo g v s ++ X)[1]? = some (Bw v.n 24 4 s.N.length v.cn) := rfl;have hp : (Eo g v s ++ X)[2]? = some (Bw v.p 3 1 s.N.length (BB s.P)) := rfl;have hz : (Eo g v s ++ X)[3]? = some (Bw v.z 3 1 s.N.length (BB s.Z)) := rfl;have hk : (Eo g v s ++ X)[4]? = some (Bw v.k 36 1 s.N.length v.us) := rfl;have hg : (Eo g v s ++ X)[5]? = some (Ei (Eg v.us s.K)) := rfl;have on := h.st.row_out hn; have op := h.st.row_out hp; have oz := h.st.row_out hz; have ok_ := h.st.row_out hk;have lp := h.p; have lz := h.z; have lk := h.k; have lu := h.u; have lc := h.c;have hZ : ∀ (u : Pd), (∀ k, u.ownBlock = some k -> w0.heap.size <= k /\ ¬ Z k) -> ∀ k, Φ k -> some k ≠ u.ownBlock := fun u hu k hk he => (hu k he.symm).2 (hΦ k hk).1
  refine ⟨⟨fun k hk_ => ⟨(on.2 k hk_).1, h.st.row_apart hn hp (by decide) k hk_, h.st.row_apart hn hz (by decide) k hk_, h.st.row_apart hn hk (by decide) k hk_⟩, Kd.chunks 4 s.N.length v.cn, Kd.chunks_length _ _ _, ?_, ?_⟩, ?_, ?_, ?_⟩
  · refine ⟨fun k hk => hk.symm, v.cn, by rw [Kd.chunks_length]; exact on.1, by rw [Kd.chunks_length]; exact lc, fun j p hj => ?_⟩;have hjl : j < s.N.length := by have := (Pf.1 hj).1; rwa [Kd.chunks_length] at this
    have hp_ := Kd.chunks_get hj;subst hp_;refine ⟨rfl, ?_, fun u hu => h.one u (List.mem_of_mem_drop (List.mem_of_mem_take hu))⟩
    show ((v.cn.drop (j * 4)).take 4).length = 4
    rw [Pp, PG]; omega
  · intro j x c hx hc;have hc2 := Kd.chunks_get hc;subst hc2;exact Kd.FK_mono (h.nodes j x hx) (fun k hk => ⟨⟨(hΦ k hk).2, hZ _ op.2 k hk, hZ _ oz.2 k hk, hZ _ ok_.2 k hk⟩, hZ _ on.2 k hk⟩)
  · exact Kd.R_of_own (enc := PE .i64) (by rw [lp]; exact op.1) (fun k hk => ⟨(op.2 k hk).1, h.st.row_apart hp hz (by decide) k hk⟩)
  · exact Kd.R_of_own (enc := PE .i64) (by rw [lz]; exact oz.1) (fun k hk => ⟨(oz.2 k hk).1, h.st.row_apart hz hp (by decide) k hk⟩)
  · obtain ⟨f, hr⟩ := IX (ok := fun k => ((w0.heap.size <= k) /\ some k ≠ v.p.ownBlock /\ some k ≠ v.z.ownBlock) /\ some k ≠ v.k.ownBlock) h.st hg (lu.trans lk.symm) (fun j u hj k hk2 => by
      have hl : j < s.K.length := by rw [lk, <- lu]; exact (Pf.1 hj).1
      have hi := En hj (Pg hl);exact ⟨⟨((h.st.sub_out hg hi).2 k hk2).1, h.st.row_sub_apart hp hg hi (by decide) k hk2, h.st.row_sub_apart hz hg hi (by decide) k hk2⟩, h.st.row_sub_apart hk hg hi (by decide) k hk2⟩)
    exact ⟨f, fun k hk2 => ⟨(ok_.2 k hk2).1, h.st.row_apart hk hp (by decide) k hk2, h.st.row_apart hk hz (by decide) k hk2⟩, v.us, by rw [List.length_zipIdx, lk]; exact ok_.1, hr⟩
end
end Go.Proofs.Q
namespace Go.Proofs.Q
open Go.RowKit Go.Proofs.V.Words Go.Proofs.V.Last Go.Proofs.V.More
attribute [local go_sem] BI BJ BY BZ Bu Bv BL BM
mutual
def Bb.l0 : Nat -> List (B8) -> List (B8) -> Int -> Int -> Int -> ByteArray -> ByteArray -> List (B8) -> Option (Int × ByteArray × ByteArray × (List (B8)))
 | 0, _, _, _, _, _, _, _, _ => none
 | k + 1, x3, x11, x12, x13, x127000, x127001, x127002, x127003 => if x13 < x12 then (if 0 <= x13 then (if x13 < (x11.length : Int) then ((Bb.f k ((Aj x11 x13).f0) ((Aj x11 x13).f1) ((Aj x11 x13).f2) ((Aj x11 x13).f3)).bind fun bt133 => (if x3.length < 2199023255552 then (Bb.l0 k (x3 ++ [(⟨bt133.1, bt133.2.1, bt133.2.2.1, bt133.2.2.2⟩ : B8)]) x11 x12 (Pq (x13 + 1)) x127000 x127001 x127002 x127003) else (none))) else (none)) else (none)) else (some (x127000, x127001, x127002, x3))
def Bb.f : Nat -> Int -> ByteArray -> ByteArray -> List (B8) -> Option (Int × ByteArray × ByteArray × (List (B8)))
 | 0, _, _, _, _ => none
 | k + 1, a0_0, a0_1, a0_2, l0_3 => if 0 <= (l0_3.length : Int) then (if ((l0_3.length : Int) : Int).toNat <= 4398046511104 then (Bb.l0 k (([] : List (B8))) l0_3 (l0_3.length : Int) 0 a0_0 a0_1 a0_2 l0_3) else (none)) else (none)
end
theorem Bb.mono_l : ∀ k, (∀ y0 y1 y2 y3, DB (Bb.f k y0 y1 y2 y3) (Bb.f (k + 1) y0 y1 y2 y3)) /\ (∀ y0 y1 y2 y3 y4 y5 y6 y7, DB (Bb.l0 k y0 y1 y2 y3 y4 y5 y6 y7) (Bb.l0 (k + 1) y0 y1 y2 y3 y4 y5 y6 y7))
 | 0 => ⟨fun _ _ _ _ r h => by simp [Bb.f] at h, fun _ _ _ _ _ _ _ _ r h => by simp [Bb.l0] at h⟩
 | k + 1 => by
  obtain ⟨ih0, ih1⟩ := Bb.mono_l k;refine ⟨?_, ?_⟩
  ·intro y0 y1 y2 y3;unfold Bb.f
   repeat' first
   | (with_reducible exact ih0 _ _ _ _)
   | (with_reducible exact ih1 _ _ _ _ _ _ _ _)
   | (with_reducible exact DB.refl _)
   | (with_reducible exact DB.none _)
   | (with_reducible refine DB.ite ?_ ?_)
   | (with_reducible refine DB.bind ?_ (fun _ => ?_))
   | exact ih0 _ _ _ _
   | exact ih1 _ _ _ _ _ _ _ _
   | exact DB.none _
   | refine DB.ite ?_ ?_
   | refine DB.bind ?_ (fun _ => ?_)
  ·intro y0 y1 y2 y3 y4 y5 y6 y7;unfold Bb.l0
   repeat' first
   | (with_reducible exact ih0 _ _ _ _)
   | (with_reducible exact ih1 _ _ _ _ _ _ _ _)
   | (with_reducible exact DB.refl _)
   | (with_reducible exact DB.none _)
   | (with_reducible refine DB.ite ?_ ?_)
   | (with_reducible refine DB.bind ?_ (fun _ => ?_))
   | exact ih0 _ _ _ _
   | exact ih1 _ _ _ _ _ _ _ _
   | exact DB.none _
   | refine DB.ite ?_ ?_
   | refine DB.bind ?_ (fun _ => ?_)
theorem Bb.mono : ∀ a0 a1 a2 a3 k, DB (Bb.f k a0 a1 a2 a3) (Bb.f (k + 1) a0 a1 a2 a3) := by
 intro a0 a1 a2 a3 k;obtain ⟨ih0, ih1⟩ := Bb.mono_l k;exact ih0 a0 a1 a2 a3
theorem Bb.calls (k : Nat) : ∀ (a0_0 : Int) (a0_1 : ByteArray) (a0_2 : ByteArray) (A0_3 : Option Addr) (c0_3 : Nat) (l0_3 : List (B8)) (r1 : Int) (r2 : ByteArray) (r3 : ByteArray) (r4 : List (B8)) (w : Pe) (hr0_3 : Kd.C AY w A0_3 l0_3.length l0_3) (hc0_3 : l0_3.length <= c0_3) (h : Bb.f k a0_0 a0_1 a0_2 l0_3 = some (r1, r2, r3, r4)),
  PJ Try.prog 41 #[.agg #[.int .i64 a0_0, .string a0_1, .string a0_2, .slice A0_3 l0_3.length c0_3]] w fun e w' => ∃ v3_ : Pd, e = .returned (.agg #[.int .i64 r1, .string r2, .string r3, v3_]) /\ Kd.R AY 24 w' w.heap.size (fun _ => True) v3_ r4 /\ Below w.heap.size w w' := by
 induction k using SV with
 | _ k ih =>
 intro a0_0 a0_1 a0_2 A0_3 c0_3 l0_3 r1 r2 r3 r4 w hr0_3 hc0_3 h;cases k with
 | zero => exact absurd h (by simp [Bb.f])
 | succ k =>
 simp only [Bb.f] at h;have HR0_3 := A7.mk hr0_3;have HC0_3 := A7.mk hc0_3;clear hr0_3 hc0_3;have HB := A7.mk (Pn w.heap.size w);have H : (if 0 <= (l0_3.length : Int) then (if ((l0_3.length : Int) : Int).toNat <= 4398046511104 then (Bb.l0 k (([] : List (B8))) l0_3 (l0_3.length : Int) 0 a0_0 a0_1 a0_2 l0_3) else (none)) else (none)) = some (r1, r2, r3, r4) := h;clear h;by_cases c2 : 0 <= (l0_3.length : Int)
 ·rw [if_pos c2] at H;have c2b0 := eq_true c2;have c2b1 : decide (0 <= (l0_3.length : Int)) = true := decide_eq_true c2;clear c2;by_cases c3 : ((l0_3.length : Int) : Int).toNat <= 4398046511104
  ·rw [if_pos c3] at H;have c3b0 := eq_true c3;have c3b1 : decide (((l0_3.length : Int) : Int).toNat <= 4398046511104) = true := decide_eq_true c3;clear c3;obtain ⟨y128, hy128⟩ : ∃ y_ : List (B8), y_ = (([] : List (B8))) := ⟨_, rfl⟩;replace H : (Bb.l0 k y128 l0_3 (l0_3.length : Int) 0 a0_0 a0_1 a0_2 l0_3) = some (r1, r2, r3, r4) := by first | (rw [hy128]; with_reducible exact H) | (have H2_ := (Pj _ _).symm.trans H; rw [hy128]; with_reducible exact H2_) | (have H2_ := (Pj _ _).symm.trans H; with_reducible exact H2_) | with_reducible exact H | (rw [hy128]; exact H) | exact H
   have Ny128 := A7.mk hy128;have H' := A7.mk H;go_enter Try.func41, Try.ntmps41
   go_wp2_with (first | ((with_reducible refine AE (N := 1) rfl ?_); refine Aw ?hg (N := 1) ?hd (cs := #[.int .i64 a0_0, .string a0_1, .string a0_2, .slice A0_3 l0_3.length c0_3]) (t := 24) ?hr ?_; (case hd => rfl); (case hg => rfl); (case hr => go_simp); intro gb126 hg w4 hbox hb; have n0_ := A7.mk (AT Go.Z.h0 hb); have n1_ := A7.mk (hbox); have n2_ := A7.mk ((by rw [hg]; exact (Aq Go.Z.h0) : w.heap.size <= gb126)); have n3_ := A7.mk ((by rw [hg]; exact (Aq Go.Z.h0) : w.heap.size <= gb126)); clear HB; have HB := n0_; have BK126 := n1_; have GW126 := n2_; have GE126 := n3_; clear n0_ n1_ n2_ n3_; clear hb hbox hg) | ((with_reducible refine AE (N := 2) rfl ?_); refine Aw ?hg (N := 2) ?hd (cs := #[.int .i64 0, .string (⟨#[]⟩ : ByteArray), .string (⟨#[]⟩ : ByteArray), .slice none 0 0]) (t := 24) ?hr ?_; (case hd => rfl); (case hg => rfl); (case hr => go_simp); intro gb127 hg w5 hbox hb; have n0_ := A7.mk (Bf (g := gb126) (o := .cells #[.int .i64 a0_0, .string a0_1, .string a0_2, .slice A0_3 l0_3.length c0_3] 24 (0, 0)) (Go.Z.k BK126.out) hb); have n1_ := A7.mk (AT (Go.Z.h1 GE126.out) hb); have n2_ := A7.mk (hbox); have n3_ := A7.mk ((by rw [hg]; exact (Aq (Go.Z.h1 GE126.out)) : w.heap.size <= gb127)); have n4_ := A7.mk ((by rw [hg]; exact (Aq (Go.Z.h1 GE126.out)) : w.heap.size <= gb127)); have n5_ := A7.mk ((by rw [hg]; exact Re (BG (g := gb126) (o := .cells #[.int .i64 a0_0, .string a0_1, .string a0_2, .slice A0_3 l0_3.length c0_3] 24 (0, 0)) (Go.Z.k BK126.out)) : gb126 ≠ gb127)); have n6_ := A7.mk ((by rw [hg]; exact Rb (BG (g := gb126) (o := .cells #[.int .i64 a0_0, .string a0_1, .string a0_2, .slice A0_3 l0_3.length c0_3] 24 (0, 0)) (Go.Z.k BK126.out)) : gb127 ≠ gb126)); clear BK126; clear HB; have BK126 := n0_; have HB := n1_; have BK127 := n2_; have GW127 := n3_; have GE127 := n4_; have NB126_127 := n5_; have NB127_126 := n6_; clear n0_ n1_ n2_ n3_ n4_ n5_ n6_; clear hb hbox hg; have hnb6 := NB126_127.out; have hnc6 := NB127_126.out; have hcz7_0 : w5.cell? ⟨gb126, 0, none⟩ = some (.int .i64 a0_0) := (Aa BK126.out 0).trans rfl; have hcz7_1 : w5.cell? ⟨gb126, 1, none⟩ = some (.string a0_1) := (Aa BK126.out 1).trans rfl; have hcz7_2 : w5.cell? ⟨gb126, 2, none⟩ = some (.string a0_2) := (Aa BK126.out 2).trans rfl; have hcz7_3 : w5.cell? ⟨gb126, 3, none⟩ = some (.slice A0_3 l0_3.length c0_3) := (Aa BK126.out 3).trans rfl; have hfz7_0 := Ad BK126.out 0; have hfz7_1 := Ad BK126.out 1; have hfz7_2 := Ad BK126.out 2; have hfz7_3 := Ad BK126.out 3) | ((with_reducible refine AE (N := 9) rfl ?_); refine Kd.R_make0 AY _ 24 rfl (N := 9) rfl 22 _ _ rfl (l0_3.length : Int) rfl rfl Try.underlying22 (.agg #[(.int .i64 0), (.string ⟨#[]⟩), (.string ⟨#[]⟩), (.slice none 0 0)]) 64 El rfl (by decide) (by omega) D0 (ok := fun _ => True) (okp := fun _ => True) (E0 _ _ _ D0 (Kd.R_nil _ _ _ _ _)) (fun _ hk => hk) trivial (of_decide_eq_true (by first | (with_reducible assumption) | assumption)) (Nat.le_trans (Nat.mul_le_mul_right _ (of_decide_eq_true (by first | (with_reducible assumption) | assumption) : (l0_3.length : Int).toNat <= 4398046511104)) (by omega)) (Pn _ _) (Ps _) ?_; intro v129 w8 ho9 hb hg_ hnew_; clear hg_ hnew_; (first | rw [<- Ny128.out] at ho9 | (simp only [Int.reduceToNat] at ho9; rw [<- Ny128.out] at ho9)); have n0_ := A7.mk (Kd.R_lower (Kd.R_newB (Kd.R_newB ho9 (g := gb126) (o := .cells #[.int .i64 a0_0, .string a0_1, .string a0_2, .slice A0_3 l0_3.length c0_3] 24 (0, 0)) (Go.Z.k BK126.out)) (g := gb127) (o := .cells #[.int .i64 0, .string (⟨#[]⟩ : ByteArray), .string (⟨#[]⟩ : ByteArray), .slice none 0 0] 24 (0, 0)) (Go.Z.k BK127.out)) (Aq (Go.Z.h2 GE126.out GE127.out))); have n1_ := A7.mk (Bf (g := gb126) (o := .cells #[.int .i64 a0_0, .string a0_1, .string a0_2, .slice A0_3 l0_3.length c0_3] 24 (0, 0)) (Go.Z.k BK126.out) hb); have n2_ := A7.mk (Bf (g := gb127) (o := .cells #[.int .i64 0, .string (⟨#[]⟩ : ByteArray), .string (⟨#[]⟩ : ByteArray), .slice none 0 0] 24 (0, 0)) (Go.Z.k BK127.out) hb); have n3_ := A7.mk (AT (Go.Z.h2 GE126.out GE127.out) hb); clear BK126; clear BK127; clear HB; have HO130 := n0_; have BK126 := n1_; have BK127 := n2_; have HB := n3_; clear n0_ n1_ n2_ n3_; clear hb ho9; have hcz10_0 : w8.cell? ⟨gb126, 0, none⟩ = some (.int .i64 a0_0) := (Aa BK126.out 0).trans rfl; have hcz10_1 : w8.cell? ⟨gb126, 1, none⟩ = some (.string a0_1) := (Aa BK126.out 1).trans rfl; have hcz10_2 : w8.cell? ⟨gb126, 2, none⟩ = some (.string a0_2) := (Aa BK126.out 2).trans rfl; have hcz10_3 : w8.cell? ⟨gb126, 3, none⟩ = some (.slice A0_3 l0_3.length c0_3) := (Aa BK126.out 3).trans rfl; have hfz10_0 := Ad BK126.out 0; have hfz10_1 := Ad BK126.out 1; have hfz10_2 := Ad BK126.out 2; have hfz10_3 := Ad BK126.out 3))
   go_loopg [3, 13] k (fun kq v3 v13 w' => ∃ (x3_1 : List (B8)) (x13_1 : Int), v13 = .int .i64 x13_1 /\ A7 (Bb.l0 kq x3_1 l0_3 (l0_3.length : Int) x13_1 a0_0 a0_1 a0_2 l0_3 = some (r1, r2, r3, r4)) /\ A7 (kq <= k) /\ A7 (Kd.R AY 24 w' w.heap.size (fun k_ => k_ ≠ gb126 /\ k_ ≠ gb127) v3 x3_1) /\ A7 (w'.heap[gb126]? = some (.cells #[.int .i64 a0_0, .string a0_1, .string a0_2, (.slice A0_3 l0_3.length c0_3)] 24 (0, 0))) /\ A7 (w'.heap[gb127]? = some (.cells #[.int .i64 0, .string (⟨#[]⟩ : ByteArray), .string (⟨#[]⟩ : ByteArray), (.slice none 0 0)] 24 (0, 0))) /\ A7 (Below w.heap.size w w'))
   case atStart => exact ⟨(y128), (0), rfl, H', ⟨Ps _⟩, ⟨by (with_reducible repeat (first | apply Kd.R_alloc | apply Kd.R_drewN | apply Kd.R_drew)); exact Kd.R_mono HO130.out (fun _ hk => ⟨hk.1.2, hk.2⟩)⟩, ⟨Go.Z.k BK126.out⟩, ⟨Go.Z.k BK127.out⟩, ⟨Go.Z.h2 GE126.out GE127.out⟩⟩
   case round =>
    obtain ⟨x3_1, x13_1, rfl, HA, HK1, HO_3, BK126, BK127, HB⟩ := hrel;cases gk with
    | zero => exact absurd HA.out (by simp [Bb.l0])
    | succ k1 =>
     have H := HA.out;simp only [Bb.l0] at H;by_cases c11 : x13_1 < (l0_3.length : Int)
     ·rw [if_pos c11] at H;have c11b0 : decide (x13_1 < (l0_3.length : Int)) = true := decide_eq_true c11;by_cases c12 : 0 <= x13_1
      ·rw [if_pos c12] at H;have c12b0 : decide (0 <= x13_1) = true := decide_eq_true c12;by_cases c13 : x13_1 < (l0_3.length : Int)
       ·rw [if_pos c13] at H;replace H := Q3.mp H;obtain ⟨⟨t133, t134, t135, t136⟩, A140, H⟩ := H;have A14 := A7.mk A140;by_cases c15 : x3_1.length < 2199023255552
        ·rw [if_pos c15] at H;have LMc15 := A7.mk c15;obtain ⟨y139, hy139⟩ : ∃ y_ : List (B8), y_ = (x3_1 ++ [(⟨t133, t134, t135, t136⟩ : B8)]) := ⟨_, rfl⟩;replace H : (Bb.l0 k1 y139 l0_3 (l0_3.length : Int) (Pq (x13_1 + 1)) a0_0 a0_1 a0_2 l0_3) = some (r1, r2, r3, r4) := by first | (rw [hy139]; with_reducible exact H) | (have H2_ := (Pj _ _).symm.trans H; rw [hy139]; with_reducible exact H2_) | (have H2_ := (Pj _ _).symm.trans H; with_reducible exact H2_) | with_reducible exact H | (rw [hy139]; exact H) | exact H
         have Ny139 := A7.mk hy139;have H' := A7.mk H;have p131 : 0 <= (x13_1 : Int) := of_decide_eq_true (by first | (with_reducible assumption) | assumption);have q131 : x13_1 < (l0_3.length : Int) := of_decide_eq_true (by first | (with_reducible assumption) | assumption);obtain ⟨ad131, A131_3, c131_3, e131, hx131_0, hx131_1, hx131_2, hx131_3, hl131_3, hi131_3⟩ := Cw HR0_3.out x13_1 p131 q131;cases e131;replace hx131_0 := (HB.out.cell (Pb w _ hx131_0)).trans hx131_0;replace hx131_1 := (HB.out.cell (Pb w _ hx131_1)).trans hx131_1;replace hx131_2 := (HB.out.cell (Pb w _ hx131_2)).trans hx131_2;replace hx131_3 := (HB.out.cell (Pb w _ hx131_3)).trans hx131_3;have HR131_3 := A7.mk hi131_3;have HC131_3 := A7.mk hl131_3
         go_wp2_with (first | ((with_reducible refine AE (N := 5) rfl ?_); refine Aw ?hg (N := 5) ?hd (cs := #[.int .i64 0, .string (⟨#[]⟩ : ByteArray), .string (⟨#[]⟩ : ByteArray), .slice none 0 0]) (t := 24) ?hr ?_; (case hd => rfl); (case hg => rfl); (case hr => go_simp); intro gb132 hg w16 hbox hb; have n0_ := A7.mk (Kd.R_below (Kd.R_elderB (by (with_reducible repeat (first | apply Kd.R_alloc | apply Kd.R_drewN | apply Kd.R_drew)); exact HO_3.out) gb132 (Nat.le_of_eq hg.symm)) hb); have n1_ := A7.mk (Bf (g := gb126) (o := .cells #[.int .i64 a0_0, .string a0_1, .string a0_2, .slice (some ad131) l0_3.length c0_3] 24 (0, 0)) (Go.Z.k BK126.out) hb); have n2_ := A7.mk (Bf (g := gb127) (o := .cells #[.int .i64 0, .string (⟨#[]⟩ : ByteArray), .string (⟨#[]⟩ : ByteArray), .slice none 0 0] 24 (0, 0)) (Go.Z.k BK127.out) hb); have n3_ := A7.mk (AT (Go.Z.h2 GE126.out GE127.out) hb); have n4_ := A7.mk (hbox); have n5_ := A7.mk ((by rw [hg]; exact (Aq (Go.Z.h2 GE126.out GE127.out)) : w.heap.size <= gb132)); have n6_ := A7.mk ((by rw [hg]; exact (Aq (Go.Z.h2 GE126.out GE127.out)) : w.heap.size <= gb132)); have n7_ := A7.mk ((by rw [hg]; exact Re (BG (g := gb126) (o := .cells #[.int .i64 a0_0, .string a0_1, .string a0_2, .slice (some ad131) l0_3.length c0_3] 24 (0, 0)) (Go.Z.k BK126.out)) : gb126 ≠ gb132)); have n8_ := A7.mk ((by rw [hg]; exact Rb (BG (g := gb126) (o := .cells #[.int .i64 a0_0, .string a0_1, .string a0_2, .slice (some ad131) l0_3.length c0_3] 24 (0, 0)) (Go.Z.k BK126.out)) : gb132 ≠ gb126)); have n9_ := A7.mk ((by rw [hg]; exact Re (BG (g := gb127) (o := .cells #[.int .i64 0, .string (⟨#[]⟩ : ByteArray), .string (⟨#[]⟩ : ByteArray), .slice none 0 0] 24 (0, 0)) (Go.Z.k BK127.out)) : gb127 ≠ gb132)); have n10_ := A7.mk ((by rw [hg]; exact Rb (BG (g := gb127) (o := .cells #[.int .i64 0, .string (⟨#[]⟩ : ByteArray), .string (⟨#[]⟩ : ByteArray), .slice none 0 0] 24 (0, 0)) (Go.Z.k BK127.out)) : gb132 ≠ gb127)); clear HO_3; clear BK126; clear BK127; clear HB; have HO_3 := n0_; have BK126 := n1_; have BK127 := n2_; have HB := n3_; have BK132 := n4_; have GW132 := n5_; have GE132 := n6_; have NB126_132 := n7_; have NB132_126 := n8_; have NB127_132 := n9_; have NB132_127 := n10_; clear n0_ n1_ n2_ n3_ n4_ n5_ n6_ n7_ n8_ n9_ n10_; clear hb hbox hg; have hnb17 := NB132_126.out; have hnc17 := NB126_132.out; have hnb18 := NB132_127.out; have hnc18 := NB127_132.out; have hcz19_0 : w16.cell? ⟨gb132, 0, none⟩ = some (.int .i64 0) := (Aa BK132.out 0).trans rfl; have hcz19_1 : w16.cell? ⟨gb132, 1, none⟩ = some (.string (⟨#[]⟩ : ByteArray)) := (Aa BK132.out 1).trans rfl; have hcz19_2 : w16.cell? ⟨gb132, 2, none⟩ = some (.string (⟨#[]⟩ : ByteArray)) := (Aa BK132.out 2).trans rfl; have hcz19_3 : w16.cell? ⟨gb132, 3, none⟩ = some (.slice none 0 0) := (Aa BK132.out 3).trans rfl; have hfz19_0 := Ad BK132.out 0; have hfz19_1 := Ad BK132.out 1; have hfz19_2 := Ad BK132.out 2; have hfz19_3 := Ad BK132.out 3) | ((with_reducible refine Bs (f := 41) rfl ?_); refine Cv (some 19) rfl rfl Try.func41 (by kernel_rfl) rfl #[.agg #[.int .i64 ((Aj l0_3 x13_1).f0), .string ((Aj l0_3 x13_1).f1), .string ((Aj l0_3 x13_1).f2), .slice A131_3 ((Aj l0_3 x13_1).f3).length c131_3]] rfl (by (try simp only [PN, Py, PZ]); first | done | rfl | (simp only [PG, Pp]; rfl)) ?_; (with_reducible refine (ih k1 (by have := HK1.out; omega) ((Aj l0_3 x13_1).f0) ((Aj l0_3 x13_1).f1) ((Aj l0_3 x13_1).f2) _ _ ((Aj l0_3 x13_1).f3) t133 t134 t135 t136 _ ?side1 ?side2 A14.out).mono ?_); (case side1 => exact Kd.C_below HR131_3.out (Go.Z.h3 GE126.out GE127.out GE132.out)); (case side2 => exact HC131_3.out); rintro e w20 ⟨v137, rfl, ho0, hb⟩; refine ⟨_, rfl, ?_⟩; have n0_ := A7.mk (Kd.R_elder' (by (with_reducible repeat (first | apply Kd.R_alloc | apply Kd.R_drewN | apply Kd.R_drew)); exact (Kd.R_mono (Kd.R_far (p := ⟨gb132, 3, none⟩) (Kd.R_far (p := ⟨gb132, 2, none⟩) (Kd.R_far (p := ⟨gb132, 1, none⟩) (Kd.R_far (p := ⟨gb132, 0, none⟩) (Kd.R_mono HO_3.out (fun k_ hk => (⟨hk, hk.2⟩ : _ /\ k_ ≠ gb132))) (fun _ hk => hk.2) (.int .i64 ((Aj l0_3 x13_1).f0))) (fun _ hk => hk.2) (.string ((Aj l0_3 x13_1).f1))) (fun _ hk => hk.2) (.string ((Aj l0_3 x13_1).f2))) (fun _ hk => hk.2) (.slice A131_3 ((Aj l0_3 x13_1).f3).length c131_3)) (fun _ h_ => h_.1))) (Kd.R_base ho0) hb); have n1_ := A7.mk (Kd.R_lower (Kd.R_newB (Kd.R_newB (Kd.R_newB (Kd.R_new' ho0 (Kd.R_lt (by (with_reducible repeat (first | apply Kd.R_alloc | apply Kd.R_drewN | apply Kd.R_drew)); exact (Kd.R_mono (Kd.R_far (p := ⟨gb132, 3, none⟩) (Kd.R_far (p := ⟨gb132, 2, none⟩) (Kd.R_far (p := ⟨gb132, 1, none⟩) (Kd.R_far (p := ⟨gb132, 0, none⟩) (Kd.R_mono HO_3.out (fun k_ hk => (⟨hk, hk.2⟩ : _ /\ k_ ≠ gb132))) (fun _ hk => hk.2) (.int .i64 ((Aj l0_3 x13_1).f0))) (fun _ hk => hk.2) (.string ((Aj l0_3 x13_1).f1))) (fun _ hk => hk.2) (.string ((Aj l0_3 x13_1).f2))) (fun _ hk => hk.2) (.slice A131_3 ((Aj l0_3 x13_1).f3).length c131_3)) (fun _ h_ => h_.1))))) (g := gb126) (o := .cells #[.int .i64 a0_0, .string a0_1, .string a0_2, .slice (some ad131) l0_3.length c0_3] 24 (0, 0)) (by (with_reducible repeat (first | refine Ae ?_ _ | refine Ag ?_ | refine Ac ?_ _)); refine Ba ?_ NB126_132.out _; (with_reducible repeat (first | refine Ae ?_ _ | refine Ag ?_ | refine Ac ?_ _)); refine Ba ?_ NB126_132.out _; (with_reducible repeat (first | refine Ae ?_ _ | refine Ag ?_ | refine Ac ?_ _)); refine Ba ?_ NB126_132.out _; (with_reducible repeat (first | refine Ae ?_ _ | refine Ag ?_ | refine Ac ?_ _)); refine Ba ?_ NB126_132.out _; (with_reducible repeat (first | refine Ae ?_ _ | refine Ag ?_ | refine Ac ?_ _)); exact BK126.out)) (g := gb127) (o := .cells #[.int .i64 0, .string (⟨#[]⟩ : ByteArray), .string (⟨#[]⟩ : ByteArray), .slice none 0 0] 24 (0, 0)) (by (with_reducible repeat (first | refine Ae ?_ _ | refine Ag ?_ | refine Ac ?_ _)); refine Ba ?_ NB127_132.out _; (with_reducible repeat (first | refine Ae ?_ _ | refine Ag ?_ | refine Ac ?_ _)); refine Ba ?_ NB127_132.out _; (with_reducible repeat (first | refine Ae ?_ _ | refine Ag ?_ | refine Ac ?_ _)); refine Ba ?_ NB127_132.out _; (with_reducible repeat (first | refine Ae ?_ _ | refine Ag ?_ | refine Ac ?_ _)); refine Ba ?_ NB127_132.out _; (with_reducible repeat (first | refine Ae ?_ _ | refine Ag ?_ | refine Ac ?_ _)); exact BK127.out)) (g := gb132) (o := .cells #[.int .i64 ((Aj l0_3 x13_1).f0), .string ((Aj l0_3 x13_1).f1), .string ((Aj l0_3 x13_1).f2), .slice A131_3 ((Aj l0_3 x13_1).f3).length c131_3] 24 (0, 0)) (by (with_reducible repeat (first | refine Ae ?_ _ | refine Ag ?_ | refine Ac ?_ _)); refine AS (cs := #[.int .i64 ((Aj l0_3 x13_1).f0), .string ((Aj l0_3 x13_1).f1), .string ((Aj l0_3 x13_1).f2), .slice none 0 0]) ?_ 3 _ rfl; (with_reducible repeat (first | refine Ae ?_ _ | refine Ag ?_ | refine Ac ?_ _)); refine AS (cs := #[.int .i64 ((Aj l0_3 x13_1).f0), .string ((Aj l0_3 x13_1).f1), .string (⟨#[]⟩ : ByteArray), .slice none 0 0]) ?_ 2 _ rfl; (with_reducible repeat (first | refine Ae ?_ _ | refine Ag ?_ | refine Ac ?_ _)); refine AS (cs := #[.int .i64 ((Aj l0_3 x13_1).f0), .string (⟨#[]⟩ : ByteArray), .string (⟨#[]⟩ : ByteArray), .slice none 0 0]) ?_ 1 _ rfl; (with_reducible repeat (first | refine Ae ?_ _ | refine Ag ?_ | refine Ac ?_ _)); refine AS (cs := #[.int .i64 0, .string (⟨#[]⟩ : ByteArray), .string (⟨#[]⟩ : ByteArray), .slice none 0 0]) ?_ 0 _ rfl; (with_reducible repeat (first | refine Ae ?_ _ | refine Ag ?_ | refine Ac ?_ _)); exact BK132.out)) (Aq (Go.Z.h3 GE126.out GE127.out GE132.out))); have n2_ := A7.mk (Bf (g := gb126) (o := .cells #[.int .i64 a0_0, .string a0_1, .string a0_2, .slice (some ad131) l0_3.length c0_3] 24 (0, 0)) (by (with_reducible repeat (first | refine Ae ?_ _ | refine Ag ?_ | refine Ac ?_ _)); refine Ba ?_ NB126_132.out _; (with_reducible repeat (first | refine Ae ?_ _ | refine Ag ?_ | refine Ac ?_ _)); refine Ba ?_ NB126_132.out _; (with_reducible repeat (first | refine Ae ?_ _ | refine Ag ?_ | refine Ac ?_ _)); refine Ba ?_ NB126_132.out _; (with_reducible repeat (first | refine Ae ?_ _ | refine Ag ?_ | refine Ac ?_ _)); refine Ba ?_ NB126_132.out _; (with_reducible repeat (first | refine Ae ?_ _ | refine Ag ?_ | refine Ac ?_ _)); exact BK126.out) hb); have n3_ := A7.mk (Bf (g := gb127) (o := .cells #[.int .i64 0, .string (⟨#[]⟩ : ByteArray), .string (⟨#[]⟩ : ByteArray), .slice none 0 0] 24 (0, 0)) (by (with_reducible repeat (first | refine Ae ?_ _ | refine Ag ?_ | refine Ac ?_ _)); refine Ba ?_ NB127_132.out _; (with_reducible repeat (first | refine Ae ?_ _ | refine Ag ?_ | refine Ac ?_ _)); refine Ba ?_ NB127_132.out _; (with_reducible repeat (first | refine Ae ?_ _ | refine Ag ?_ | refine Ac ?_ _)); refine Ba ?_ NB127_132.out _; (with_reducible repeat (first | refine Ae ?_ _ | refine Ag ?_ | refine Ac ?_ _)); refine Ba ?_ NB127_132.out _; (with_reducible repeat (first | refine Ae ?_ _ | refine Ag ?_ | refine Ac ?_ _)); exact BK127.out) hb); have n4_ := A7.mk (Bf (g := gb132) (o := .cells #[.int .i64 ((Aj l0_3 x13_1).f0), .string ((Aj l0_3 x13_1).f1), .string ((Aj l0_3 x13_1).f2), .slice A131_3 ((Aj l0_3 x13_1).f3).length c131_3] 24 (0, 0)) (by (with_reducible repeat (first | refine Ae ?_ _ | refine Ag ?_ | refine Ac ?_ _)); refine AS (cs := #[.int .i64 ((Aj l0_3 x13_1).f0), .string ((Aj l0_3 x13_1).f1), .string ((Aj l0_3 x13_1).f2), .slice none 0 0]) ?_ 3 _ rfl; (with_reducible repeat (first | refine Ae ?_ _ | refine Ag ?_ | refine Ac ?_ _)); refine AS (cs := #[.int .i64 ((Aj l0_3 x13_1).f0), .string ((Aj l0_3 x13_1).f1), .string (⟨#[]⟩ : ByteArray), .slice none 0 0]) ?_ 2 _ rfl; (with_reducible repeat (first | refine Ae ?_ _ | refine Ag ?_ | refine Ac ?_ _)); refine AS (cs := #[.int .i64 ((Aj l0_3 x13_1).f0), .string (⟨#[]⟩ : ByteArray), .string (⟨#[]⟩ : ByteArray), .slice none 0 0]) ?_ 1 _ rfl; (with_reducible repeat (first | refine Ae ?_ _ | refine Ag ?_ | refine Ac ?_ _)); refine AS (cs := #[.int .i64 0, .string (⟨#[]⟩ : ByteArray), .string (⟨#[]⟩ : ByteArray), .slice none 0 0]) ?_ 0 _ rfl; (with_reducible repeat (first | refine Ae ?_ _ | refine Ag ?_ | refine Ac ?_ _)); exact BK132.out) hb); have n5_ := A7.mk (AT (Go.Z.h3 GE126.out GE127.out GE132.out) hb); clear HO_3; clear BK126; clear BK127; clear BK132; clear HB; have HO_3 := n0_; have HO138 := n1_; have BK126 := n2_; have BK127 := n3_; have BK132 := n4_; have HB := n5_; clear n0_ n1_ n2_ n3_ n4_ n5_; (try clear hb); (try clear hb2); (try clear hk); (try clear hi); (try clear ho0); obtain ⟨Ao22, co22, eo22⟩ := Kd.R_slice HO138.out; subst eo22) | ((with_reducible refine Bt (b := .append) (xs := #[.tmp 17, .tmp 20]) rfl ?_); at_builtin; refine Kd.R_append AY (w0 := w) w.heap.size rfl (.tmp 17) (.tmp 20) 22 24 (.agg #[(.int .i64 0), (.string ⟨#[]⟩), (.string ⟨#[]⟩), (.slice none 0 0)]) 64 rfl Try.underlying22 El rfl (by decide) (by omega) u3 x3_1 (⟨t133, t134, t135, t136⟩ : B8) [.int .i64 t133, .string t134, .string t135, .slice Ao22 t136.length co22] (fun k_ => k_ ≠ gb126 /\ k_ ≠ gb127 /\ k_ ≠ gb132) (fun k_ => ((fun k_ => k_ ≠ gb126 /\ k_ ≠ gb127 /\ k_ ≠ gb132)) k_ /\ some k_ ≠ (u3 : Pd).ownBlock) rfl rfl ?aP (fun _ hk => hk) ?aF ?aO ?aB ?aS ?aL ?_; (case aP => exact E0 _ _ _ (⟨t133, t134, t135, t136⟩ : B8) (Kd.R_mono (HO138.out) (fun k_ hk => ⟨⟨hk.1.1.2, ⟨hk.1.2, hk.2⟩⟩, hk.1.1.1.2⟩))); (case aB => exact (Go.Z.h3 GE126.out GE127.out GE132.out)); (case aF => exact (fun k_ hk => ⟨Kd.freshB (g := gb126) (o := .cells #[.int .i64 a0_0, .string a0_1, .string a0_2, .slice (some ad131) l0_3.length c0_3] 24 (0, 0)) (Go.Z.k BK126.out) k_ hk, Kd.freshB (g := gb127) (o := .cells #[.int .i64 0, .string (⟨#[]⟩ : ByteArray), .string (⟨#[]⟩ : ByteArray), .slice none 0 0] 24 (0, 0)) (Go.Z.k BK127.out) k_ hk, Kd.freshB (g := gb132) (o := .cells #[.int .i64 ((Aj l0_3 x13_1).f0), .string ((Aj l0_3 x13_1).f1), .string ((Aj l0_3 x13_1).f2), .slice A131_3 ((Aj l0_3 x13_1).f3).length c131_3] 24 (0, 0)) (Go.Z.k BK132.out) k_ hk⟩)); (case aO => exact (by (with_reducible repeat (first | apply Kd.R_alloc | apply Kd.R_drewN | apply Kd.R_drew)); exact Kd.R_mono HO_3.out (fun _ hk => ⟨hk.1.1.1, ⟨hk.1.1.2, hk.1.2⟩⟩))); (case aS => exact (Aq (Go.Z.h3 GE126.out GE127.out GE132.out))); (case aL => have := LMc15.out; omega); intro v140 w21 ho hb hg hat; rw [<- Ny139.out] at ho; have n0_ := A7.mk (Ck (g := gb126) (o := .cells #[.int .i64 a0_0, .string a0_1, .string a0_2, .slice (some ad131) l0_3.length c0_3] 24 (0, 0)) (Go.Z.k BK126.out) hg (Kd.R_away HO_3.out (fun _ hk => hk.1.1.1))); have n1_ := A7.mk (Ck (g := gb127) (o := .cells #[.int .i64 0, .string (⟨#[]⟩ : ByteArray), .string (⟨#[]⟩ : ByteArray), .slice none 0 0] 24 (0, 0)) (Go.Z.k BK127.out) hg (Kd.R_away HO_3.out (fun _ hk => hk.1.1.2))); have n2_ := A7.mk (Ck (g := gb132) (o := .cells #[.int .i64 ((Aj l0_3 x13_1).f0), .string ((Aj l0_3 x13_1).f1), .string ((Aj l0_3 x13_1).f2), .slice A131_3 ((Aj l0_3 x13_1).f3).length c131_3] 24 (0, 0)) (Go.Z.k BK132.out) hg (Kd.R_away HO_3.out (fun _ hk => hk.1.2))); have n3_ := A7.mk (hb); have n4_ := A7.mk (ho); clear BK126; clear BK127; clear BK132; clear HB; clear HO_3; clear HO138; have BK126 := n0_; have BK127 := n1_; have BK132 := n2_; have HB := n3_; have HO141 := n4_; clear n0_ n1_ n2_ n3_ n4_; clear ho hb hg hat))
         go_roundg k1
         case measure => have := HK1.out; omega
         case rel => exact ⟨(y139), (Pq (x13_1 + 1)), rfl, H', ⟨by have := HK1.out; omega⟩, ⟨by (with_reducible repeat (first | apply Kd.R_alloc | apply Kd.R_drewN | apply Kd.R_drew)); exact Kd.R_mono HO141.out (fun _ hk => ⟨hk.1, hk.2.1⟩)⟩, ⟨Go.Z.k BK126.out⟩, ⟨Go.Z.k BK127.out⟩, ⟨Go.Z.h3 GE126.out GE127.out GE132.out⟩⟩
        ·rw [if_neg c15] at H;exact absurd H (by simp)
       ·rw [if_neg c13] at H;exact absurd H (by simp)
      ·rw [if_neg c12] at H;exact absurd H (by simp)
     ·rw [if_neg c11] at H;simp only [QA, QQ] at H;obtain ⟨rfl, rfl, rfl, rfl⟩ := H;obtain ⟨Ao23, co23, eo23⟩ := Kd.R_slice HO_3.out;subst eo23;have hcz25_0 : wr.cell? ⟨gb126, 0, none⟩ = some (.int .i64 a0_0) := (Aa BK126.out 0).trans rfl;have hcz25_1 : wr.cell? ⟨gb126, 1, none⟩ = some (.string a0_1) := (Aa BK126.out 1).trans rfl;have hcz25_2 : wr.cell? ⟨gb126, 2, none⟩ = some (.string a0_2) := (Aa BK126.out 2).trans rfl;have hcz25_3 : wr.cell? ⟨gb126, 3, none⟩ = some (.slice A0_3 l0_3.length c0_3) := (Aa BK126.out 3).trans rfl;have hfz25_2 := Ad BK126.out 2;have hfz25_3 := Ad BK126.out 3;obtain ⟨⟨hcz26_0, hcz26_1, hcz26_2, hcz26_3⟩, hfz26_0, hfz26_1, hfz26_2, hfz26_3⟩ := Go.Z.b4 BK127.out;go_wp2;refine bodyPost_ret (results_cell_row rfl _ _ gb127 24 #[.int .i64 a0_0, .string a0_1, .string a0_2, .slice Ao23 x3_1.length co23] (0, 0) _ rfl (by (with_reducible repeat (first | refine Ae ?_ _ | refine Ag ?_ | refine Ac ?_ _)); refine AS (cs := #[.int .i64 a0_0, .string a0_1, .string a0_2, .slice none 0 0]) ?_ 3 _ rfl; (with_reducible repeat (first | refine Ae ?_ _ | refine Ag ?_ | refine Ac ?_ _)); refine AS (cs := #[.int .i64 a0_0, .string a0_1, .string (⟨#[]⟩ : ByteArray), .slice none 0 0]) ?_ 2 _ rfl; (with_reducible repeat (first | refine Ae ?_ _ | refine Ag ?_ | refine Ac ?_ _)); refine AS (cs := #[.int .i64 a0_0, .string (⟨#[]⟩ : ByteArray), .string (⟨#[]⟩ : ByteArray), .slice none 0 0]) ?_ 1 _ rfl; (with_reducible repeat (first | refine Ae ?_ _ | refine Ag ?_ | refine Ac ?_ _)); refine AS (cs := #[.int .i64 0, .string (⟨#[]⟩ : ByteArray), .string (⟨#[]⟩ : ByteArray), .slice none 0 0]) ?_ 0 _ rfl; (with_reducible repeat (first | refine Ae ?_ _ | refine Ag ?_ | refine Ac ?_ _)); refine Ba ?_ NB127_126.out _; (with_reducible repeat (first | refine Ae ?_ _ | refine Ag ?_ | refine Ac ?_ _)); exact BK127.out) Try.underlying24 rfl (by kernel_rfl)) rfl ?_;exact ⟨_, by first | rfl | (simp [AP, AQ] <;> rfl) | (simp [*, AP, AQ] <;> rfl), by (with_reducible repeat (first | apply Kd.R_alloc | apply Kd.R_drewN | apply Kd.R_drew)); exact Kd.R_mono (Kd.R_far (p := ⟨gb127, 3, none⟩) (Kd.R_far (p := ⟨gb127, 2, none⟩) (Kd.R_far (p := ⟨gb127, 1, none⟩) (Kd.R_far (p := ⟨gb127, 0, none⟩) (Kd.R_far (p := ⟨gb126, 3, none⟩) (Kd.R_mono (Kd.R_mono HO_3.out (fun k_ hk => (⟨hk, hk.1⟩ : _ /\ k_ ≠ gb126))) (fun k_ hk => (⟨hk, hk.1.2⟩ : _ /\ k_ ≠ gb127))) (fun _ hk => hk.1.2) (.slice Ao23 x3_1.length co23)) (fun _ hk => hk.2) (.int .i64 a0_0)) (fun _ hk => hk.2) (.string a0_1)) (fun _ hk => hk.2) (.string a0_2)) (fun _ hk => hk.2) (.slice Ao23 x3_1.length co23)) (fun _ hk => trivial), by repeat (first | (with_reducible first | exact HB.out | apply Ah | apply AH | apply AD | refine AZ ?_ GE126.out | refine AZ ?_ GE127.out) | exact HB.out)⟩
  ·rw [if_neg c3] at H;exact absurd H (by simp)
 ·rw [if_neg c2] at H;exact absurd H (by simp)
-- NOT PRINTED: function 27 (shape_Of)
-- NOT PRINTED: function 20 (script_groveOf)
-- NOT PRINTED: function 42 (script_knot_42)
-- NOT PRINTED: function 29 (script_knot_place)
-- NOT PRINTED: function 47 (script_knot_47)
-- NOT PRINTED: function 50 (script_knot_50)
-- NOT PRINTED: function 49 (script_knot_49)
-- NOT PRINTED: function 48 (script_knot_48)
-- NOT PRINTED: function 44 (script_knot_44)
-- NOT PRINTED: function 31 (script_knot_put)
-- NOT PRINTED: function 45 (script_knot_45)
-- NOT PRINTED: function 32 (script_knot_out)
-- NOT PRINTED: function 33 (script_knot_below)
-- NOT PRINTED: function 21 (script_grove_do)
-- NOT PRINTED: function 22 (script_knot_node)
-- NOT PRINTED: function 10 (script_Apply)
end Go.Proofs.Q
namespace Go.Proofs.Q
open Go.RowKit Go.Proofs.V.Words Go.Proofs.V.Last Go.Proofs.V.More Go.Proofs.V.SL
attribute [local go_sem] BI BJ BY BZ Bu Bv BL BM
theorem DB.up {α : Type} {f : Nat -> Option α} (h : ∀ k, DB (f k) (f (k + 1))) {a b : Nat} (hab : a <= b) {r : α} (hr : f a = some r) : f b = some r := by
 induction hab with
 | refl => exact hr
 | step _ ih => exact h _ _ ih
theorem Mb (a0 : Int) (a1 a2 : ByteArray) (l l' : List B8) (hl : l.length <= 1000000) (ih : ∀ x ∈ l, ∃ k, Bb.f k x.f0 x.f1 x.f2 x.f3 = some (x.f0, x.f1, x.f2, x.f3)) :
    ∀ (d j : Nat), l.length = j + d -> ∃ k, Bb.l0 k (l.take j) l (l.length : Int) (j : Int) a0 a1 a2 l' = some (a0, a1, a2, l)
  | 0, j, h => ⟨1, by
      have hj : ¬ (j : Int) < (l.length : Int) := by omega
      rw [Bb.l0, if_neg hj, Ql (by omega)]⟩
  | d + 1, j, h => by
      obtain ⟨k1, h1⟩ := Mb a0 a1 a2 l l' hl ih d (j + 1) (by omega);have hjl : j < l.length := by omega
      obtain ⟨k2, h2⟩ := ih l[j] (List.getElem_mem hjl);have hrd : Aj l (j : Int) = l[j] := by simp [Aj, Pt, Pg hjl]
      have hw : Pq ((j : Int) + 1) = ((j + 1 : Nat) : Int) := by unfold Pq; omega
      have h3 := DB.up (fun k => Bb.mono l[j].f0 l[j].f1 l[j].f2 l[j].f3 k) (Nat.le_max_right k1 k2) h2;have h4 := DB.up (f := fun k => Bb.l0 k (l.take (j + 1)) l (l.length : Int) ((j + 1 : Nat) : Int) a0 a1 a2 l') (fun k => (Bb.mono_l k).2 _ _ _ _ _ _ _ _) (Nat.le_max_left k1 k2) h1;refine ⟨max k1 k2 + 1, ?_⟩;have hj : (j : Int) < (l.length : Int) := by omega
      have h0 : (0 : Int) <= (j : Int) := by omega
      have ht : (l.take j).length < 2199023255552 := by rw [Pp]; omega
      rw [Bb.l0, if_pos hj, if_pos h0, if_pos hj, hrd, h3];simp only [Pj];rw [if_pos ht, hw];have e : l.take j ++ [(⟨l[j].f0, l[j].f1, l[j].f2, l[j].f3⟩ : B8)] = l.take (j + 1) := by rw [List.take_succ_eq_append_getElem hjl, (fun z => by cases z; rfl : ∀ z : B8, (⟨z.f0, z.f1, z.f2, z.f3⟩ : B8) = z)]
      rw [e];exact h4
theorem IY : ∀ {l : List B8} {x : B8}, x ∈ l -> BT x <= BE l
 | a :: r, x, h => by
  rcases Qg.1 h with rfl | h
  ·simp only [BE]; omega
  ·have := IY h; simp only [BE]; omega
theorem Mc : ∀ (n : Nat) (x : B8), BT x <= n -> n <= 1000000 -> ∃ k, Bb.f k x.f0 x.f1 x.f2 x.f3 = some (x.f0, x.f1, x.f2, x.f3)
 | 0, ⟨_, _, _, _⟩, h, _ => by simp [BT] at h
 | n + 1, ⟨a, b, c, l⟩, h, hn => by
  simp only [BT] at h;have hl := Fk l;obtain ⟨k, hk⟩ := Mb a b c l l (by omega) (fun x hx => Mc n x (by have := IY hx; omega) (by omega)) l.length 0 (by omega);refine ⟨k + 1, ?_⟩;have h0 : (0 : Int) <= (l.length : Int) := by omega
  have h1 : ((l.length : Int) : Int).toNat <= 4398046511104 := by omega
  simp only [];rw [Bb.f, if_pos h0, if_pos h1];simpa using hk
theorem Pl.start {w0 w : Pe} {Z Φ : Nat -> Prop} {g : Nat} {X : List Bj} (h : St w0 Z (Al g 71 #[.slice none 0 0, .slice none 0 0, .slice none 0 0, .slice none 0 0] :: X) w) (hΦ : ∀ k, Φ k -> Z k \/ k < w0.heap.size) :
  Pl w0 Z Φ g ⟨.slice none 0 0, .slice none 0 0, .slice none 0 0, .slice none 0 0, [], []⟩ ⟨[], [], [], []⟩ X w := by
 refine ⟨?_, hΦ, fun j x hj => by simp at hj, rfl, rfl, rfl, rfl, rfl, fun u hu => by simp at hu⟩;have he : St w0 Z (Ei [] :: Al g 71 #[.slice none 0 0, .slice none 0 0, .slice none 0 0, .slice none 0 0] :: X) w := by
  obtain ⟨f, hf, hd⟩ := h.hs;exact ⟨h.below, h.zlt, f, ⟨fun _ => False, f, fun k => by simp, fun k h1 => h1.elim, fun k h1 => h1, hf⟩, hd⟩
 have h4 := (((he.row_nil 36 1).row_nil 3 1).row_nil 3 1).row_nil 24 4;exact h4.perm (List.perm_middle (l₁ := [Bw (.slice none 0 0) 24 4 0 [], Bw (.slice none 0 0) 3 1 0 [], Bw (.slice none 0 0) 3 1 0 [], Bw (.slice none 0 0) 36 1 0 [], Ei []]))
def Bk (x : B8) : PS := C1 x (-1) ⟨[], [], [], []⟩
def CU.f (a0_0 : Int) (a0_1 : ByteArray) (a0_2 : ByteArray) (l0_3 : List (B8)) : Option ((List (B8)) × List Int × List Int × (List (List Int))) :=
 if BT ⟨a0_0, a0_1, a0_2, l0_3⟩ <= 1000000 then some ((Bk ⟨a0_0, a0_1, a0_2, l0_3⟩).N, (Bk ⟨a0_0, a0_1, a0_2, l0_3⟩).P, (Bk ⟨a0_0, a0_1, a0_2, l0_3⟩).Z, (Bk ⟨a0_0, a0_1, a0_2, l0_3⟩).K) else none
structure OG (w w' : Pe) (a : Int) (b c : ByteArray) (n m : Nat) (v : Pd) : Prop where
 ex : ∃ (gN qN : Nat) (cur : Array Pd) (A5 : Option Addr) (c5 : Nat) (inner : List Pd), v = .slice (some ⟨gN, 0, none⟩) m qN /\ w'.heap[gN]? = some (.cells cur 24 (0, 0)) /\ cur.toList.take 4 = [.int .i64 a, .string b, .string c, .slice A5 n c5] /\ w'.ownsRow w.heap.size 24 4 (.slice A5 n c5) n inner
theorem CU.callsK (a0_0 : Int) (a0_1 : ByteArray) (a0_2 : ByteArray) (A0_3 : Option Addr) (c0_3 : Nat) (l0_3 : List (B8)) (r1 : List (B8)) (r2 : List Int) (r3 : List Int) (r4 : List (List Int)) (w : Pe) (hr0_3 : Kd.C AY w A0_3 l0_3.length l0_3) (hc0_3 : l0_3.length <= c0_3) (h : CU.f a0_0 a0_1 a0_2 l0_3 = some (r1, r2, r3, r4)) :
  PJ Try.prog 27 #[.agg #[.int .i64 a0_0, .string a0_1, .string a0_2, .slice A0_3 l0_3.length c0_3]] w fun e w' => ∃ v0_ v1_ v2_ v3_ : Pd, e = .returned (.agg #[v0_, v1_, v2_, v3_]) /\ Kd.N AY 24 w' w.heap.size (fun k_ => (w.heap.size <= k_) /\ some k_ ≠ (v1_ : Pd).ownBlock /\ some k_ ≠ (v2_ : Pd).ownBlock /\ some k_ ≠ (v3_ : Pd).ownBlock) v0_ r1 /\ Kd.R (Kd.int .i64) 3 w' w.heap.size (fun k_ => (w.heap.size <= k_) /\ some k_ ≠ (v2_ : Pd).ownBlock) v1_ r2 /\ Kd.R (Kd.int .i64) 3 w' w.heap.size (fun k_ => (w.heap.size <= k_) /\ some k_ ≠ (v1_ : Pd).ownBlock) v2_ r3 /\ Kd.S (Kd.slice 3 (Kd.int .i64)) 36 w' w.heap.size (fun k_ => (w.heap.size <= k_) /\ some k_ ≠ (v1_ : Pd).ownBlock /\ some k_ ≠ (v2_ : Pd).ownBlock) v3_ r4 /\ Below w.heap.size w w' /\ OG w w' a0_0 a0_1 a0_2 l0_3.length r1.length v0_ := by
 unfold CU.f at h;by_cases hsz : BT ⟨a0_0, a0_1, a0_2, l0_3⟩ <= 1000000
 case neg => rw [if_neg hsz] at h; cases h
 rw [if_pos hsz] at h;simp only [QA, QQ] at h;obtain ⟨rfl, rfl, rfl, rfl⟩ := h;obtain ⟨k, hk⟩ := Mc _ ⟨a0_0, a0_1, a0_2, l0_3⟩ hsz (Ps _);simp only [] at hk;have hu24 := Try.underlying24;have hu71 := Try.underlying71;have s0 := St.start w;go_enter Try.func27, Try.ntmps27
 go_wp2_with (first | ((with_reducible refine AE (N := 1) rfl ?_); refine Aw ?hg (N := 1) ?hd (cs := #[.int .i64 a0_0, .string a0_1, .string a0_2, .slice A0_3 l0_3.length c0_3]) (t := 24) ?hr ?_; (case hd => rfl); (case hg => rfl); (case hr => first | (go_simp; done) | (go_simp; rfl)); intro g1 hg_ w1 hbox hb; have s1 := (s0.more hb (a := Al g1 24 #[.int .i64 a0_0, .string a0_1, .string a0_2, .slice A0_3 l0_3.length c0_3]) (f := fun k => k = g1) ⟨fun _ => RY, hbox⟩ (fun k hk => by omega)).1; clear hb hbox hg_) | ((with_reducible refine AE (N := 2) rfl ?_); refine Aw ?hg (N := 2) ?hd (cs := #[.slice none 0 0, .slice none 0 0, .slice none 0 0, .slice none 0 0]) (t := 71) ?hr ?_; (case hd => rfl); (case hg => rfl); (case hr => first | (go_simp; done) | (go_simp; rfl)); intro g2 hg_ w2 hbox hb; have s2 := (s1.more hb (a := Al g2 71 #[.slice none 0 0, .slice none 0 0, .slice none 0 0, .slice none 0 0]) (f := fun k => k = g2) ⟨fun _ => RY, hbox⟩ (fun k hk => by omega)).1; clear hb hbox hg_) | ((with_reducible refine AE (N := 3) rfl ?_); refine Aw ?hg (N := 3) ?hd (cs := #[.slice none 0 0, .slice none 0 0, .slice none 0 0, .slice none 0 0]) (t := 71) ?hr ?_; (case hd => rfl); (case hg => rfl); (case hr => first | (go_simp; done) | (go_simp; rfl)); intro g3 hg_ w3 hbox hb; have s3 := (s2.more hb (a := Al g3 71 #[.slice none 0 0, .slice none 0 0, .slice none 0 0, .slice none 0 0]) (f := fun k => k = g3) ⟨fun _ => RY, hbox⟩ (fun k hk => by omega)).1; clear hb hbox hg_; have hx0 : w3.cell? ⟨g1, 0, none⟩ = some (.int .i64 a0_0) := (Aa (s3.at_blk (i := 2) rfl) 0).trans rfl; have hx1 : w3.cell? ⟨g1, 1, none⟩ = some (.string a0_1) := (Aa (s3.at_blk (i := 2) rfl) 1).trans rfl; have hx2 : w3.cell? ⟨g1, 2, none⟩ = some (.string a0_2) := (Aa (s3.at_blk (i := 2) rfl) 2).trans rfl; have hx3 : w3.cell? ⟨g1, 3, none⟩ = some (.slice A0_3 l0_3.length c0_3) := (Aa (s3.at_blk (i := 2) rfl) 3).trans rfl) | ((with_reducible refine Bs (f := 41) rfl ?_); refine Cv (some 5) rfl rfl Try.func41 (by kernel_rfl) rfl #[.agg #[.int .i64 a0_0, .string a0_1, .string a0_2, .slice A0_3 l0_3.length c0_3]] rfl (by (try simp only [PN, Py, PZ]); first | done | rfl) ?_; refine (Bb.calls k a0_0 a0_1 a0_2 A0_3 c0_3 l0_3 _ _ _ _ _ (Kd.C_below hr0_3 s3.below) hc0_3 hk).mono ?_; rintro e w5 ⟨v3, rfl, hR, hB⟩; refine ⟨_, rfl, ?_⟩; obtain ⟨A5, c5, rfl⟩ := Kd.R_slice hR; have s5 := s3.freeze hB; have hf5 := Kd.F_mono (Kd.R_F (Kd.R_bound hR)) (ok' := fun k => w3.heap.size <= k /\ k < w5.heap.size) (fun k hk => ⟨hk.2.1, hk.2.2.1⟩); have hl5 := LZ (Kd.R_own hR).choose_spec; have ho5 := Kd.R_own hR; clear hx0 hx1 hx2 hx3) | ((with_reducible refine Bs (f := 40) rfl ?_); refine Cv (some 6) rfl rfl Try.func40 (by kernel_rfl) rfl #[.pointer (some ⟨g3, 0, none⟩), .agg #[.int .i64 a0_0, .string a0_1, .string a0_2, .slice A5 l0_3.length c5], .int .i64 (-1)] rfl (by (try simp only [PN, Py, PZ]); first | done | rfl) ?_; have HP := Pl.start s5 (Φ := fun k => w3.heap.size <= k /\ k < w5.heap.size) (fun k hk => .inl (.inr hk)); refine (KX _ ⟨a0_0, a0_1, a0_2, l0_3⟩ (Ps _) w _ _ g3 _ _ _ (-1) A5 c5 _ HP hf5 hl5 (by simpa using hsz) (by simpa [Db] using hsz)).mono ?_; rintro e w6 ⟨rfl, ⟨⟨nn, pp, zz, kk, cn, us⟩, HP6, hpre⟩, sm6⟩; obtain ⟨An, qn, en⟩ := BF (HP6.st.at_row (i := 1) rfl); have fn : nn = .slice An _ qn := en; clear en; subst fn; obtain ⟨Ap, qp, ep⟩ := BF (HP6.st.at_row (i := 2) rfl); have fp : pp = .slice Ap _ qp := ep; clear ep; subst fp; obtain ⟨Az, qz, ez⟩ := BF (HP6.st.at_row (i := 3) rfl); have fz : zz = .slice Az _ qz := ez; clear ez; subst fz; obtain ⟨Ak, qk, ek⟩ := BF (HP6.st.at_row (i := 4) rfl); have fk : kk = .slice Ak _ qk := ek; clear ek; subst fk; refine ⟨_, rfl, ?_⟩; have hq0 := HP6.st.at_blk (i := 0) rfl; have hy0 : w6.cell? ⟨g3, 0, none⟩ = some (.slice An _ qn) := (Aa hq0 0).trans rfl; have hy1 : w6.cell? ⟨g3, 1, none⟩ = some (.slice Ap _ qp) := (Aa hq0 1).trans rfl; have hy2 : w6.cell? ⟨g3, 2, none⟩ = some (.slice Az _ qz) := (Aa hq0 2).trans rfl; have hy3 : w6.cell? ⟨g3, 3, none⟩ = some (.slice Ak _ qk) := (Aa hq0 3).trans rfl; have hq2 := HP6.st.at_blk (i := 6) rfl; have hz0 : w6.cell? ⟨g2, 0, none⟩ = some (.slice none 0 0) := (Aa hq2 0).trans rfl; have hz1 : w6.cell? ⟨g2, 1, none⟩ = some (.slice none 0 0) := (Aa hq2 1).trans rfl; have hz2 : w6.cell? ⟨g2, 2, none⟩ = some (.slice none 0 0) := (Aa hq2 2).trans rfl; have hz3 : w6.cell? ⟨g2, 3, none⟩ = some (.slice none 0 0) := (Aa hq2 3).trans rfl; have hfz0 := Ad hq2 0; have hfz1 := Ad hq2 1; have hfz2 := Ad hq2 2; have hfz3 := Ad hq2 3; have hne : g2 ≠ g3 := fun e_ => (by obtain ⟨fa, fb, ha, hb_, hd_⟩ := Hs.apart HP6.st.hs.choose_spec.1 (i := 6) (j := 0) rfl rfl (by decide); exact hd_ g2 ((ha.1 g2).2 rfl) ((hb_.1 g2).2 e_)); have hne2 : g3 ≠ g2 := fun e_ => hne e_.symm))
 have t0_ := HP6.st.set (i := 6) rfl 0 (.slice An (C1 ⟨a0_0, a0_1, a0_2, l0_3⟩ (-1) ⟨[], [], [], []⟩).N.length qn);have t1_ := t0_.1.set (i := 6) rfl 1 (.slice Ap (C1 ⟨a0_0, a0_1, a0_2, l0_3⟩ (-1) ⟨[], [], [], []⟩).N.length qp);have t2_ := t1_.1.set (i := 6) rfl 2 (.slice Az (C1 ⟨a0_0, a0_1, a0_2, l0_3⟩ (-1) ⟨[], [], [], []⟩).N.length qz);have t3_ := t2_.1.set (i := 6) rfl 3 (.slice Ak (C1 ⟨a0_0, a0_1, a0_2, l0_3⟩ (-1) ⟨[], [], [], []⟩).N.length qk);have hbk := t3_.1.at_blk (i := 6) rfl;have HPf := (HP6.same t3_.1 (t0_.2.trans (t1_.2.trans (t2_.2.trans t3_.2)))).out (fun k hk => ⟨.inr hk, by have := s3.below.size; omega⟩);refine bodyPost_ret (results_cell_row rfl _ _ g2 71 _ (0, 0) _ rfl hbk hu71 rfl rfl) rfl ?_;refine ⟨_, _, _, _, rfl, HPf.1, HPf.2.1, HPf.2.2.1, HPf.2.2.2, t3_.1.below, ?_⟩;obtain ⟨inner, ho5⟩ := ho5;have smf := sm6.trans (t0_.2.trans (t1_.2.trans (t2_.2.trans t3_.2)));have hown := Gm (Fe ho5 (fun k hk => smf.same k (.inl (.inr ⟨Ds ho5 k hk, Fz ho5 k hk⟩)) (Fz ho5 k hk))) (base' := w.heap.size) (by have := s3.below.size; omega);obtain ⟨hcl, hrow⟩ := t3_.1.at_row (i := 1) rfl;have hnl : (C1 ⟨a0_0, a0_1, a0_2, l0_3⟩ (-1) ⟨[], [], [], []⟩).N.length = BT ⟨a0_0, a0_1, a0_2, l0_3⟩ := by rw [CT]; simp
 have hn0 : 0 < BT ⟨a0_0, a0_1, a0_2, l0_3⟩ := by simp only [BT]; omega
 rcases hrow with ⟨_, h0⟩ | ⟨gN, cap, cur, eN, _, hg, _, _, _, htk⟩
 · omega
 · refine ⟨gN, cap, cur, A5, c5, inner, ?_, hg, ?_, hown⟩
   · exact eN ▸ rfl
   have htk' : cur.toList.take ((C1 ⟨a0_0, a0_1, a0_2, l0_3⟩ (-1) ⟨[], [], [], []⟩).N.length * 4) = cn := htk;obtain ⟨q, hq⟩ := hpre;have hq' : [.int .i64 a0_0, .string a0_1, .string a0_2, .slice A5 l0_3.length c5] ++ q = cn := by simpa using hq
   have h4 : (cur.toList.take ((C1 ⟨a0_0, a0_1, a0_2, l0_3⟩ (-1) ⟨[], [], [], []⟩).N.length * 4)).take 4 = cur.toList.take 4 := by rw [RQ, Rm (by rw [hnl]; omega)]
   rw [<- h4, htk', <- hq'];rfl
theorem CU.calls (a0_0 : Int) (a0_1 : ByteArray) (a0_2 : ByteArray) (A0_3 : Option Addr) (c0_3 : Nat) (l0_3 : List (B8)) (r1 : List (B8)) (r2 : List Int) (r3 : List Int) (r4 : List (List Int)) (w : Pe) (hr0_3 : Kd.C AY w A0_3 l0_3.length l0_3) (hc0_3 : l0_3.length <= c0_3) (h : CU.f a0_0 a0_1 a0_2 l0_3 = some (r1, r2, r3, r4)) :
  PJ Try.prog 27 #[.agg #[.int .i64 a0_0, .string a0_1, .string a0_2, .slice A0_3 l0_3.length c0_3]] w fun e w' => ∃ v0_ v1_ v2_ v3_ : Pd, e = .returned (.agg #[v0_, v1_, v2_, v3_]) /\ Kd.N AY 24 w' w.heap.size (fun k_ => (w.heap.size <= k_) /\ some k_ ≠ (v1_ : Pd).ownBlock /\ some k_ ≠ (v2_ : Pd).ownBlock /\ some k_ ≠ (v3_ : Pd).ownBlock) v0_ r1 /\ Kd.R (Kd.int .i64) 3 w' w.heap.size (fun k_ => (w.heap.size <= k_) /\ some k_ ≠ (v2_ : Pd).ownBlock) v1_ r2 /\ Kd.R (Kd.int .i64) 3 w' w.heap.size (fun k_ => (w.heap.size <= k_) /\ some k_ ≠ (v1_ : Pd).ownBlock) v2_ r3 /\ Kd.S (Kd.slice 3 (Kd.int .i64)) 36 w' w.heap.size (fun k_ => (w.heap.size <= k_) /\ some k_ ≠ (v1_ : Pd).ownBlock /\ some k_ ≠ (v2_ : Pd).ownBlock) v3_ r4 /\ Below w.heap.size w w' :=
 (CU.callsK a0_0 a0_1 a0_2 A0_3 c0_3 l0_3 r1 r2 r3 r4 w hr0_3 hc0_3 h).mono fun e w' ⟨v0, v1, v2, v3, h1, h2, h3, h4, h5, h6, _⟩ => ⟨v0, v1, v2, v3, h1, h2, h3, h4, h5, h6⟩
end Go.Proofs.Q
namespace Go.Proofs.Q
def Cf : List B8 -> Nat -> List Int
 | [], _ => []
 | k :: r, a => (a : Int) :: Cf r (a + BT k)
mutual
def FX (s : PS) : B8 -> Nat -> Int -> Prop
 | ⟨a, b, c, l⟩, at_, p => s.P[at_]? = some p /\ s.Z[at_]? = some ((1 + BE l : Nat) : Int) /\ s.K[at_]? = some (Cf l (at_ + 1)) /\ DE s l (at_ + 1) at_
def DE (s : PS) : List B8 -> Nat -> Int -> Prop
 | [], _, _ => True
 | k :: r, a, p => FX s k a p /\ DE s r (a + BT k) p
end
def Md (s s' : PS) (a b : Nat) : Prop := ∀ i, a <= i -> i < b -> s'.P[i]? = s.P[i]? /\ s'.Z[i]? = s.Z[i]? /\ s'.K[i]? = s.K[i]?
mutual
theorem FX.mono {s s' : PS} : ∀ (x : B8) (at_ : Nat) (p : Int), FX s x at_ p -> Md s s' at_ (at_ + BT x) -> FX s' x at_ p
 | ⟨a, b, c, l⟩, at_, p, h, hg => by
  simp only [FX, BT] at *;obtain ⟨h1, h2, h3, h4⟩ := h;obtain ⟨g1, g2, g3⟩ := hg at_ (Ps _) (by omega)
  exact ⟨g1.trans h1, g2.trans h2, g3.trans h3, DE.mono l (at_ + 1) at_ h4 (fun i hi hj => hg i (by omega) (by omega))⟩
theorem DE.mono {s s' : PS} : ∀ (l : List B8) (a : Nat) (p : Int), DE s l a p -> Md s s' a (a + BE l) -> DE s' l a p
 | [], a, p, h, hg => trivial
 | k :: r, a, p, h, hg => by
  simp only [DE, BE] at *;exact ⟨FX.mono k a p h.1 (fun i hi hj => hg i hi (by omega)), DE.mono r (a + BT k) p h.2 (fun i hi hj => hg i (by omega) (by omega))⟩
end
structure Wf (s : PS) : Prop where
 p : s.P.length = s.N.length
 z : s.Z.length = s.N.length
 k : s.K.length = s.N.length
mutual
theorem Dy : ∀ (x : B8) (p : Int) (s : PS), Wf s -> Wf (C1 x p s) /\ Md s (C1 x p s) 0 s.N.length /\ FX (C1 x p s) x s.N.length p
 | ⟨a, b, c, l⟩, p, s, h => by
  have h0 : Wf ⟨s.N ++ [⟨a, b, c, l⟩], s.P ++ [p], s.Z ++ [0], s.K ++ [[]]⟩ := ⟨by simp [h.p], by simp [h.z], by simp [h.k]⟩;obtain ⟨w1, g1, g2, g3, g4⟩ := Fl l s.N.length ⟨s.N ++ [⟨a, b, c, l⟩], s.P ++ [p], s.Z ++ [0], s.K ++ [[]]⟩ h0 (by simp);have hlen := Ep l s.N.length ⟨s.N ++ [⟨a, b, c, l⟩], s.P ++ [p], s.Z ++ [0], s.K ++ [[]]⟩;simp only [PK, PX, Qu, R1] at g1 g2 g3 g4 hlen;have hp := h.p; have hz := h.z; have hk := h.k;refine ⟨⟨w1.p, by simp only [C1, Q6]; exact w1.z, w1.k⟩, fun i _ hi => ⟨?_, ?_, ?_⟩, ?_⟩
  ·exact ((g1 i (by omega)).1).trans (PQ (by omega))
  ·simp only [C1]; rw [Q4 (by omega)]; exact ((g1 i (by omega)).2).trans (PQ (by omega))
  ·exact (g2 i (by omega) (by omega)).trans (PQ (by omega))
  ·have hK : (C8 l s.N.length ⟨s.N ++ [⟨a, b, c, l⟩], s.P ++ [p], s.Z ++ [0], s.K ++ [[]]⟩).K[s.N.length]? = some (Cf l (s.N.length + 1)) := by
    have hlt : s.N.length < (C8 l s.N.length ⟨s.N ++ [⟨a, b, c, l⟩], s.P ++ [p], s.Z ++ [0], s.K ++ [[]]⟩).K.length := by rw [w1.k, hlen]; omega
    have hK0 : (s.K ++ [[]]).getD s.N.length [] = [] := by rw [<- hk]; simp
    rw [hK0, Pu] at g3;rw [<- g3, Pt, Pg hlt]; rfl
   refine ⟨?_, ?_, hK, ?_⟩
   ·refine ((g1 _ (by omega)).1).trans ?_;rw [<- hp]; simp
   ·simp only [C1];rw [Q0 (by rw [w1.z, hlen]; omega), hlen]
    congr 1; push_cast; omega
   ·refine DE.mono l _ _ g4 (fun i hi _ => ⟨rfl, ?_, rfl⟩);simp only [C1]; rw [Q4 (by omega)]
theorem Fl : ∀ (l : List B8) (a : Nat) (s : PS), Wf s -> a < s.N.length -> Wf (C8 l a s) /\ (∀ i, i < s.N.length -> (C8 l a s).P[i]? = s.P[i]? /\ (C8 l a s).Z[i]? = s.Z[i]?) /\ (∀ i, i < s.N.length -> i ≠ a -> (C8 l a s).K[i]? = s.K[i]?) /\ (C8 l a s).K.getD a [] = s.K.getD a [] ++ Cf l s.N.length /\ DE (C8 l a s) l s.N.length a
 | [], a, s, h, ha => ⟨h, fun _ _ => ⟨rfl, rfl⟩, fun _ _ _ => rfl, by simp [C8, Cf], trivial⟩
 | k :: r, a, s, h, ha => by
  obtain ⟨w1, ag, lay⟩ := Dy k a s h;have hl := CT k a s;have w2 : Wf { (C1 k a s) with K := (C1 k a s).K.set a ((C1 k a s).K.getD a [] ++ [(s.N.length : Int)]) } := ⟨w1.p, w1.z, by simp only [Q6]; exact w1.k⟩;obtain ⟨w3, g1, g2, g3, g4⟩ := Fl r a _ w2 (by simp only []; omega);simp only [] at g1 g2 g3 g4;have hka : a < (C1 k a s).K.length := by rw [w1.k]; omega
  have hsk : (C1 k a s).K.getD a [] = s.K.getD a [] := by rw [Pt, Pt, (ag a (Qa _) ha).2.2]
  refine ⟨w3, fun i hi => ⟨(g1 i (by omega)).1.trans (ag i (Qa _) hi).1, (g1 i (by omega)).2.trans (ag i (Qa _) hi).2.1⟩, fun i hi hne => ?_, ?_, ?_, ?_⟩
  ·exact (g2 i (by omega) hne).trans ((Q4 (Ry hne)).trans (ag i (Qa _) hi).2.2)
  ·simp only [C8];rw [g3, Pt, Q0 hka, Option.getD_some, hsk, hl];simp [Cf]
  ·refine FX.mono k _ _ lay (fun i hi hj => ⟨(g1 i (by omega)).1, (g1 i (by omega)).2, ?_⟩);exact (g2 i (by omega) (by omega)).trans (Q4 (by omega))
  ·rw [hl] at g4; exact g4
end
end Go.Proofs.Q
namespace Go.Proofs.Q
open Go.RowKit Go.Proofs.V.Words Go.Proofs.V.Last Go.Proofs.V.More
def Ev {α : Type} (g : Nat -> Option α) (v : α) : Prop := ∃ n, ∀ k, n <= k -> g k = some v
theorem Ev.pure {α : Type} (v : α) : Ev (fun _ => some v) v := ⟨0, fun _ _ => rfl⟩
theorem Ev.of {α : Type} {g : Nat -> Option α} {v : α} (h : ∀ k, g k = some v) : Ev g v := ⟨0, fun k _ => h k⟩
theorem Ev.bind {α β : Type} {g : Nat -> Option α} {v : α} {f : Nat -> α -> Option β} {u : β} (h : Ev g v) (hf : Ev (fun k => f k v) u) : Ev (fun k => (g k).bind (f k)) u := by
 obtain ⟨n, hn⟩ := h;obtain ⟨m, hm⟩ := hf;exact ⟨max n m, fun k hk => by show (g k).bind (f k) = _; rw [hn k (by omega)]; exact hm k (by omega)⟩
theorem Ev.step {α : Type} {g : Nat -> Option α} {v : α} (h : Ev (fun k => g (k + 1)) v) : Ev g v := by
 obtain ⟨n, hn⟩ := h;refine ⟨n + 1, fun k hk => ?_⟩;obtain ⟨j, rfl⟩ : ∃ j, k = j + 1 := ⟨k - 1, by omega⟩;exact hn j (by omega)
theorem Ev.congr {α : Type} {g g' : Nat -> Option α} {v : α} (h : Ev g v) (e : ∀ k, g' k = g k) : Ev g' v := by
 obtain ⟨n, hn⟩ := h;exact ⟨n, fun k hk => (e k).trans (hn k hk)⟩
theorem Ev.has {α : Type} {g : Nat -> Option α} {v : α} (h : Ev g v) : ∃ k, g k = some v := by
 obtain ⟨n, hn⟩ := h;exact ⟨n, hn n (Ps _)⟩
theorem Ik {n : Int} (h0 : -9223372036854775808 <= n) (h1 : n <= 9223372036854775807) : Pq n = n := by unfold Pq; omega
mutual
def pre : B8 -> List B8
 | ⟨a, b, c, l⟩ => ⟨a, b, c, l⟩ :: E1 l
def E1 : List B8 -> List B8
 | [] => []
 | k :: r => pre k ++ E1 r
end
mutual
theorem Cm : ∀ (x : B8), (pre x).length = BT x
 | ⟨a, b, c, l⟩ => by simp only [pre, BT, PX, IZ l]; omega
theorem IZ : ∀ (l : List B8), (E1 l).length = BE l
 | [] => rfl
 | k :: r => by simp only [E1, BE, PK, Cm k, IZ r]
end
theorem Il (x : B8) : 0 < (pre x).length := by cases x; simp [pre]
mutual
theorem Me : ∀ (x : B8) (p : Int) (s : PS), (C1 x p s).N = s.N ++ pre x
 | ⟨a, b, c, l⟩, p, s => by
  simp only [C1, pre];rw [Mf l];simp
theorem Mf : ∀ (l : List B8) (a : Nat) (s : PS), (C8 l a s).N = s.N ++ E1 l
 | [], a, s => by simp [C8, E1]
 | k :: r, a, s => by
  simp only [C8, E1];rw [Mf r];simp only [];rw [Me k];simp
end
theorem J0 (x : B8) : (Bk x).N = pre x := by
 unfold Bk;rw [Me];rfl
theorem F5 {done : List B8} {k : B8} {r : List B8} : Aj (done ++ k :: r) (done.length : Int) = k := by
 unfold Aj;simp
mutual
theorem Er : ∀ (x : B8) (m : Int), 1 <= m -> m <= 1000000 -> Ev (fun k => AC.f k x.f0 x.f1 x.f2 x.f3 m) ((pre x).take m.toNat)
 | ⟨a, b, c, l⟩, m, h1, h2 => by
  refine Ev.step ?_;have h := Hm l [] [⟨a, b, c, l⟩] m a b c (by simp) (by simp; omega) h2;simp only [Pu, Qu] at h;simp only [AC.f, pre];exact h
theorem Hm : ∀ (r done : List B8) (x5 : List B8) (m : Int) (a : Int) (b c : ByteArray), done.length < x5.length -> (x5.length : Int) <= m -> m <= 1000000 ->
  Ev (fun k => AC.l0 k m x5 (done.length : Int) a b c (done ++ r)) ((x5 ++ E1 r).take m.toNat)
 | [], done, x5, m, a, b, c, h1, h2, h3 => by
  refine Ev.step (Ev.of fun k => ?_);rw [AC.l0, if_neg (by simp)];simp only [E1, List.append_nil];rw [Ql (by omega)]
 | y :: r, done, x5, m, a, b, c, h1, h2, h3 => by
  refine Ev.step ?_;by_cases hm : (x5.length : Int) < m
  ·have e1 : Pq (m - (x5.length : Int)) = m - (x5.length : Int) := Ik (by omega) (by omega);have hy := Er y (m - (x5.length : Int)) (by omega) (by omega);have e2 : ((x5 ++ (pre y).take (m - (x5.length : Int)).toNat) ++ E1 r).take m.toNat = (x5 ++ E1 (y :: r)).take m.toNat := by
    have ht : (m - (x5.length : Int)).toNat = m.toNat - x5.length := by omega
    rw [ht];simp only [E1];rw [PP, RH, RH (l₁ := x5)]
    congr 1
    rw [RH, RH, RQ, Nat.min_self]
    congr 1
    by_cases hl : m.toNat - x5.length <= (pre y).length
    ·rw [Pp, Rm hl];rw [Nat.sub_self, Nat.sub_eq_zero_of_le hl]
    ·rw [Pp, Nat.min_eq_right (by omega)]
   have hr := Hm r (done ++ [y]) (x5 ++ (pre y).take (m - (x5.length : Int)).toNat) m a b c (by have := Il y; simp; omega) (by simp; omega) h3;rw [e2] at hr;have hr2 : Ev (fun k => if x5.length + ((pre y).take (m - (x5.length : Int)).toNat).length < 2199023255552 then (AC.l0 k m (x5 ++ (pre y).take (m - (x5.length : Int)).toNat) (Pq ((done.length : Int) + 1)) a b c (done ++ y :: r)) else none) ((x5 ++ E1 (y :: r)).take m.toNat) := by
    refine Ev.congr hr (fun k => ?_);rw [if_pos (by simp; omega), Ik (by omega) (by omega)];simp
   refine Ev.congr (Ev.bind hy (f := fun k t => if x5.length + t.length < 2199023255552 then (AC.l0 k m (x5 ++ t) (Pq ((done.length : Int) + 1)) a b c (done ++ y :: r)) else none) hr2) (fun k => ?_);rw [AC.l0, if_pos (by simp; omega), if_pos hm, if_pos (by omega), F5, e1]
  ·refine Ev.of fun k => ?_
   rw [AC.l0, if_pos (by simp; omega), if_neg hm]
   congr 1
   rw [Ru (by omega), Ql (by omega)]
end
theorem NO {a b : Int} : mn a b <= b := by unfold mn; omega
theorem Kk {a b : Int} (h : mn a b < b) : mn a b = a := by unfold mn at *; omega
theorem NP {a b : Int} (h0 : 0 <= a) (h1 : 0 <= b) : 0 <= mn a b := by unfold mn; omega
theorem Kl : ∀ (r done : List B8) (tot : Int), 0 <= tot -> tot <= 50000 -> done.length + r.length <= 1000000 ->
  ∃ b, Ev (fun k => B4.l0 k (done ++ r) tot (done.length : Int)) b /\ (b = true -> ∀ y ∈ r, y.f1.size <= 50000 /\ y.f2.size <= 50000)
 | [], done, tot, h0, h1, h2 => by
  refine ⟨decide (((done ++ []).length : Int) <= 2000), Ev.step (Ev.of fun k => ?_), fun _ y hy => by cases hy⟩;rw [B4.l0, if_neg (by simp)]
 | y :: r, done, tot, h0, h1, h2 => by
  have a1 : mn (y.f1.size : Int) 100000 <= 100000 := NO;have a2 : mn (y.f2.size : Int) 100000 <= 100000 := NO;have b1 : 0 <= mn (y.f1.size : Int) 100000 := NP (by omega) (by omega);have b2 : 0 <= mn (y.f2.size : Int) 100000 := NP (by omega) (by omega);simp only [PX] at h2;have e : Pq ((Pq (tot + mn (y.f1.size : Int) 100000)) + mn (y.f2.size : Int) 100000) = tot + mn (y.f1.size : Int) 100000 + mn (y.f2.size : Int) 100000 := by
   rw [Ik (n := tot + mn (y.f1.size : Int) 100000) (by omega) (by omega), Ik (by omega) (by omega)]
  by_cases hc : tot + mn (y.f1.size : Int) 100000 + mn (y.f2.size : Int) 100000 > 50000
  ·refine ⟨BK, Ev.step (Ev.of fun k => ?_), fun hb => by cases hb⟩;rw [B4.l0, if_pos (by simp; omega), if_pos (by omega), F5, e, if_pos hc]
  ·obtain ⟨b, hb, hm⟩ := Kl r (done ++ [y]) (tot + mn (y.f1.size : Int) 100000 + mn (y.f2.size : Int) 100000) (by omega) (by omega) (by simp; omega);refine ⟨b, Ev.step (Ev.congr hb fun k => ?_), fun hbt z hz => ?_⟩
   ·show B4.l0 (k + 1) _ _ _ = _
    rw [B4.l0, if_pos (by simp; omega), if_pos (by omega), F5, e, if_neg hc, Ik (by omega) (by omega)];simp
   ·rcases Qg.1 hz with rfl | hz
    ·have c1 : mn (z.f1.size : Int) 100000 = z.f1.size := Kk (by omega);have c2 : mn (z.f2.size : Int) 100000 = z.f2.size := Kk (by omega);exact ⟨by omega, by omega⟩
    ·exact hm hbt z hz
theorem O8 (x : B8) (m : Int) (h0 : 1 <= m) (h1 : m <= 2000) :
  ∃ b, Ev (fun k => CS.f k x.f0 x.f1 x.f2 x.f3 m) b /\ (b = true -> (BT x : Int) <= m /\ ∀ y ∈ pre x, y.f1.size <= 50000 /\ y.f2.size <= 50000) := by
 have hn := Er x 2001 (by omega) (by omega);have hlen : ((pre x).take (Int.toNat 2001)).length <= 2001 := by rw [Pp]; exact Nat.min_le_left _ _
 obtain ⟨b, hb, hm⟩ := Kl ((pre x).take (Int.toNat 2001)) [] 0 (by omega) (by omega) (by simp; omega);simp only [Pu, Qu] at hb;have hF : Ev (fun k => B4.f k x.f0 x.f1 x.f2 x.f3) b := Ev.bind hn (f := fun k t => B4.l0 k t 0 0) hb;have e1 : Pq (m + 1) = m + 1 := Ik (by omega) (by omega);have hS : Ev (fun k => Bp.f k x.f0 x.f1 x.f2 x.f3 (Pq (m + 1))) (((pre x).take (m + 1).toNat).length : Int) := by
  rw [e1];exact Ev.bind (Er x (m + 1) (by omega) (by omega)) (f := fun k t => some (t.length : Int)) (Ev.pure _)
 cases b with
 | false =>
  refine ⟨BK, Ev.bind hF (f := fun k t => if t = true then ((Bp.f k x.f0 x.f1 x.f2 x.f3 (Pq (m + 1))).bind fun t124 => (some (decide (t124 <= m)))) else (some BK)) (Ev.of fun k => ?_), fun h => by cases h⟩;rw [if_neg (by simp)]
 | true =>
  refine ⟨decide ((((pre x).take (m + 1).toNat).length : Int) <= m), Ev.bind hF (f := fun k t => if t = true then ((Bp.f k x.f0 x.f1 x.f2 x.f3 (Pq (m + 1))).bind fun t124 => (some (decide (t124 <= m)))) else (some BK)) (Ev.congr (Ev.bind hS (f := fun k t => some (decide (t <= m))) (Ev.pure _)) fun k => ?_), fun h => ?_⟩
  ·rw [if_pos rfl]
  ·have h2 := of_decide_eq_true h;rw [Pp, Cm] at h2;have h3 : (BT x : Int) <= m := by omega
   refine ⟨h3, fun y hy => hm rfl y ?_⟩;rw [Ql (by rw [Cm]; omega)];exact hy
def OW (y : B8) : Prop := -9223372036854775808 <= y.f0 /\ y.f0 <= 9223372036854775807
theorem Km {α : Type} {P : Nat -> α -> Prop} (n : Nat) (h : ∀ i, i < n -> ∃ x, P i x) : ∃ l : List α, l.length = n /\ ∀ i x, l[i]? = some x -> P i x := by
 refine ⟨List.ofFn fun i : Fin n => Classical.choose (h i.1 i.2), by simp, fun i x hx => ?_⟩;rw [List.getElem?_ofFn] at hx
 split at hx
 ·rename_i hi;injection hx with hx
  rw [<- hx];exact Classical.choose_spec (h i hi)
 ·cases hx
theorem J1 : ∀ {l : List B8} {y : B8}, y ∈ E1 l -> ∃ k ∈ l, y ∈ pre k
 | [], y, h => by simp [E1] at h
 | k :: r, y, h => by
  simp only [E1, List.mem_append] at h;rcases h with h | h
  ·exact ⟨k, QY, h⟩
  ·obtain ⟨q, hq, hy⟩ := J1 h;exact ⟨q, R9 _ hq, hy⟩
theorem Ko : Try.prog.cellsOf 24 = 4 := by kernel_rfl
theorem Mg : Try.prog.cellsOf 3 = 1 := by kernel_rfl
theorem Mh : Try.prog.cellsOf 9 = 1 := by kernel_rfl
theorem Nk : Try.prog.cellsOf 22 = 1 := by kernel_rfl
theorem Hn {n : Int} (h : (Lit.int .i64 n).wf = true) : -9223372036854775808 <= n /\ n <= 9223372036854775807 := by
 have h1 : (decide (IntKind.i64.min <= n) && decide (n <= IntKind.i64.max)) = true := h;rw [Bool.and_eq_true, decide_eq_true_eq, decide_eq_true_eq] at h1;have e1 : IntKind.i64.min = -9223372036854775808 := by decide
 have e2 : IntKind.i64.max = 9223372036854775807 := by decide
 rw [e1, e2] at h1;exact h1
theorem O9 {H : Type} {enc : Q9 × Pd -> H} {W : Pe} {sp : Nat -> Bool} {hd : Bool} : ∀ (fuel : Nat) (cs : List Pd) (x : DataW H × List SG),
  DataW.trod enc Try.prog W 0 sp hd fuel 24 cs = some x -> ∃ s : B8, AY.K W s cs /\ ∀ y ∈ pre s, OW y := by
 intro fuel
 induction fuel using SV with
 | ind fuel ih =>
  intro cs x h;obtain ⟨xs, n, hfuel, hx, hl, hlen, hf⟩ := DataW.trod_struct Try.underlying24 h;rw [Ko] at hl
  match cs, hl with
  | [c0, c1, c2, c3], _ =>
   match xs, hlen with
   | [y0, y1, y2, y3], _ =>
    have h0 := hf 0 _ rfl;have h1 := hf 1 _ rfl;have h2 := hf 2 _ rfl;have h3 := hf 3 _ rfl;simp only [Mg, Mh, Nk, List.drop_succ_cons, List.drop_zero, List.take_succ_cons, List.take_zero, List.getElem?_cons_zero, List.getElem?_cons_succ] at h0 h1 h2 h3;obtain ⟨a0, e0, _, w0⟩ := DataW.trod_int Try.underlying3 h0;obtain ⟨a1, e1, _, w1⟩ := Sp Try.underlying9 h1;obtain ⟨a2, e2, _, w2⟩ := Sp Try.underlying9 h2;injection e0 with e0; injection e1 with e1; injection e2 with e2
    subst e0 e1 e2;have hin := Hn w0;rcases DataW.trod_slice Try.underlying22 h3 with ⟨e3, _⟩ | ⟨a, len, cap, elems, rest, m, hm, e3, _, hba, hlc, hcm, hel, hget, _, _⟩
    ·injection e3 with e3
     subst e3;refine ⟨⟨a0, a1, a2, []⟩, FE W ⟨a0, a1, a2, []⟩ (Ps 0) ⟨rfl, Qa _, fun h => by simp at h⟩, fun y hy => ?_⟩;simp only [pre, E1, PC] at hy;subst hy;exact hin
    ·injection e3 with e3
     subst e3;have hex : ∀ i, i < len -> ∃ s : B8, ∃ c, W.cells? 0 (a.add (i * 4)) 4 = some c /\ AY.K W s c /\ ∀ y ∈ pre s, OW y := by
      intro i hi;have hg := hget i hi;rw [Ko, Pg (by omega), Q3] at hg;obtain ⟨c, hc, ht⟩ := hg;obtain ⟨s, hs, hp⟩ := ih m (by omega) c _ ht;exact ⟨s, c, hc, hs, hp⟩
     obtain ⟨l, hll, hl⟩ := Km len hex;refine ⟨⟨a0, a1, a2, l⟩, FE W ⟨a0, a1, a2, l⟩ (A3 := some a) (c3 := cap) (by rw [hll]; exact hlc) ⟨rfl, by unfold R7 at hcm; simp only; omega, fun _ => ⟨a, rfl, fun j p hj => ?_⟩⟩ |> fun h => (by simp only [hll] at h; exact h), fun y hy => ?_⟩
     ·obtain ⟨c, hc, hk, _⟩ := hl j p hj;obtain ⟨_, hcl, hcell⟩ := World.cells?_some hc;refine ⟨c, hcl, hk, fun i u hu => ?_⟩;have hi : i < 4 := by have := (Pf.1 hu).1; omega
      have hq := hcell i hi;rw [Ic] at hq;exact hq.trans hu
     ·simp only [pre, Qg] at hy;rcases hy with rfl | hy
      ·exact hin
      ·obtain ⟨q, hq, hy⟩ := J1 hy;obtain ⟨j, hj⟩ := SJ hq;obtain ⟨_, _, _, hp⟩ := hl j q hj;exact hp y hy
theorem OX {v : Pd} {c0 c1 c2 c3 : Pd} (h : v.cells.toList = [c0, c1, c2, c3]) : v = .agg #[c0, c1, c2, c3] := by
 cases v <;> simp [Value.cells] at h;rename_i c
 congr 1
 exact Array.toList_inj.1 h
theorem OH {H : Type} {enc : Q9 × Pd -> H} {W : Pe} {sp : Nat -> Bool} {hd : Bool} {v : Pd} {d : DataW H} {ps : List SG} (h : DataW.Trod enc Try.prog W 0 sp hd 24 v d ps) :
  ∃ (x : B8) (A : Option Addr) (c : Nat), v = .agg #[.int .i64 x.f0, .string x.f1, .string x.f2, .slice A x.f3.length c] /\ x.f3.length <= c /\ AY.C W A x.f3.length x.f3 /\ ∀ y ∈ pre x, OW y := by
 obtain ⟨fuel, hf⟩ := h;obtain ⟨x, hk, hp⟩ := O9 fuel _ _ hf;obtain ⟨A, c, e, hc, hC⟩ := Em hk;exact ⟨x, A, c, OX e, hc, hC, hp⟩
end Go.Proofs.Q
namespace Go.Proofs.Q
open Go Go.RowKit Go.Proofs.V.Words Go.Proofs.V.SL Go.Maps
theorem Mi {a b : Nat} {w w' : Pe} (h : Below b w w') (hab : a <= b) : Below a w w' := ⟨h.os, h.tape, h.output, h.size, fun k hk => h.block k (Nat.lt_of_lt_of_le hk hab)⟩
structure Kn where
 id : Int
 kind : Int
 text : ByteArray
 trail : ByteArray
 par : Option Int
 kids : List Int
structure Hk where
 k : Kn
 v : Pd
def pk (ad : Int -> Nat) (i : Int) : Pd := .pointer (some ⟨ad i, 0, none⟩)
def pp (ad : Int -> Nat) : Option Int -> Pd
 | none => .pointer none
 | some i => pk ad i
def Dc (ad : Int -> Nat) (k : Kn) (v : Pd) : Array Pd := #[.int .i64 k.id, .int .i64 k.kind, .string k.text, .string k.trail, .slice none 0 0, pp ad k.par, v]
def NQ (ad : Int -> Nat) (k : Kn) (v : Pd) : Bj := Bw v 58 1 k.kids.length (k.kids.map (pk ad))
def Jv (ad : Int -> Nat) (h : Hk) : List Bj := [Al (ad h.k.id) 80 (Dc ad h.k h.v), NQ ad h.k h.v]
def F6 (ad : Int -> Nat) (g : List Hk) : List Bj := g.flatMap (Jv ad)
section
variable {ad : Int -> Nat}
theorem Gh : ∀ g : List Hk, (F6 ad g).length = 2 * g.length
 | [] => rfl
 | h :: r => by
  have ih := Gh r;simp only [F6, List.flatMap_cons, PK, PX] at ih ⊢;rw [ih]; simp [Jv]; omega
theorem Kp : ∀ {g : List Hk} {j : Nat} {h : Hk}, g[j]? = some h -> (F6 ad g)[2 * j]? = some (Al (ad h.k.id) 80 (Dc ad h.k h.v))
 | [], j, h, hj => by simp at hj
 | a :: r, 0, h, hj => by
  have : a = h := by simpa using hj
  subst this; rfl
 | a :: r, j + 1, h, hj => by
  have ih := Kp (g := r) (j := j) (h := h) (by simpa using hj);rw [show 2 * (j + 1) = 2 * j + 1 + 1 by omega];exact ih
theorem Kq : ∀ {g : List Hk} {j : Nat} {h : Hk}, g[j]? = some h -> (F6 ad g)[2 * j + 1]? = some (NQ ad h.k h.v)
 | [], j, h, hj => by simp at hj
 | a :: r, 0, h, hj => by
  have : a = h := by simpa using hj
  subst this; rfl
 | a :: r, j + 1, h, hj => by
  have ih := Kq (g := r) (j := j) (h := h) (by simpa using hj);rw [show 2 * (j + 1) + 1 = 2 * j + 1 + 1 + 1 by omega];exact ih
theorem Ks : ∀ (g : List Hk) (j : Nat) (h : Hk), j < g.length -> F6 ad (g.set j h) = ((F6 ad g).set (2 * j) (Al (ad h.k.id) 80 (Dc ad h.k h.v))).set (2 * j + 1) (NQ ad h.k h.v)
 | [], j, h, hj => by simp at hj
 | a :: r, 0, h, hj => rfl
 | a :: r, j + 1, h, hj => by
  have ih := Ks r j h (by simpa using hj);rw [show 2 * (j + 1) = 2 * j + 1 + 1 by omega]
  show Jv ad a ++ F6 ad (r.set j h) = _
  rw [ih]; rfl
theorem Kt (g g' : List Hk) : F6 ad (g ++ g') = F6 ad g ++ F6 ad g' := by simp [F6]
theorem Mj {ad' : Int -> Nat} {g : List Hk} (h : ∀ x ∈ g, ad' x.k.id = ad x.k.id /\ (∀ p, x.k.par = some p -> ad' p = ad p) /\ ∀ i ∈ x.k.kids, ad' i = ad i) : F6 ad' g = F6 ad g := by
 induction g with
 | nil => rfl
 | cons x r ih =>
  obtain ⟨h1, h2, h3⟩ := h x QY;have ih2 := ih (fun y hy => h y (R9 _ hy));have e1 : Jv ad' x = Jv ad x := by
   unfold Jv Dc NQ;have e2 : pp ad' x.k.par = pp ad x.k.par := by
    cases hp : x.k.par with
    | none => rfl
    | some p => show pk ad' p = pk ad p; unfold pk; rw [h2 p hp]
   have e3 : x.k.kids.map (pk ad') = x.k.kids.map (pk ad) := List.map_congr_left (fun i hi => by unfold pk; rw [h3 i hi]);rw [h1, e2, e3]
  show Jv ad' x ++ F6 ad' r = Jv ad x ++ F6 ad r
  rw [e1, ih2]
end
def Oa : Pd -> Option (DataW Unit × List SG)
 | .pointer none => some (.nil, [])
 | .pointer (some ⟨a, 0, none⟩) => some (.lit (.int .i64 (a : Int)), [])
 | _ => none
theorem Ku {v : Pd} {ps : List SG} (h : Oa v = some (.nil, ps)) : v = .pointer none := by
 unfold Oa at h
 split at h
 ·rfl
 ·simp at h
 ·cases h
theorem Mk {v : Pd} {ps : List SG} {a : Nat} (h : Oa v = some (.lit (.int .i64 (a : Int)), ps)) : v = .pointer (some ⟨a, 0, none⟩) := by
 unfold Oa at h
 split at h
 ·simp at h
 ·simp at h; obtain ⟨h, _⟩ := h; have h2 := Int.ofNat.inj h; subst h2; rfl
 ·cases h
theorem Es : Keyed Try.prog 3 := int_keyed Try.underlying3
abbrev LI (i : Int) : Lit := .int .i64 i
def in64 (i : Int) : Prop := -9223372036854775808 <= i /\ i <= 9223372036854775807
theorem P8 {i : Int} (h : in64 i) : (Lit.int .i64 i).wf = true := by
 unfold in64 at h;simp [Lit.wf, IntKind.min, IntKind.max, IntKind.signed, IntKind.bits];omega
theorem KY {i : Int} (h : in64 i) : keyOf Try.prog 3 (.int .i64 i) = some (LI i) := keyOf_int_mk Try.underlying3 (P8 h)
theorem Et (i : Int) : WideAt.IsKeyLit (LI i) := trivial
structure DQ (D : DataW Unit) (ad : Int -> Nat) (ids : List Int) : Prop where
 tidy : Tidy D
 has : ∀ i, Maps.has D (LI i) = decide (i ∈ ids)
 at_ : ∀ i, i ∈ ids -> D.atKey (LI i) .nil = .lit (.int .i64 (ad i : Int))
theorem DQ.nil (ad : Int -> Nat) : DQ (.map []) ad [] := ⟨tidy_empty, fun i => by simp [Maps.has], fun i h => by simp at h⟩
theorem DQ.none_ {D : DataW Unit} {ad : Int -> Nat} {ids : List Int} (h : DQ D ad ids) {i : Int} (hi : i ∉ ids) : D.atKey (LI i) .nil = .nil :=
 atKey_of_not_has (by rw [h.has]; simp [hi]) _
theorem DQ.put {D : DataW Unit} {ad : Int -> Nat} {ids : List Int} (h : DQ D ad ids) {x : Int} {a : Nat} (hx : x ∉ ids) : DQ (D.put (LI x) (.lit (.int .i64 (a : Int)))) (fun i => if i = x then a else ad i) (ids ++ [x]) := by
 refine ⟨h.tidy.put (Et x) _, fun i => ?_, fun i hi => ?_⟩
 ·by_cases hix : i = x
  ·subst hix; rw [has_put_same h.tidy.isMap (Et i)]; simp
  ·rw [has_put_other (fun e => hix (by injection e)), h.has]; simp [hix]
 ·by_cases hix : i = x
  ·subst hix; rw [atKey_put_same h.tidy.isMap (Et i)]; simp
  ·have hi2 : i ∈ ids := by simpa [hix] using hi
   rw [atKey_put_other (fun e => hix (by injection e)), h.at_ i hi2]; simp [hix]
theorem DQ.del {D : DataW Unit} {ad : Int -> Nat} {ids : List Int} (h : DQ D ad ids) (x : Int) : DQ (D.del (LI x)) ad (ids.filter (· ≠ x)) := by
 refine ⟨h.tidy.del _, fun i => ?_, fun i hi => ?_⟩
 ·by_cases hix : i = x
  ·subst hix; rw [has_del_same]; simp
  ·rw [has_del_other (fun e => hix (by injection e)), h.has]; simp [hix]
 ·have hi2 := List.mem_filter.1 hi;have hix : i ≠ x := by simpa using hi2.2
  rw [atKey_del_other (fun e => hix (by injection e)), h.at_ i hi2.1]
def Bg (b m : Nat) (ad : Int -> Nat) (ids : List Int) : Bj :=
  ⟨fun w f => (∀ j, f j ↔ j = b) /\ ∃ D, w.ownsMap Try.prog 3 Oa b m D /\ DQ D ad ids,
   fun h hs => ⟨h.1, by obtain ⟨D, ⟨es, clock, hb, r⟩, q⟩ := h.2; exact ⟨D, ⟨es, clock, (hs _ ((h.1 _).2 rfl)).trans hb, r⟩, q⟩⟩,
   fun h j hj => by rw [(h.1 j).1 hj]; obtain ⟨D, hm, _⟩ := h.2; exact hm.lt⟩
section
variable {w0 w w' : Pe} {Z : Nat -> Prop} {L : List Bj} {F : List FA} {i b m : Nat} {ad : Int -> Nat} {ids : List Int}
theorem Au.at_map (S : Au w0 Z L F w) (hi : L[i]? = some (Bg b m ad ids)) : ∃ D, w.ownsMap Try.prog 3 Oa b m D /\ DQ D ad ids := by
 obtain ⟨f, hf, _⟩ := S.st.hs;obtain ⟨fa, ha, _⟩ := hf.at hi;exact ha.2
theorem Ob (w : Pe) : (zeroValue 58).run Try.prog w = .ok (.pointer none) w := by
 simp
theorem AL (S : Au w0 Z L F w) (i : Nat) (hi : L[i]? = some (Bg b m ad ids)) {x : Int} (hx : in64 x) :
  (SM 59 (.map (some b)) (.int .i64 x) true).run Try.prog w = .ok (.tuple #[if x ∈ ids then pk ad x else .pointer none, .bool (decide (x ∈ ids))]) w := by
 obtain ⟨D, hm, hN⟩ := Au.at_map S hi;obtain ⟨v, ps, hr, hv⟩ := hm.look_ok Es Try.underlying59 (Ob w) (zd := .nil) (zp := []) rfl (KY hx);rw [hr, hN.has x];by_cases h : x ∈ ids
 ·rw [hN.at_ x h] at hv;rw [Mk hv, if_pos h]; rfl
 ·rw [hN.none_ h] at hv;rw [Ku hv, if_neg h]
theorem Ml (S : Au w0 Z L F w) (i : Nat) (hi : L[i]? = some (Bg b m ad ids)) {x : Int} (hx : in64 x) :
  (SM 59 (.map (some b)) (.int .i64 x) BK).run Try.prog w = .ok (if x ∈ ids then pk ad x else .pointer none) w := by
 obtain ⟨D, hm, hN⟩ := Au.at_map S hi;obtain ⟨v, ps, hr, hv⟩ := hm.lookup Es Try.underlying59 (Ob w) (zd := .nil) (zp := []) rfl (KY hx);rw [hr];by_cases h : x ∈ ids
 ·rw [hN.at_ x h] at hv;rw [Mk hv, if_pos h]; rfl
 ·rw [hN.none_ h] at hv;rw [Ku hv, if_neg h]
theorem Gi (S : Au w0 Z L F w) (i : Nat) (hi : L[i]? = some (Bg b m ad ids)) {x : Int} (hx : in64 x) (hn : x ∉ ids) (hm2 : m < R7) (a : Nat) :
  ∃ w', (Instr.mapUpdate 59 (.map (some b)) (.int .i64 x) (.pointer (some ⟨a, 0, none⟩))).run Try.prog w = .ok () w' /\ Au w0 Z (L.set i (Bg b (m + 1) (fun j => if j = x then a else ad j) (ids ++ [x]))) F w' /\ w.mapTurned w' b := by
 obtain ⟨D, hm, hN⟩ := Au.at_map S hi;obtain ⟨w', hr, ho, ht⟩ := hm.store Es Try.underlying59 hm2 (KY hx) (val := .pointer (some ⟨a, 0, none⟩)) rfl;refine ⟨w', hr, S.of (S.st.upd hi (fun f hf => ⟨f, ⟨hf.1, _, ho, hN.put hn⟩, fun j hj => .inl hj, (IJ.of_grown ht.grown).mono (fun j hj => (hf.1 j).2 (by injection hj with hj; exact hj.symm))⟩)), ht⟩
theorem Im (S : Au w0 Z L F w) (i : Nat) (hi : L[i]? = some (Bg b m ad ids)) {x : Int} (hx : in64 x) (ty : Q9) :
  ∃ w', (Builtin.delete_ #[59, 3] ty #[.map (some b), .int .i64 x]).run Try.prog w = .ok (.tuple #[]) w' /\ Au w0 Z (L.set i (Bg b m ad (ids.filter (· ≠ x)))) F w' /\ w.mapTurned w' b := by
 obtain ⟨D, hm, hN⟩ := Au.at_map S hi;obtain ⟨w', hr, ho, ht⟩ := hm.drop Es Try.underlying59 (KY hx) ty;refine ⟨w', hr, S.of (S.st.upd hi (fun f hf => ⟨f, ⟨hf.1, _, ho, hN.del x⟩, fun j hj => .inl hj, (IJ.of_grown ht.grown).mono (fun j hj => (hf.1 j).2 (by injection hj with hj; exact hj.symm))⟩)), ht⟩
theorem Nl (S : Au w0 Z L F w) (ad : Int -> Nat) : Au w0 Z (Bg w.heap.size 0 ad [] :: L) F (w.alloc (.map #[] 0)) :=
 S.more (a := Bg w.heap.size 0 ad []) (f := fun j => j = w.heap.size) (Ah (Pn _ _) _) ⟨fun _ => RY, _, World.ownsMap_made w Try.prog 3 Oa, DQ.nil ad⟩ (fun j hj => Nat.le_of_eq hj.symm)
end
end Go.Proofs.Q
namespace Go.Proofs
open Go.Shelf
def Try.lay6_ren : Go.Shelf.Ren := ⟨fun | 6 => 42 | n => n, fun | 22 => 78 | 23 => 58 | 25 => 83 | 3 => 3 | 0 => 0 | 4 => 4 | n => n, fun | n => n⟩
theorem Try.lay6 : Go.Proofs.SlLaysH.n6 Try.prog Try.lay6_ren := {
 mixed := by kernel_rfl
 f6 := ⟨Try.f42.name, by decide, Try.func42.trans (congrArg some (by kernel_rfl))⟩
 t0 := Try.underlying0
 a0 := Try.isAgg0
 z0 := Try.sizeOf0
 v0 := Try.zeroValue0
 t3 := Try.underlying3
 a3 := Try.isAgg3
 z3 := Try.sizeOf3
 v3 := Try.zeroValue3
 t4 := Try.underlying4
 a4 := Try.isAgg4
 z4 := Try.sizeOf4
 v4 := Try.zeroValue4
 t22 := Try.underlying78
 a22 := Try.isAgg78
 z22 := Try.sizeOf78
 v22 := Try.zeroValue78
 a23 := Try.isAgg58
 z23 := Try.sizeOf58
 t25 := Try.underlying83
 a25 := Try.isAgg83
 z25 := Try.sizeOf83
 v25 := Try.zeroValue83 }
def Try.lay10_ren : Go.Shelf.Ren := ⟨fun | 10 => 45 | 6 => 42 | n => n, fun | 22 => 78 | 23 => 58 | 25 => 83 | 3 => 3 | 4 => 4 | 0 => 0 | n => n, fun | n => n⟩
theorem Try.lay10 : Go.Proofs.SlLaysH.n10 Try.prog Try.lay10_ren := {
 mixed := by kernel_rfl
 f6 := ⟨Try.f42.name, by decide, Try.func42.trans (congrArg some (by kernel_rfl))⟩
 f10 := ⟨Try.f45.name, by decide, Try.func45.trans (congrArg some (by kernel_rfl))⟩
 t0 := Try.underlying0
 a0 := Try.isAgg0
 z0 := Try.sizeOf0
 v0 := Try.zeroValue0
 t3 := Try.underlying3
 a3 := Try.isAgg3
 z3 := Try.sizeOf3
 v3 := Try.zeroValue3
 t4 := Try.underlying4
 a4 := Try.isAgg4
 z4 := Try.sizeOf4
 v4 := Try.zeroValue4
 t22 := Try.underlying78
 a22 := Try.isAgg78
 z22 := Try.sizeOf78
 v22 := Try.zeroValue78
 a23 := Try.isAgg58
 z23 := Try.sizeOf58
 t25 := Try.underlying83
 a25 := Try.isAgg83
 z25 := Try.sizeOf83
 v25 := Try.zeroValue83 }
end Go.Proofs
namespace Go.Proofs.Q
open Go Go.RowKit Go.Lib Go.Sort Go.Proofs.V.Words Go.Proofs.V.Last Go.Proofs.V.More Go.Proofs.V.SL
attribute [local go_sem] BI BJ BY BZ Bu Bv BL BM
def gc43.T1 : Bool × List (List Nat × List Nat) := (true, [([], []), ([0], [0]), ([1], [1]), ([2], [2]), ([], []), ([3, 4], [3, 4]), ([5, 0, 1, 2, 3, 4, 5], [5])])
def gc43.B1 : List Nat := [0, 1, 3, 7, 0, 31, 63]
theorem gc43.tab1 : Cd .any (DP Try.f43 1) = gc43.T1 := by kernel_rfl
theorem gc43.bits1 : C0 gc43.T1.2 gc43.B1 = true := by kernel_rfl
def C4 (i : Int) : List Int -> Nat -> Int
 | [], _ => -1
 | x :: r, n => if x = i then (n : Int) else C4 i r (n + 1)
def AO (l : List Int) (i : Int) : Int := C4 i l 0
theorem Fm (i : Int) : ∀ (l : List Int) (n : Nat), -1 <= C4 i l n /\ C4 i l n < ((n + l.length : Nat) : Int)
 | [], n => by simp [C4]; omega
 | x :: r, n => by
  have ih := Fm i r (n + 1);unfold C4
  split
  ·simp only [PX]; omega
  ·simp only [PX]; omega
theorem Ho (i : Int) : ∀ (l : List Int) (n : Nat), 0 <= C4 i l n ↔ i ∈ l
 | [], n => by simp [C4]
 | x :: r, n => by
  have ih := Ho i r (n + 1);unfold C4
  split
  ·rename_i h; subst h; simp
  ·rename_i h; rw [ih]; simp [Ry h]
theorem DL (l : List Int) (i : Int) : -1 <= AO l i /\ AO l i < (l.length : Int) := by have := Fm i l 0; unfold AO; omega
theorem Cz (l : List Int) (i : Int) : 0 <= AO l i ↔ i ∈ l := Ho i l 0
theorem Nm (x i : Int) (ax bx : Nat) (W : Pe) (hx0 : W.cell? ⟨ax, 0, none⟩ = some (.int .i64 x)) (hx1 : W.cell? ⟨bx, 0, none⟩ = some (.int .i64 i)) :
  FnGives Try.prog 43 #[.pointer (some ⟨bx, 0, none⟩)] #[.pointer (some ⟨ax, 0, none⟩)] (.bool (decide (x = i))) W := by
 show PJ Try.prog 43 #[.pointer (some ⟨ax, 0, none⟩), .pointer (some ⟨bx, 0, none⟩)] W _
 have HX := A7.mk (⟨hx0, hx1⟩ : _ /\ _);by_cases hxi : x = i
 ·have hb0 : (x == i) = true := by rw [beq_iff_eq]; exact hxi
  rw [decide_eq_true hxi];replace hxi := A7.mk hxi;go_enter Try.func43, Try.ntmps43
  go_upto_region 1 with (fail)
  replace hx0 : W.drew.cell? ⟨ax, 0, none⟩ = some (.int .i64 x) := hx0;replace hx1 : W.drew.cell? ⟨bx, 0, none⟩ = some (.int .i64 i) := hx1
  try go_wp2
  have E := trivial;refine Cu (n := 7) (S := fun w' => True) (ds := []) #[BK, BK, BK, BK, BK, BK, BK] (by kernel_rfl) rfl rfl trivial (fun hHeld => ?_);refine BQ gc43.tab1 gc43.bits1 (fun HT_ HW_ => ?_);have E := trivial;generalize hwd : W.drew = wd at hx0 hx1 hHeld ⊢;refine AM (i := 0) (N := some 4) (v := ?_) (a' := ?_) #[true, BK, BK, BK, BK, BK, BK] rfl rfl (AA HT_.out (by kernel_rfl)) (fun _ _ _ h => h) (PD ⟨by rfl, ?_⟩) ?_ ?_;rotate_left
  ·intro w';go_simp
   with_reducible rfl
  rotate_left
  ·simp only [Ph, GW, Pa, NB, Ar, AB];rfl
  refine AM (i := 1) (N := some 5) (v := ?_) (a' := ?_) #[true, true, BK, BK, BK, BK, BK] rfl rfl (AA HT_.out (by kernel_rfl)) (fun _ _ _ h => h) (PD ⟨by rfl, ?_⟩) ?_ ?_;rotate_left
  ·intro w';go_simp
   with_reducible rfl
  rotate_left
  ·simp only [Ph, GW, Pa, NB, Ar, AB];rfl
  refine AM (i := 2) (N := some 6) (v := ?_) (a' := ?_) #[true, true, true, BK, BK, BK, BK] rfl rfl (AA HT_.out (by kernel_rfl)) (fun _ _ _ h => h) (PD ⟨by rfl, ?_⟩) ?_ ?_;rotate_left
  ·intro w';go_simp
   with_reducible rfl
  rotate_left
  ·simp only [Ph, GW, Pa, NB, Ar, AB];rfl
  refine DY [3, 4, 5, 6] (fun a0_ b a w' => a = Bm a0_ b [(3, 7, .int .i64 x), (4, 8, .int .i64 i), (5, 9, .bool true), (6, 3, .bool true)] /\ (w' = wd)) HT_.out HW_.out (by kernel_rfl) (by kernel_rfl) ?_ ?_ ?_
  ·exact ⟨by simp only [Bm, R5, if_false], rfl⟩
  ·skip
   clear E;refine Am ?_ ?_
   ·rintro b a w' ⟨ha, Q_E⟩ hb_ hon hoff;refine ⟨_, rfl, fun K hK => ?_⟩;have e6 : a.tmps[6]? = some (.pointer (some ⟨ax, 0, none⟩)) := by rw [ha]; exact (AU rfl).trans rfl
    replace ha := A7.mk ha;have E := A7.mk Q_E;have hw_ := E.out;have hc_ := hx0;rw [<- hw_] at hc_;refine Be (w1 := w') (v := .int .i64 x) (by rfl) rfl ?_ ?_
    ·go_simp
     (try simp only [Ar])
     try rfl
    refine hK.out _ _ ⟨(by rw [ha.out]; exact At 0 hb_ rfl rfl rfl), Q_E⟩
   refine Am ?_ ?_
   ·rintro b a w' ⟨ha, Q_E⟩ hb_ hon hoff;refine ⟨_, rfl, fun K hK => ?_⟩;have e1 : a.tmps[1]? = some (.pointer (some ⟨bx, 0, none⟩)) := by rw [ha]; exact (AU rfl).trans rfl
    replace ha := A7.mk ha;have E := A7.mk Q_E;have hw_ := E.out;have hc_ := hx1;rw [<- hw_] at hc_;refine Be (w1 := w') (v := .int .i64 i) (by rfl) rfl ?_ ?_
    ·go_simp
     (try simp only [Ar])
     try rfl
    refine hK.out _ _ ⟨(by rw [ha.out]; exact At 1 hb_ rfl rfl rfl), Q_E⟩
   refine Am ?_ ?_
   ·rintro b a w' ⟨ha, Q_E⟩ hb_ hon hoff;refine ⟨_, rfl, fun K hK => ?_⟩;have e7 : a.tmps[7]? = some (.int .i64 x) := by rw [ha]; exact Ax (e := (3, 7, .int .i64 x)) 0 rfl rfl (hon 3 (by kernel_rfl)) rfl
    have e8 : a.tmps[8]? = some (.int .i64 i) := by rw [ha]; exact Ax (e := (4, 8, .int .i64 i)) 1 rfl rfl (hon 4 (by kernel_rfl)) rfl
    replace ha := A7.mk ha;have E := A7.mk Q_E;refine Be (w1 := w') (v := .bool true) (by rfl) rfl ?_ ?_
    ·go_simp
     (try simp only [Ar])
     try rfl
    refine hK.out _ _ ⟨(by rw [ha.out]; exact At 2 hb_ rfl rfl rfl), Q_E⟩
   refine Am ?_ ?_
   ·rintro b a w' ⟨ha, Q_E⟩ hb_ hon hoff;refine ⟨_, rfl, fun K hK => ?_⟩;have e9 : a.tmps[9]? = some (.bool true) := by rw [ha]; exact Ax (e := (5, 9, .bool true)) 2 rfl rfl (hon 5 (by kernel_rfl)) rfl
    replace ha := A7.mk ha;have E := A7.mk Q_E;refine Be (w1 := w') (v := .bool true) (by rfl) rfl ?_ ?_
    ·go_simp
     (try simp only [Ar])
     try rfl
    refine hK.out _ _ ⟨(by rw [ha.out]; exact At 3 hb_ rfl rfl rfl), Q_E⟩
   exact CB
  ·rintro b a w' hall ⟨ha, Q_E⟩;clear E;have hb3_ := hall 3 (by kernel_rfl);have hb4_ := hall 4 (by kernel_rfl);have hb5_ := hall 5 (by kernel_rfl);have hb6_ := hall 6 (by kernel_rfl);subst ha;simp only [Bm, hb3_, hb4_, hb5_, hb6_, if_true, Ph, GW, Pa, NB];have E := A7.mk Q_E;clear Q_E;clear hall hb3_ hb4_ hb5_ hb6_;have hw_ := E.out;subst hw_;go_wp2
   go_ret
   exact ⟨rfl, 1, by first | rfl | (rw [<- hwd]; rfl)⟩
 ·have hb0 : (x == i) = BK := by rw [beq_eq_false_iff_ne]; exact hxi
  rw [decide_eq_false hxi];replace hxi := A7.mk hxi;go_enter Try.func43, Try.ntmps43
  go_upto_region 1 with (fail)
  replace hx0 : W.drew.cell? ⟨ax, 0, none⟩ = some (.int .i64 x) := hx0;replace hx1 : W.drew.cell? ⟨bx, 0, none⟩ = some (.int .i64 i) := hx1
  try go_wp2
  have E := trivial;refine Cu (n := 7) (S := fun w' => True) (ds := []) #[BK, BK, BK, BK, BK, BK, BK] (by kernel_rfl) rfl rfl trivial (fun hHeld => ?_);refine BQ gc43.tab1 gc43.bits1 (fun HT_ HW_ => ?_);have E := trivial;generalize hwd : W.drew = wd at hx0 hx1 hHeld ⊢;refine AM (i := 0) (N := some 4) (v := ?_) (a' := ?_) #[true, BK, BK, BK, BK, BK, BK] rfl rfl (AA HT_.out (by kernel_rfl)) (fun _ _ _ h => h) (PD ⟨by rfl, ?_⟩) ?_ ?_;rotate_left
  ·intro w';go_simp
   with_reducible rfl
  rotate_left
  ·simp only [Ph, GW, Pa, NB, Ar, AB];rfl
  refine AM (i := 1) (N := some 5) (v := ?_) (a' := ?_) #[true, true, BK, BK, BK, BK, BK] rfl rfl (AA HT_.out (by kernel_rfl)) (fun _ _ _ h => h) (PD ⟨by rfl, ?_⟩) ?_ ?_;rotate_left
  ·intro w';go_simp
   with_reducible rfl
  rotate_left
  ·simp only [Ph, GW, Pa, NB, Ar, AB];rfl
  refine AM (i := 2) (N := some 6) (v := ?_) (a' := ?_) #[true, true, true, BK, BK, BK, BK] rfl rfl (AA HT_.out (by kernel_rfl)) (fun _ _ _ h => h) (PD ⟨by rfl, ?_⟩) ?_ ?_;rotate_left
  ·intro w';go_simp
   with_reducible rfl
  rotate_left
  ·simp only [Ph, GW, Pa, NB, Ar, AB];rfl
  refine DY [3, 4, 5, 6] (fun a0_ b a w' => a = Bm a0_ b [(3, 7, .int .i64 x), (4, 8, .int .i64 i), (5, 9, .bool BK), (6, 3, .bool BK)] /\ (w' = wd)) HT_.out HW_.out (by kernel_rfl) (by kernel_rfl) ?_ ?_ ?_
  ·exact ⟨by simp only [Bm, R5, if_false], rfl⟩
  ·skip
   clear E;refine Am ?_ ?_
   ·rintro b a w' ⟨ha, Q_E⟩ hb_ hon hoff;refine ⟨_, rfl, fun K hK => ?_⟩;have e6 : a.tmps[6]? = some (.pointer (some ⟨ax, 0, none⟩)) := by rw [ha]; exact (AU rfl).trans rfl
    replace ha := A7.mk ha;have E := A7.mk Q_E;have hw_ := E.out;have hc_ := hx0;rw [<- hw_] at hc_;refine Be (w1 := w') (v := .int .i64 x) (by rfl) rfl ?_ ?_
    ·go_simp
     (try simp only [Ar])
     try rfl
    refine hK.out _ _ ⟨(by rw [ha.out]; exact At 0 hb_ rfl rfl rfl), Q_E⟩
   refine Am ?_ ?_
   ·rintro b a w' ⟨ha, Q_E⟩ hb_ hon hoff;refine ⟨_, rfl, fun K hK => ?_⟩;have e1 : a.tmps[1]? = some (.pointer (some ⟨bx, 0, none⟩)) := by rw [ha]; exact (AU rfl).trans rfl
    replace ha := A7.mk ha;have E := A7.mk Q_E;have hw_ := E.out;have hc_ := hx1;rw [<- hw_] at hc_;refine Be (w1 := w') (v := .int .i64 i) (by rfl) rfl ?_ ?_
    ·go_simp
     (try simp only [Ar])
     try rfl
    refine hK.out _ _ ⟨(by rw [ha.out]; exact At 1 hb_ rfl rfl rfl), Q_E⟩
   refine Am ?_ ?_
   ·rintro b a w' ⟨ha, Q_E⟩ hb_ hon hoff;refine ⟨_, rfl, fun K hK => ?_⟩;have e7 : a.tmps[7]? = some (.int .i64 x) := by rw [ha]; exact Ax (e := (3, 7, .int .i64 x)) 0 rfl rfl (hon 3 (by kernel_rfl)) rfl
    have e8 : a.tmps[8]? = some (.int .i64 i) := by rw [ha]; exact Ax (e := (4, 8, .int .i64 i)) 1 rfl rfl (hon 4 (by kernel_rfl)) rfl
    replace ha := A7.mk ha;have E := A7.mk Q_E;refine Be (w1 := w') (v := .bool BK) (by rfl) rfl ?_ ?_
    ·go_simp
     (try simp only [Ar])
     try rfl
    refine hK.out _ _ ⟨(by rw [ha.out]; exact At 2 hb_ rfl rfl rfl), Q_E⟩
   refine Am ?_ ?_
   ·rintro b a w' ⟨ha, Q_E⟩ hb_ hon hoff;refine ⟨_, rfl, fun K hK => ?_⟩;have e9 : a.tmps[9]? = some (.bool BK) := by rw [ha]; exact Ax (e := (5, 9, .bool BK)) 2 rfl rfl (hon 5 (by kernel_rfl)) rfl
    replace ha := A7.mk ha;have E := A7.mk Q_E;refine Be (w1 := w') (v := .bool BK) (by rfl) rfl ?_ ?_
    ·go_simp
     (try simp only [Ar])
     try rfl
    refine hK.out _ _ ⟨(by rw [ha.out]; exact At 3 hb_ rfl rfl rfl), Q_E⟩
   exact CB
  ·rintro b a w' hall ⟨ha, Q_E⟩;clear E;have hb3_ := hall 3 (by kernel_rfl);have hb4_ := hall 4 (by kernel_rfl);have hb5_ := hall 5 (by kernel_rfl);have hb6_ := hall 6 (by kernel_rfl);subst ha;simp only [Bm, hb3_, hb4_, hb5_, hb6_, if_true, Ph, GW, Pa, NB];have E := A7.mk Q_E;clear Q_E;clear hall hb3_ hb4_ hb5_ hb6_;have hw_ := E.out;subst hw_;go_wp2
   go_ret
   exact ⟨rfl, 1, by first | rfl | (rw [<- hwd]; rfl)⟩
theorem Hp {α : Type} (f : α -> Int) (i : Int) (d : α) : ∀ (l : List α) (n : Nat), Lib.idxByFrom (fun _ y => decide (f y = i)) d l n = C4 i (l.map f) n
 | [], n => rfl
 | x :: r, n => by
  have ih := Hp f i d r (n + 1);unfold Lib.idxByFrom;rw [Py];unfold C4;rw [ih];by_cases h : f x = i <;> simp [h]
theorem OY : ∀ args w, (callFunc 43 args).run Try.prog w = .ok (.enter 43 args) w := enters_of Try.func43 (by kernel_rfl) rfl
theorem OZ : ∀ args w, (callFunc 46 args).run Try.prog w = .ok (.enter 46 args) w := enters_of Try.func46 (by kernel_rfl) rfl
theorem J2 (w : Pe) (q : Nat) : Below w.heap.size w (w.drewN q) := ⟨rfl, rfl, rfl, Ps _, fun _ _ => rfl⟩
theorem JE (ad : Int -> Nat) (l : List Int) (v : Pd) (i : Int) (bx : Nat) (w : Pe) (hr : w.ownsRow 0 58 1 v l.length (l.map (pk ad))) (hk : ∀ x ∈ l, w.cell? ⟨ad x, 0, none⟩ = some (.int .i64 x)) (hb : w.cell? ⟨bx, 0, none⟩ = some (.int .i64 i)) :
  PJ Try.prog 42 #[v, .func (.func 43) #[] #[.pointer (some ⟨bx, 0, none⟩)]] w fun e w' => e = .returned (.int .i64 (AO l i)) /\ ∃ q, w' = w.drewN q := by
 rcases hr.2 with ⟨rfl, h0⟩ | ⟨g, cap, cur, rfl, _, hg, hnc, hcm, hcs, ht⟩
 ·have hl : l = [] := Sy.1 h0;subst hl;exact (AnyE.slices_IndexFunc_empty Try.lay6 none 0 _ w).mono (fun e w' ⟨h1, h2⟩ => ⟨h1, 0, h2⟩)
 ·by_cases hl : l = []
  ·subst hl;exact (AnyE.slices_IndexFunc_empty Try.lay6 _ cap _ w).mono (fun e w' ⟨h1, h2⟩ => ⟨h1, 0, h2⟩)
  ·obtain ⟨x0, hx0⟩ := List.exists_mem_of_ne_nil l hl
   haveI : Inhabited {x : Int // x ∈ l} := ⟨⟨x0, hx0⟩⟩
   have hcap : l.length <= 9223372036854775807 := by simp only [R7] at hcm; omega
   have h := AnyE.slices_IndexFunc Try.lay6 (fun x : {x : Int // x ∈ l} => pk ad x.1) (fun y => decide (y.1 = i)) 43 #[.pointer (some ⟨bx, 0, none⟩)] OY g 0 l.length cap l.attach w
    (fun W x hB => Nm x.1 i (ad x.1) bx W ((hB.cell (Pb _ _ (hk x.1 x.2))).trans (hk x.1 x.2)) ((hB.cell (Pb _ _ hb)).trans hb))
    (by simp) hcap (fun j hj => by
     have hj2 : j < l.length := by simpa using hj
     have e1 : (l.attach[j]!).1 = l[j] := by rw [getElem!_pos l.attach j hj]; simp
     rw [R1, Aa hg j];have hc : (l.map (pk ad))[j]? = some (pk ad l[j]) := by rw [PU, Pg hj2]; rfl
     rw [<- ht, PW, if_pos (by omega)] at hc;have hc2 : cur[j]? = some (pk ad l[j]) := by simpa using hc
     rw [hc2, <- e1])
   refine h.mono ?_;rintro e w' ⟨rfl, hq⟩;refine ⟨?_, hq⟩;have e2 : l.attach.take l.length = l.attach := Ql (by simp);rw [e2];unfold Lib.idxBy AO;rw [Hp (fun y : {x : Int // x ∈ l} => y.1)];simp
theorem Bq (ad : Int -> Nat) (k : Kn) (v : Pd) (i : Int) (w : Pe) (hb : w.heap[ad k.id]? = some (.cells (Dc ad k v) 80 (0, 0))) (hr : w.ownsRow 0 58 1 v k.kids.length (k.kids.map (pk ad))) (hk : ∀ x ∈ k.kids, w.cell? ⟨ad x, 0, none⟩ = some (.int .i64 x)) :
  PJ Try.prog 29 #[pk ad k.id, .int .i64 i] w fun e w' => e = .returned (.int .i64 (AO k.kids i)) /\ Below w.heap.size w w' := by
 have BA : Below w.heap.size w (w.alloc (.cells #[.int .i64 i] 3)) := Ah (Pn _ _) _;have h6 : (w.alloc (.cells #[.int .i64 i] 3)).cell? ⟨ad k.id, 6, none⟩ = some v := by
  rw [Aa (show (w.alloc (.cells #[.int .i64 i] 3)).heap[ad k.id]? = some (.cells (Dc ad k v) 80 (0, 0)) from (BA.block _ (BG hb)).trans hb) 6]; rfl
 have hI := JE ad k.kids v i w.heap.size (w.alloc (.cells #[.int .i64 i] 3)) (Fe hr (fun j hj => BA.block j (Fz hr j hj))) (fun x hx => (BA.cell (Pb _ _ (hk x hx))).trans (hk x hx)) (by rw [Aa (Pv w _) 0]; rfl);have HA := A7.mk (⟨hI, BA⟩ : _ /\ _);obtain ⟨R, hR⟩ : ∃ R, AO k.kids i = R := ⟨_, rfl⟩;rw [hR] at HA ⊢;clear hb hr hk BA hI;unfold pk;obtain ⟨a, ha⟩ : ∃ a, ad k.id = a := ⟨_, rfl⟩;rw [ha] at h6 ⊢;clear ha hR;go_enter Try.func29, Try.ntmps29
 go_wp2_with (go_at_call 42; refine HA.out.1.mono ?_; rintro e_ w_ ⟨rfl, q, rfl⟩)
 go_ret
 exact ⟨rfl, HA.out.2.trans (Mi (J2 _ q) (by simp))⟩
theorem FY {α : Type} [Inhabited α] {enc : α -> Pd} {w : Pe} {g e : Nat} {cur : Array Pd} (hg : w.heap[g]? = some (.cells cur e (0, 0))) (d : Array α) :
  (putRow enc w g 0 d).heap[g]? = some (.cells (putCells enc 0 d cur) e (0, 0)) /\ ∀ k, k ≠ g -> (putRow enc w g 0 d).heap[k]? = w.heap[k]? := by
 unfold putRow mapBlock;refine ⟨?_, fun k hk => ?_⟩
 ·simp only [SC, if_true, hg]; rfl
 ·simp only [SC]; rw [if_neg (Ry hk)]
theorem Hc {α : Type} [Inhabited α] {enc : α -> Pd} (d : Array α) (cur : Array Pd) (m : Nat) (h1 : m <= d.size) (h2 : d.size <= cur.size) : (putCells enc 0 d cur).toList.take m = (d.toList.take m).map enc := by
 apply List.ext_getElem?;intro k;rw [PU, PW, PW]
 split
 ·rename_i hk;have hkd : k < d.size := by omega
  have hkc : k < cur.size := by omega
  unfold putCells;simp only [Array.getElem?_toList, Array.getElem?_mapIdx];rw [Sv hkc, Sv hkd];simp only [Option.map_some];rw [if_pos (by omega)]
  congr 2
  rw [Nat.sub_zero, getElem!_pos d k hkd]
 ·rfl
theorem Hd {α : Type} [Inhabited α] {enc : α -> Pd} (d : Array α) (cur : Array Pd) : (putCells enc 0 d cur).size = cur.size := by unfold putCells; simp
theorem Oc : (Try.prog.info? 80).map (fun i => i.size) = some 7 := by kernel_rfl
theorem Mm {W : Pe} {a b : Nat} {ca cb : Array Pd} {ta tb : Q9} (ha : W.heap[a]? = some (.cells ca ta (0, 0))) (hb : W.heap[b]? = some (.cells cb tb (0, 0))) :
  (binOp .eql 58 (.pointer (some ⟨a, 0, none⟩)) (.pointer (some ⟨b, 0, none⟩))).run Try.prog W = .ok (.bool (decide (a = b))) W := by
 obtain ⟨j, hj, hs⟩ := Qb.1 Oc;by_cases h : a = b
 ·subst h;rw [decide_eq_true rfl];exact run_eql_ptr_same W _ Try.underlying58 hj
 ·rw [decide_eq_false h];exact run_eql_ptr_other W Try.underlying58 hj (by rw [hs]; decide) (fun e => h (by injection e)) ha hb
theorem Nn {W : Pe} (b : Addr) : (binOp .eql 58 (.pointer none) (.pointer (some b))).run Try.prog W = .ok (.bool BK) W := by
 have h : ∀ d : Nat, (Op.equalIn (d + 1) 58 (.pointer none) (.pointer (some b))).run Try.prog W = .ok BK W := fun d => by
  simp [Op.equalIn, run_underlying Try.underlying58]
 simp only [binOp];simp [Op.equal, Op.maxDepth, h 9999]
def oP : Option Nat -> Pd
 | none => .pointer none
 | some a => .pointer (some ⟨a, 0, none⟩)
def Mn (W : Pe) (a : Nat) : Prop := ∃ c t, W.heap[a]? = some (.cells c t (0, 0))
theorem Kv (y : Option Nat) (a : Nat) (bx : Nat) (W : Pe) (hx1 : W.cell? ⟨bx, 0, none⟩ = some (.pointer (some ⟨a, 0, none⟩))) (ha : Mn W a) (hy : ∀ b, y = some b -> Mn W b) :
  FnGives Try.prog 46 #[.pointer (some ⟨bx, 0, none⟩)] #[oP y] (.bool (decide (y = some a))) W := by
 show PJ Try.prog 46 #[oP y, .pointer (some ⟨bx, 0, none⟩)] W _
 obtain ⟨ca, ta, ha⟩ := ha;cases y with
 | none =>
  show PJ Try.prog 46 #[.pointer none, .pointer (some ⟨bx, 0, none⟩)] W _
  have hq := Nn (W := W) ⟨a, 0, none⟩;clear ha hy;go_enter Try.func46, Try.ntmps46;go_wp2
  go_ret
  exact ⟨rfl, 0, rfl⟩
 | some b =>
  show PJ Try.prog 46 #[.pointer (some ⟨b, 0, none⟩), .pointer (some ⟨bx, 0, none⟩)] W _
  obtain ⟨cb, tb, hb⟩ := hy b rfl;have hq := Mm hb ha;have e : decide (some b = some a) = decide (b = a) := by simp
  rw [e];obtain ⟨r, hr⟩ : ∃ r, decide (b = a) = r := ⟨_, rfl⟩;rw [hr] at hq ⊢;clear e hr ha hb hy;go_enter Try.func46, Try.ntmps46;go_wp2
  go_ret
  exact ⟨rfl, 0, rfl⟩
theorem JF {α : Type} (l : List α) (q : α -> Bool) : (l.attach.filter (fun y => q y.1)).map (·.1) = l.filter q := by
 have h : l.filter q = (l.attach.map (·.1)).filter q := by rw [List.attach_map_subtype_val]
 rw [h, List.filter_map]; rfl
theorem Gx {α : Type} [Inhabited α] {enc : α -> Pd} {w : Pe} {g n : Nat} {dk : Array α} {os : Array Obj} {cur : Array Pd} {e : Nat} (hg : w.heap[g]? = some (.cells cur e (0, 0))) {k : Nat} (hk : k ≠ g) (hl : k < w.heap.size) : (sortWorld enc w g 0 n dk os).heap[k]? = w.heap[k]? := by
 unfold sortWorld;have hs : k < (putRow enc (Sort.ahead w n) g 0 dk).heap.size := by rw [size_putRow]; exact hl
 rw [Sort.heap_grow_old _ os hs];exact (FY (w := Sort.ahead w n) hg dk).2 k hk
theorem JG {ad : Int -> Nat} {w0 w : Pe} {Z : Nat -> Prop} {L : List Bj} {F : List FA} {v : Pd} {l : List Int} (S : Au w0 Z L F w) (i : Nat) (hi : L[i]? = some (Bw v 58 1 l.length (l.map (pk ad)))) (x : Int) (hx : x ∈ l) (bx : Nat)
  (hb : w.cell? ⟨bx, 0, none⟩ = some (pk ad x)) (hne : ∀ k, v.ownBlock = some k -> bx ≠ k /\ ∀ y ∈ l, ad y ≠ k) (hpl : ∀ y ∈ l, Mn w (ad y)) :
  PJ Try.prog 45 #[v, .func (.func 46) #[] #[.pointer (some ⟨bx, 0, none⟩)]] w fun e w' => ∃ v', e = .returned v' /\ Au w0 Z (L.set i (Bw v' 58 1 (l.filter fun y => !decide (ad y = ad x)).length ((l.filter fun y => !decide (ad y = ad x)).map (pk ad)))) F w' := by
 have ho : w.ownsRow 0 58 1 v l.length (l.map (pk ad)) := S.rowAt i hi;rcases ho.2 with ⟨rfl, h0⟩ | ⟨g, cap, cur, rfl, _, hg, hnc, hcm, hcs, ht⟩
 ·have hl : l = [] := Sy.1 h0;subst hl; simp at hx
 ·have hbg : bx ≠ g := (hne g rfl).1;have hag := (hne g rfl).2;have hbs : bx < w.heap.size := Pb _ _ hb;have hcap : l.length <= 9223372036854775807 := by simp only [R7] at hcm; omega
  have hlt : ∀ y ∈ l, ad y < w.heap.size := fun y hy => by obtain ⟨c, t, h⟩ := hpl y hy; exact BG h
  let enc : Option {y : Int // y ∈ l} -> Pd := fun o => oP (o.map fun y => ad y.1)
  have hone : OneCell enc := by intro o; cases o <;> rfl
  let p : Option {y : Int // y ∈ l} -> Bool := fun o => decide (o.map (fun y => ad y.1) = some (ad x))
  have hH : Holds enc w g 0 (l.attach.map some).toArray := by
   intro j hj;have hj2 : j < l.length := by simpa using hj
   refine ⟨?_, Ad hg _⟩;rw [R1, Aa hg j];have hc : (l.map (pk ad))[j]? = some (pk ad l[j]) := by rw [PU, Pg hj2]; rfl
   rw [<- ht, PW, if_pos (by omega)] at hc;have hc2 : cur[j]? = some (pk ad l[j]) := by simpa using hc
   rw [hc2, getElem!_pos _ j hj];simp [enc]; rfl
  have h := AnyE.slices_DeleteFunc Try.lay10 enc hone p 46 #[.pointer (some ⟨bx, 0, none⟩)] OZ none Ob g 0 cap (l.attach.map some).toArray w
   (fun W o hB => Kv (o.map fun y => ad y.1) (ad x) bx W ((hB.cell (p := ⟨bx, 0, none⟩) hbs).trans hb) (by obtain ⟨c, t, h⟩ := hpl x hx; exact ⟨c, t, (hB.block _ (BG h)).trans h⟩)
    (fun b hob => by
     obtain ⟨y, rfl, rfl⟩ := Qb.1 hob;obtain ⟨c, t, h⟩ := hpl y.1 y.2; exact ⟨c, t, (hB.block _ (BG h)).trans h⟩))
   (fun n os dk o _ => Kv (o.map fun y => ad y.1) (ad x) bx _ (by
    unfold sortWorld;rw [cell?_grow _ _ _ (by show bx < (putRow _ _ _ _ _).heap.size; rw [size_putRow]; exact hbs), cell?_putRow_other _ _ g 0 _ _ (PD hbg)];exact hb) (by obtain ⟨c, t, h⟩ := hpl x hx; exact ⟨c, t, (Gx hg (hag x hx) (BG h)).trans h⟩)
    (fun b hob => by
     obtain ⟨y, rfl, rfl⟩ := Qb.1 hob;obtain ⟨c, t, h⟩ := hpl y.1 y.2; exact ⟨c, t, (Gx hg (hag y.1 y.2) (BG h)).trans h⟩))
   hH (by simpa using hcap) (by simpa using hnc)
  have he : (((l.attach.map some).toArray).toList.filter fun o => !p o) = (l.attach.filter fun y => !decide (ad y.1 = ad x)).map some := by
   simp only [List.filter_map]
   congr 1
   apply List.filter_congr;intro y _;simp [p]
  have hsz : ((l.attach.map some).toArray).size = l.length := by simp
  rw [he, hsz] at h;have hfa := JF l (fun y => !decide (ad y = ad x));have hfl : (l.filter fun y => !decide (ad y = ad x)).length <= l.length := List.length_filter_le _ _;generalize (l.filter fun y => !decide (ad y = ad x)) = m at hfa hfl ⊢;generalize (l.attach.filter fun y => !decide (ad y.1 = ad x)) = m2 at h hfa;have hm2 : m2.length = m.length := by rw [<- hfa, PM]
  refine h.mono ?_;rintro e w' ⟨rfl, q, rfl⟩;rw [PM, hm2];refine ⟨_, rfl, ?_⟩;have hg2 : (Sort.ahead w q).heap[g]? = some (.cells cur 58 (0, 0)) := hg;obtain ⟨p1, p2⟩ := FY (enc := enc) hg2 (m2.map some ++ Pz (l.length - m.length) none).toArray;have hds : ((m2.map some ++ Pz (l.length - m.length) none).toArray : Array (Option {y : Int // y ∈ l})).size = l.length := by simp; omega
  refine S.updRow i hi ⟨by simp, .inr ⟨g, cap, _, rfl, Qa _, p1, by omega, hcm, by rw [Hd]; exact hcs, ?_⟩⟩ ⟨rfl, rfl, rfl, by rw [size_putRow]; exact Ps _, fun k hk hn => ?_⟩ (.inl rfl)
  ·rw [Hc _ _ _ (by rw [hds]; omega) (by rw [hds]; omega)];rw [RG];simp only [];rw [Rn (by rw [PM]; exact hm2), RL, <- hfa, RL];rfl
  ·refine (p2 k (fun e => hn (by rw [e]; rfl))).trans rfl
theorem Co {w : Pe} {v : Pd} {base e size n : Nat} {xs : List Pd} (h : w.ownsRow base e size v n xs) : ∃ A c, v = .slice A n c /\ n <= c := by
 obtain ⟨_, ⟨rfl, rfl⟩ | ⟨g, cap, cur, rfl, _, _, hnc, _⟩⟩ := h
 ·exact ⟨none, 0, rfl, Ps _⟩
 ·exact ⟨_, cap, rfl, hnc⟩
def Kn.wPar (k : Kn) (q : Option Int) : Kn := ⟨k.id, k.kind, k.text, k.trail, q, k.kids⟩
def Kn.wKids (k : Kn) (l : List Int) : Kn := ⟨k.id, k.kind, k.text, k.trail, k.par, l⟩
def Kn.wText (k : Kn) (a b : ByteArray) : Kn := ⟨k.id, k.kind, a, b, k.par, k.kids⟩
def GL (pre : List Bj) (ad : Int -> Nat) (g : List Hk) (X : List Bj) : List Bj := pre ++ (F6 ad g ++ X)
section
variable {pre X : List Bj} {ad : Int -> Nat} {g : List Hk} {j : Nat} {h h' : Hk}
theorem NR {i : Nat} {a : Bj} (hi : (F6 ad g)[i]? = some a) : (GL pre ad g X)[pre.length + i]? = some a := by
 unfold GL;rw [List.getElem?_append_right (by omega), Q2, PQ (Pf.1 hi).1];exact hi
theorem E2 (hj : g[j]? = some h) : (GL pre ad g X)[pre.length + 2 * j]? = some (Al (ad h.k.id) 80 (Dc ad h.k h.v)) := NR (Kp hj)
theorem CV (hj : g[j]? = some h) : (GL pre ad g X)[pre.length + (2 * j + 1)]? = some (Bw h.v 58 1 h.k.kids.length (h.k.kids.map (pk ad))) := NR (Kq hj)
theorem Kw (hj : g[j]? = some h) : ((GL pre ad g X).set (pre.length + 2 * j) (Al (ad h'.k.id) 80 (Dc ad h'.k h'.v))).set (pre.length + (2 * j + 1)) (Bw h'.v 58 1 h'.k.kids.length (h'.k.kids.map (pk ad))) = GL pre ad (g.set j h') X := by
 have hl := (Pf.1 hj).1;have hlen := Gh (ad := ad) g;unfold GL;rw [Ks g j h' hl, QN _ _ (by omega), QN _ _ (by simp), Q2, Q2, Sf _ _ (by rw [hlen]; omega), Sf _ _ (by rw [Q6, hlen]; omega)];rfl
theorem Ky (hj : g[j]? = some h) (hv : h'.v = h.v) (hk : h'.k.kids = h.k.kids) : (GL pre ad g X).set (pre.length + 2 * j) (Al (ad h'.k.id) 80 (Dc ad h'.k h'.v)) = GL pre ad (g.set j h') X := by
 have h2 := Kw (pre := pre) (X := X) (ad := ad) (h' := h') hj;rw [<- h2];have hl := (Pf.1 hj).1;have h3 := CV (pre := pre) (X := X) (ad := ad) hj;have e : ((GL pre ad g X).set (pre.length + 2 * j) (Al (ad h'.k.id) 80 (Dc ad h'.k h'.v)))[pre.length + (2 * j + 1)]? = some (Bw h'.v 58 1 h'.k.kids.length (h'.k.kids.map (pk ad))) := by
  rw [Q4 (by omega), h3, hv, hk]
 obtain ⟨hlt, he⟩ := Pf.1 e;rw [<- he];exact (List.set_getElem_self hlt).symm
end
section
variable {w0 w : Pe} {Z : Nat -> Prop} {pre X : List Bj} {F : List FA} {ad : Int -> Nat} {g : List Hk} {j i : Nat} {h : Hk} {L : List Bj}
theorem FB (S : Au w0 Z L F w) {i j a b t t' : Nat} {cs cs' : Array Pd} (hi : L[i]? = some (Al a t cs)) (hj : L[j]? = some (Al b t' cs')) (hij : i ≠ j) : a ≠ b := by
 obtain ⟨f, hf, _⟩ := S.st.hs;obtain ⟨fa, fb, ha, hb, hd⟩ := hf.apart hi hj hij;intro e;exact hd a ((ha.1 a).2 rfl) (by rw [e]; exact (hb.1 b).2 rfl)
theorem AR (S : Au w0 Z (GL pre ad g X) F w) (hj : g[j]? = some h) : w.heap[ad h.k.id]? = some (.cells (Dc ad h.k h.v) 80 (0, 0)) := S.at_blk _ (E2 hj)
theorem C5 (S : Au w0 Z (GL pre ad g X) F w) (hj : g[j]? = some h) : w.ownsRow 0 58 1 h.v h.k.kids.length (h.k.kids.map (pk ad)) := S.rowAt _ (CV hj)
theorem JH (S : Au w0 Z (GL pre ad g X) F w) {i : Nat} {h2 : Hk} (hi : g[i]? = some h2) (hj : g[j]? = some h) (e : ad h2.k.id = ad h.k.id) : i = j := by
 by_cases hij : i = j
 ·exact hij
 ·exact absurd e (FB S (E2 hi) (E2 hj) (by omega))
theorem Mo (S : Au w0 Z (GL pre ad g X) F w) {i : Nat} {h2 : Hk} (hi : g[i]? = some h2) (hj : g[j]? = some h) : ∀ k, h.v.ownBlock = some k -> ad h2.k.id ≠ k := by
 intro k hk e;exact S.st.row_ne_blk (CV hj) (E2 hi) (by omega) (by rw [hk, e])
theorem EM (S : Au w0 Z (GL pre ad g X) F w) (hj : g[j]? = some h) (q : Option Int) : Au w0 Z (GL pre ad (g.set j ⟨h.k.wPar q, h.v⟩) X) F (w.setCell ⟨ad h.k.id, 5, none⟩ (pp ad q)) := by
 have h1 := S.of (S.st.set (E2 hj) 5 (pp ad q));have e := Ky (pre := pre) (X := X) (ad := ad) (h' := ⟨h.k.wPar q, h.v⟩) hj rfl rfl;rw [<- e]; exact h1
theorem F7 (S : Au w0 Z (GL pre ad g X) F w) (hj : g[j]? = some h) (a b : ByteArray) : Au w0 Z (GL pre ad (g.set j ⟨h.k.wText a b, h.v⟩) X) F ((w.setCell ⟨ad h.k.id, 2, none⟩ (.string a)).setCell ⟨ad h.k.id, 3, none⟩ (.string b)) := by
 have h1 := S.of (S.st.set (E2 hj) 2 (.string a));have hl := (Pf.1 (E2 (pre := pre) (X := X) (ad := ad) hj)).1;have h2 := h1.of (h1.st.set (i := pre.length + 2 * j) (Q0 hl) 3 (.string b));rw [List.set_set] at h2;have e := Ky (pre := pre) (X := X) (ad := ad) (h' := ⟨h.k.wText a b, h.v⟩) hj rfl rfl;rw [<- e]; exact h2
theorem E3 {v' : Pd} {l : List Int} (hj : g[j]? = some h) (S : Au w0 Z ((GL pre ad g X).set (pre.length + (2 * j + 1)) (Bw v' 58 1 l.length (l.map (pk ad)))) F w) : Au w0 Z (GL pre ad (g.set j ⟨h.k.wKids l, v'⟩) X) F (w.setCell ⟨ad h.k.id, 6, none⟩ v') /\ w.cell? ⟨ad h.k.id, 6, none⟩ = some h.v /\ w.frozen? ⟨ad h.k.id, 6, none⟩ = BK := by
 have hb : ((GL pre ad g X).set (pre.length + (2 * j + 1)) (Bw v' 58 1 l.length (l.map (pk ad))))[pre.length + 2 * j]? = some (Al (ad h.k.id) 80 (Dc ad h.k h.v)) := by
  rw [Q4 (by omega)]; exact E2 hj
 have h1 := S.of (S.st.set hb 6 v');have e := Kw (pre := pre) (X := X) (ad := ad) (h' := ⟨h.k.wKids l, v'⟩) hj;have hc := S.at_blk _ hb;refine ⟨?_, by rw [Aa hc 6]; rfl, Ad hc 6⟩;rw [<- e, List.set_comm _ _ (by omega)];exact h1
end
theorem FI {g : List Hk} {i j : Nat} {h h2 : Hk} (hij : i ≠ j) (hi : g[i]? = some h) : (g.set j h2)[i]? = some h := by rw [Q4 (Ry hij)]; exact hi
theorem EN {w0 w : Pe} {Z : Nat -> Prop} {pre X : List Bj} {F : List FA} {ad : Int -> Nat} {g : List Hk} {jx jp : Nat} {hx hp : Hk} (S : Au w0 Z (GL pre ad g X) F w) (ex : g[jx]? = some hx) (ep : g[jp]? = some hp) (hne : jx ≠ jp)
  (hpar : hx.k.par = some hp.k.id) (hin : hx.k.id ∈ hp.k.kids) (hids : ∀ y ∈ hp.k.kids, ∃ (j : Nat) (h : Hk), g[j]? = some h /\ h.k.id = y) :
  PJ Try.prog 32 #[pk ad hx.k.id] w fun e w' => ∃ v', e = .returned (.tuple #[]) /\ Au w0 Z (GL pre ad ((g.set jp ⟨hp.k.wKids (hp.k.kids.filter fun y => !decide (ad y = ad hx.k.id)), v'⟩).set jx ⟨hx.k.wPar none, hx.v⟩) X) F w' := by
 have S1 : Au w0 Z (GL (Al w.heap.size 58 #[pk ad hx.k.id] :: pre) ad g X) F (w.alloc (.cells #[pk ad hx.k.id] 58)) := S.box rfl (Pv w _) (Ah (Pn _ _) _);have hx5 : (w.alloc (.cells #[pk ad hx.k.id] 58)).cell? ⟨ad hx.k.id, 5, none⟩ = some (pk ad hp.k.id) := by rw [Aa (AR S1 ex) 5]; show some (pp ad hx.k.par) = _; rw [hpar]; rfl
 have hp6 : (w.alloc (.cells #[pk ad hx.k.id] 58)).cell? ⟨ad hp.k.id, 6, none⟩ = some hp.v := by rw [Aa (AR S1 ep) 6]; rfl
 have hbx : (w.alloc (.cells #[pk ad hx.k.id] 58)).cell? ⟨w.heap.size, 0, none⟩ = some (pk ad hx.k.id) := by rw [Aa (S1.at_blk 0 rfl) 0]; rfl
 have hD := JG S1 _ (CV ep) hx.k.id hin w.heap.size hbx (fun k hk => ⟨fun e => S1.st.row_ne_blk (CV ep) (j := 0) rfl (by simp) (by rw [hk, e]), fun y hy => by obtain ⟨jy, hy', e1, e2⟩ := hids y hy; rw [<- e2]; exact Mo S1 e1 ep k hk⟩)
  (fun y hy => by obtain ⟨jy, hy', e1, e2⟩ := hids y hy; rw [<- e2]; exact ⟨_, _, AR S1 e1⟩)
 generalize hp.k.kids.filter (fun y => !decide (ad y = ad hx.k.id)) = l at hD ⊢;have hpar' := A7.mk (show pp ad hx.k.par = pk ad hp.k.id by rw [hpar]; rfl);have HD := A7.mk (⟨hD, S1⟩ : _ /\ _);clear hD S1 S;obtain ⟨a, ha⟩ : ∃ a, ad hx.k.id = a := ⟨_, rfl⟩;obtain ⟨b, hb⟩ : ∃ b, ad hp.k.id = b := ⟨_, rfl⟩;have HN := A7.mk (⟨trivial, ha, hb, ex, ep, hne⟩ : True /\ _ /\ _ /\ _ /\ _ /\ _);simp only [pk, ha, hb] at hx5 hp6 hbx HD hpar' ⊢;clear ha hb ex ep hne hpar hin hids;go_enter Try.func32, Try.ntmps32
 go_wp2_with (go_at_call 45; refine HD.out.1.mono ?_; rintro e_ w2 ⟨v', rfl, S2⟩; obtain ⟨A2, c2, rfl, _⟩ := Co (S2.rowAt _ (Q0 (Pf.1 (CV HN.out.2.2.2.2.1)).1)); obtain ⟨S3, hc6, hf6⟩ := E3 HN.out.2.2.2.2.1 S2; rw [HN.out.2.2.1] at S3 hc6 hf6; have ex3 := FI (h2 := ⟨hp.k.wKids l, .slice A2 l.length c2⟩) HN.out.2.2.2.2.2 HN.out.2.2.2.1; have hb3 := AR S3 ex3; rw [HN.out.2.1] at hb3; have hx5b := Aa hb3 5; have hx5f := Ad hb3 5; have hx5c := hx5b.trans (show (Dc ad hx.k hx.v)[5]? = some (pp ad hx.k.par) from rfl); rw [hpar'.out] at hx5c; have hbx3 := (Aa (S3.at_blk 0 rfl) 0).trans (show (#[Pw (some ⟨a, 0, none⟩)] : Array Pd)[0]? = some (.pointer (some ⟨a, 0, none⟩)) from rfl); have S4 := EM S3 ex3 none; rw [HN.out.2.1] at S4; replace S4 := A7.mk S4; clear hb3 hx5b S3 S2 ex3)
 refine bodyPost_end (results_none rfl _ _ _) rfl ?_;exact ⟨_, rfl, Au.drop (a := Al w.heap.size 58 #[.pointer (some ⟨a, 0, none⟩)]) (l := GL pre ad _ X) S4.out⟩
def CY (g : List Kn) (i : Int) : Option Kn := g.find? fun k => decide (k.id = i)
structure CQ (g : List Kn) : Prop where
 nodup : (g.map (·.id)).Nodup
 kids : ∀ k ∈ g, ∀ i ∈ k.kids, ∃ y ∈ g, y.id = i /\ y.par = some k.id
 par : ∀ k ∈ g, ∀ p, k.par = some p -> ∃ q ∈ g, q.id = p /\ k.id ∈ q.kids
 kdup : ∀ k ∈ g, k.kids.Nodup
 rank : ∃ d : Int -> Nat, ∀ k ∈ g, ∀ p, k.par = some p -> d p < d k.id
 root : ∀ k ∈ g, k.par = none ↔ k.id = 0
 in64 : ∀ k ∈ g, 0 <= k.id /\ in64 k.id
theorem Cn {g : List Kn} {i : Int} {k : Kn} (h : CY g i = some k) : k ∈ g /\ k.id = i := ⟨List.mem_of_find?_eq_some h, by simpa using List.find?_some h⟩
theorem Eu {g : List Kn} (h : (g.map (·.id)).Nodup) {a b : Kn} (ha : a ∈ g) (hb : b ∈ g) (e : a.id = b.id) : a = b := by
 induction g with
 | nil => cases ha
 | cons x r ih =>
  rw [Py, List.nodup_cons] at h;rcases Qg.1 ha with ha2 | ha2
  ·rcases Qg.1 hb with hb2 | hb2
   ·rw [ha2, hb2]
   ·exact (h.1 (PF.2 ⟨b, hb2, by rw [<- e, ha2]⟩)).elim
  ·rcases Qg.1 hb with hb2 | hb2
   ·exact (h.1 (PF.2 ⟨a, ha2, by rw [e, hb2]⟩)).elim
   ·exact ih h.2 ha2 hb2
theorem E4 {g : List Kn} (h : (g.map (·.id)).Nodup) {k : Kn} (hk : k ∈ g) : CY g k.id = some k := by
 cases he : CY g k.id with
 | none =>
  have := List.find?_eq_none.1 he k hk;simp at this
 | some k' =>
  obtain ⟨h1, h2⟩ := Cn he;rw [Eu h h1 hk h2]
theorem CJ {g : List Kn} {i : Int} : CY g i = none ↔ i ∉ g.map (·.id) := by
 unfold CY;rw [List.find?_eq_none];constructor
 ·intro h hm;obtain ⟨k, hk, e⟩ := PF.1 hm;exact h k hk (by simpa using e)
 ·intro h k hk;simp only [decide_eq_true_eq];exact fun e => h (PF.2 ⟨k, hk, e⟩)
def Cg (g : List Kn) : Nat -> Int -> Int -> Bool
 | 0, _, _ => BK
 | n + 1, i, t => if i = t then true else match (CY g i).bind (·.par) with | none => BK | some p => Cg g n p t
abbrev BR (g : List Hk) : List Kn := g.map (·.k)
theorem Dn {g : List Hk} {j : Nat} {h : Hk} (hj : g[j]? = some h) : h.k ∈ BR g := PF.2 ⟨h, List.mem_of_getElem? hj, rfl⟩
theorem E5 {g : List Hk} {k : Kn} (hk : k ∈ BR g) : ∃ (j : Nat) (h : Hk), g[j]? = some h /\ h.k = k := by
 obtain ⟨h, hh, rfl⟩ := PF.1 hk;obtain ⟨j, hj⟩ := SJ hh;exact ⟨j, h, hj, rfl⟩
theorem DI {w0 w : Pe} {Z : Nat -> Prop} {pre X : List Bj} {F : List FA} {ad : Int -> Nat} {g : List Hk} {jx jt : Nat} {hx ht : Hk} (S : Au w0 Z (GL pre ad g X) F w) (ex : g[jx]? = some hx) (et : g[jt]? = some ht)
  (I : CQ (BR g)) : ∃ n0, ∀ n, n0 <= n -> PJ Try.prog 33 #[pk ad hx.k.id, pk ad ht.k.id] w fun e w' => e = .returned (.bool (Cg (BR g) n hx.k.id ht.k.id)) /\ w' = w := by
 obtain ⟨d, hd⟩ := I.rank;refine ⟨d hx.k.id + 1, fun n hn => ?_⟩;obtain ⟨R, hR⟩ : ∃ R, Cg (BR g) n hx.k.id ht.k.id = R := ⟨_, rfl⟩;rw [hR];have HS := A7.mk S;obtain ⟨t, htt⟩ : ∃ t, ad ht.k.id = t := ⟨_, rfl⟩;obtain ⟨x, hxx⟩ : ∃ x, ad hx.k.id = x := ⟨_, rfl⟩;have HX := A7.mk (⟨htt, hxx, hR, hn, ex, et⟩ : _ /\ _ /\ _ /\ _ /\ _ /\ _);replace hd := A7.mk hd;replace I := A7.mk I;unfold pk;rw [htt, hxx];clear S ex et hR hn htt hxx;go_enter Try.func33, Try.ntmps33;go_wp2
 go_loopg [5] (n + 1) (fun kq v5 W => A7 (W = w) /\ ((∃ (b m : Nat) (j : Nat) (h : Hk), v5 = .pointer (some ⟨b, 0, none⟩) /\ A7 (g[j]? = some h /\ ad h.k.id = b) /\ kq = m + 1 /\ A7 (Cg (BR g) m h.k.id ht.k.id = R /\ d h.k.id + 1 <= m)) \/ (v5 = .pointer none /\ A7 (R = BK))))
 case atStart => exact ⟨⟨rfl⟩, .inl ⟨x, n, jx, hx, rfl, ⟨HX.out.2.2.2.2.1, HX.out.2.1⟩, rfl, ⟨HX.out.2.2.1, HX.out.2.2.2.1⟩⟩⟩
 case round =>
  obtain ⟨hw, ⟨b, m, j, h, rfl, hj, hgk, hb⟩ | ⟨rfl, hb⟩⟩ := hrel
  ·obtain rfl := hw.out;have hq := Mm (W := wr) (hj.out.2 ▸ AR HS.out hj.out.1) (HX.out.1 ▸ AR HS.out HX.out.2.2.2.2.2);have h5 : wr.cell? ⟨b, 5, none⟩ = some (pp ad h.k.par) := by
    have := Aa (AR HS.out hj.out.1) 5;rw [hj.out.2] at this; exact this
   obtain ⟨m', rfl⟩ : ∃ m', m = m' + 1 := ⟨m - 1, by have := hb.out.2; omega⟩;have hb1 := hb.out.1;unfold Cg at hb1;by_cases hbt : b = t
   ·have e : h.k.id = ht.k.id := by
     have := JH HS.out hj.out.1 HX.out.2.2.2.2.2 (hj.out.2.trans (hbt.trans HX.out.1.symm));subst this;have := hj.out.1.symm.trans HX.out.2.2.2.2.2;injection this with this; rw [this]
    rw [if_pos e] at hb1;subst hb1;rw [decide_eq_true hbt] at hq;clear hbt e h5;go_wp2
    go_ret
    exact ⟨rfl, rfl⟩
   ·have e : h.k.id ≠ ht.k.id := fun e => hbt (by rw [<- hj.out.2, <- HX.out.1, e])
    rw [if_neg e, E4 I.out.nodup (Dn hj.out.1), Pj] at hb1;rw [decide_eq_false hbt] at hq;have HM := A7.mk hgk;cases hp : h.k.par with
    | none =>
     rw [hp] at hb1 h5;replace hb1 : BK = R := hb1;replace h5 : wr.cell? ⟨b, 5, none⟩ = some (.pointer none) := h5;have hb2 := A7.mk hb1.symm;clear hb1 hbt e hb hgk;go_wp2
     go_roundg 0
     case rel => exact ⟨⟨rfl⟩, .inr ⟨rfl, hb2⟩⟩
     case measure => have := HM.out; omega
    | some p =>
     rw [hp] at hb1 h5;obtain ⟨q, hq1, hq2, _⟩ := I.out.par h.k (Dn hj.out.1) p hp;obtain ⟨jq, hq', eq1, eq2⟩ := E5 hq1;have hrk := hd.out h.k (Dn hj.out.1) p hp;have hm := hb.out.2;replace h5 : wr.cell? ⟨b, 5, none⟩ = some (.pointer (some ⟨ad p, 0, none⟩)) := h5;have hb2 : A7 (Cg (BR g) m' hq'.k.id ht.k.id = R /\ d hq'.k.id + 1 <= m') := ⟨by rw [eq2, hq2]; exact hb1, by rw [eq2, hq2]; omega⟩;have hj2 : A7 (g[jq]? = some hq' /\ ad hq'.k.id = ad p) := ⟨eq1, by rw [eq2, hq2]⟩;clear hb1 hbt e hb hgk hq1 hq2 eq1 eq2 hrk hm hp;go_wp2
     go_roundg (m' + 1)
     case rel => exact ⟨⟨rfl⟩, .inl ⟨ad p, m', jq, hq', rfl, hj2, rfl, hb2⟩⟩
     case measure => have := HM.out; omega
  ·obtain rfl := hw.out;obtain rfl := hb.out;go_wp2
   go_ret
   exact ⟨rfl, rfl⟩
def Bx (l : List Int) (i : Nat) (x : Int) : List Int := l.take i ++ x :: l.drop i
theorem Hq (l : List Int) {i : Nat} (h : i <= l.length) (x : Int) : (Bx l i x).length = l.length + 1 := by unfold Bx; simp; omega
theorem JI : (Try.prog.info? 58).map (fun i => (i.zero, i.size, i.bytes)) = some (some (.pointer none), 1, 8) := by kernel_rfl
theorem P7 {P : Program} {ops : Array Oper} {o : Oper} {rest : List Oper} {a : Act} {Q : Exit -> Act -> Pe -> Prop} {W : Pe} (hgd : o.guard = none)
  (h : ∀ K : Act -> Pe -> Prop, (∀ a' w', wpList P ops Q rest a' w' -> K a' w') -> (if PR o (QP ops a.tmps) = true then QE P o a W K Q else K (a.put o.dst undef) W)) : wpList P ops Q (o :: rest) a W := by
 refine wpList_plain hgd fun K hK => ?_
 have hw : PR o (QP ops a.tmps) = true := by simp [PR, hgd]
 have := h K hK
 rwa [if_pos hw] at this
theorem Kz {w : Pe} {gx e : Nat} {u : Pd} (h : w.heap[gx]? = some (.cells #[u] e (0, 0))) : w.ownsRow 0 e 1 (.slice (some ⟨gx, 0, none⟩) 1 1) 1 [u] :=
 ⟨rfl, .inr ⟨gx, 1, #[u], rfl, Qa _, h, Ps _, by simp [R7], rfl, rfl⟩⟩
theorem own_at {w : Pe} {g e n : Nat} {cur : Array Pd} {xs : List Pd} (hg : w.heap[g]? = some (.cells cur e (0, 0))) (ht : cur.toList.take (n * 1) = xs) (j : Nat) (v : Pd) (hj : xs[j]? = some v) : w.cell? ⟨g, j, none⟩ = some v := by
 rw [<- ht, PW] at hj
 split at hj
 ·rw [Aa hg j]; simpa using hj
 ·cases hj
theorem No {ad : Int -> Nat} {w0 w : Pe} {Z : Nat -> Prop} {L : List Bj} {F : List FA} {v : Pd} {l : List Int} (S : Au w0 Z L F w) (i : Nat) (hi : L[i]? = some (Bw v 58 1 l.length (l.map (pk ad)))) (x : Int) (gx : Nat) (hg : w.heap[gx]? = some (.cells #[pk ad x] 58 (0, 0))) (hlen : l.length <= 1000000) :
  PJ Try.prog 44 #[v, .int .i64 (l.length : Int), .slice (some ⟨gx, 0, none⟩) 1 1] w fun e w' => ∃ v', e = .returned v' /\ Au w0 Z (L.set i (Bw v' 58 1 (Bx l l.length x).length ((Bx l l.length x).map (pk ad)))) F w' := by
 have ho : w.ownsRow 0 58 1 v l.length (l.map (pk ad)) := S.rowAt i hi;obtain ⟨A, c, rfl, hlc⟩ := Co ho;have hcm : c <= 9223372036854775807 := by
  rcases ho.2 with ⟨h1, _⟩ | ⟨g, cap, cur, h1, _, _, _, hm, _⟩
  ·injection h1 with _ _ h1; omega
  ·injection h1 with _ _ h1; simp only [R7] at hm; omega
 have HS := A7.mk (⟨S, hi, ho, Kz hg, hlen⟩ : _ /\ _ /\ _ /\ _ /\ _);have hlc2 := eq_true hlc;have e : Bx l l.length x = l ++ [x] := by unfold Bx; simp
 rw [e];clear S hi ho hg hlen e;go_enter Try.func44, Try.ntmps44
 go_wp2_with (((with_reducible refine Bt (b := .append) (xs := #[.tmp 23, .tmp 24]) rfl ?_); at_builtin; refine P7 rfl (fun K hK => CI (by rfl) (.tmp 23) (.tmp 24) 78 58 (.pointer none) 1 8 rfl Try.underlying78 JI rfl (by decide) (by decide) (.slice A l.length c) (.slice (some ⟨gx, 0, none⟩) 1 1) l.length (l.map (pk ad)) [pk ad x] rfl rfl (by intro u hu; rw [PC] at hu; subst hu; rfl) HS.out.2.2.1 HS.out.2.2.2.1 (by have := HS.out.2.2.2.2; omega) ?_); intro v_ w_ ho_ hg_ hat_; refine hK _ _ ?_; have S2 := HS.out.1.updRow (w' := w_) (v' := v_) i HS.out.2.1 ho_ hg_ hat_; replace S2 := A7.mk S2; obtain ⟨A2, c2, rfl, _⟩ := Co ho_; clear ho_ hg_ hat_))
 all_goals (go_ret; refine ⟨_, rfl, ?_⟩; have hS_ := S2.out; first | exact hS_ | (rw [PK, Qs]; exact hS_))
theorem JJ {α : Type} (C M : List α) (k n : Nat) (u : α) (hk : k < n) (hC : n + 1 <= C.length) (hM : C.take n = M) (T : List α) (hT : T = C.take (k + 1) ++ M.drop k ++ C.drop (k + 1 + (M.drop k).length)) :
  (T.take k ++ [u] ++ T.drop (k + 1)).take (n + 1) = M.take k ++ u :: M.drop k := by
 have hMl : M.length = n := by rw [<- hM, Pp]; omega
 have hA : (C.take (k + 1)).length = k + 1 := by rw [Pp]; omega
 have hB : (M.drop k).length = n - k := by rw [PG]; omega
 have h1 : T.take k = M.take k := by
  rw [hT, PP, Ru (by omega), RQ, Rm (by omega), <- hM, RQ, Rm (by omega)]
 have h2 : T.drop (k + 1) = M.drop k ++ C.drop (k + 1 + (M.drop k).length) := by
  rw [hT, PP, List.drop_left' hA]
 rw [h1, h2, <- PP, Rn (by simp only [PK, QV, Pp, hB]; omega)];simp
theorem In : (Try.prog.info? 58).map (·.size) = some 1 := by kernel_rfl
theorem Mp (ad : Int -> Nat) (l : List Int) : ∀ v ∈ l.map (pk ad), v.oneCell' = true := by
 intro v hv;obtain ⟨i, _, rfl⟩ := PF.1 hv;rfl
theorem J3 {w : Pe} {g e : Nat} {cur : Array Pd} (hg : w.heap[g]? = some (.cells cur e (0, 0))) : w.shape? g = some (e, cur.size) := by
 unfold World.shape?; rw [hg]
theorem Od : Extern.find Try.f47 = some (Extern.SlicesOverlaps.overlaps #[78, 78] #[4]) := by kernel_rfl
theorem Oe {w : Pe} {gx g k : Nat} {cur : Array Pd} {u : Pd} (hg : w.heap[gx]? = some (.cells #[u] 58 (0, 0))) (hgr : w.heap[g]? = some (.cells cur 58 (0, 0))) (hne : gx ≠ g) (hcs : cur.size ≠ 0) (lb cb : Nat) :
    (callFunc 47 #[.slice (some ⟨gx, 0, none⟩) 1 1, .slice (some ⟨g, k + 1, none⟩) lb cb]).run Try.prog w = .ok (.value (.bool BK)) w := by
  rw [run_callFunc_extern Try.func47 (by kernel_rfl) (by kernel_rfl) (by kernel_rfl) Od,
      Lib.run_overlaps_apart w 78 4 58 Try.underlying78 1 Try.sizeOf58 ⟨gx, 0, none⟩ ⟨g, k + 1, none⟩ 1 1 lb cb hne 58 58 1 cur.size (J3 hg) (J3 hgr) hcs (Ad hg 0) (Ad hg 1)]
  rfl
theorem Mq {ad : Int -> Nat} {w0 w : Pe} {Z : Nat -> Prop} {L : List Bj} {F : List FA} {l : List Int} {g cap : Nat} {cur : Array Pd} (S : Au w0 Z L F w) (i : Nat) (hi : L[i]? = some (Bw (.slice (some ⟨g, 0, none⟩) l.length cap) 58 1 l.length (l.map (pk ad))))
  (hgr : w.heap[g]? = some (.cells cur 58 (0, 0))) (hcm : cap <= R7) (hcs : cur.size = cap * 1) (ht : cur.toList.take (l.length * 1) = l.map (pk ad))
  (x : Int) (gx : Nat) (hg : w.heap[gx]? = some (.cells #[pk ad x] 58 (0, 0))) (hne : gx ≠ g) (hlen : l.length <= 1000000) (k : Nat) (hk : k < l.length) (hroom : l.length + 1 <= cap) :
  PJ Try.prog 44 #[.slice (some ⟨g, 0, none⟩) l.length cap, .int .i64 (k : Int), .slice (some ⟨gx, 0, none⟩) 1 1] w fun e w' => ∃ v', e = .returned v' /\ Au w0 Z (L.set i (Bw v' 58 1 (Bx l k x).length ((Bx l k x).map (pk ad)))) F w' := by
 have hcap : cap <= 9223372036854775807 := by simp only [R7] at hcm; omega
 obtain ⟨n, hn⟩ : ∃ n, l.length = n := ⟨_, rfl⟩;have hw1 : Pq ((n : Int) + 1) = (n : Int) + 1 := by unfold Pq; omega
 have hw2 : Pq ((k : Int) + 1) = (k : Int) + 1 := by unfold Pq; omega
 have hi1 : Po.wrap ((n : Int) + 1) = (n : Int) + 1 := by rw [RA]; omega
 have hi2 : Po.wrap ((k : Int) + 1) = (k : Int) + 1 := by rw [RA]; omega
 have hz2 : ¬ ((k : Int) = (n : Int)) := by omega
 have hz3 : ¬ (k = n) := by omega
 have hz4 : ((k : Int) == (n : Int)) = BK := by rw [beq_eq_false_iff_ne]; exact hz2
 have hb0 : ¬ (cap : Int) < (n : Int) + 1 := by omega
 have hb1 : (0 : Int) <= (k : Int) + 1 := by omega
 have hb2 : ¬ (cap = k + 1) := by omega
 have hb3 : (k : Int) <= (n : Int) + 1 := by omega
 have hb4 : ¬ (cap = k) := by omega
 have hb5 : k <= n := by omega
 have hb6 : (k : Int) <= (n : Int) := by omega
 have hb7 : ((k : Int) + 1).toNat = k + 1 := by omega
 have hb8 : (n : Int) + 1 <= (cap : Int) := by omega
 have hb9 : (k : Int) + 1 <= (n : Int) + 1 := by omega
 have hb10 : ((n : Int) + 1).toNat = n + 1 := by omega
 have NUM := A7.mk (⟨hw1, hw2, hi1, hi2, hz2, hz3, hz4, hb0, hb1, hb2, hb3, hb4, hb5, hb6, hb7, hb8, hb9, hb10⟩ : _ /\ _ /\ _ /\ _ /\ _ /\ _ /\ _ /\ _ /\ _ /\ _ /\ _ /\ _ /\ _ /\ _ /\ _ /\ _ /\ _ /\ _);clear hw1 hw2 hi1 hi2 hz2 hz3 hz4 hb0 hb1 hb2 hb3 hb4 hb5 hb6 hb7 hb8 hb9 hb10;have hml : (l.map (pk ad)).length = n := by simp [hn]
 have hdl : ((l.drop k).map (pk ad)).length = n - k := by simp [hn]
 obtain ⟨c1, hc1⟩ : ∃ c1, c1 = (cur.toList.take (k + 1) ++ (l.drop k).map (pk ad) ++ cur.toList.drop (k + 1 + ((l.drop k).map (pk ad)).length)).toArray := ⟨_, rfl⟩;have hc1s : c1.size = cap := by rw [hc1]; simp; omega
 obtain ⟨c2, hc2⟩ : ∃ c2, c2 = (c1.toList.take k ++ [pk ad x] ++ c1.toList.drop (k + [pk ad x].length)).toArray := ⟨_, rfl⟩;have hc2s : c2.size = cap := by rw [hc2]; simp; omega
 have hov : ∀ lb cb, (callFunc 47 #[.slice (some ⟨gx, 0, none⟩) 1 1, .slice (some ⟨g, k + 1, none⟩) lb cb]).run Try.prog w = .ok (.value (.bool BK)) w := fun lb cb => Oe hg hgr hne (by omega) lb cb
 have hcp1 : ∀ ty dc sc, (RR #[78, 78] ty #[.slice (some ⟨g, k + 1, none⟩) (n + 1 - (k + 1)) dc, .slice (some ⟨g, k, none⟩) (n + 1 - k) sc]).run Try.prog w.drew = .ok (goInt ((l.drop k).map (pk ad)).length) (w.drew.setRow g c1) := fun ty dc sc => by
  rw [hc1];exact run_copy_row Try.prog w.drew 78 78 ty 58 g (k + 1) (n + 1 - (k + 1)) dc ⟨g, k, none⟩ (n + 1 - k) sc cur 58 ((l.drop k).map (pk ad)) Try.underlying78 In hgr (by rw [hdl]; simp only [Nat.min_def]; split <;> omega)
   (fun j v hj => by
    rw [show (⟨g, k, none⟩ : Addr).add j = ⟨g, k + j, none⟩ from Addr.add_lit ..];exact own_at (w := w.drew) hgr ht (k + j) v (by rw [PU] at hj ⊢; rwa [Qk] at hj)) (by rw [hdl]; omega) (Mp ad _)
 obtain ⟨W1, hW1⟩ : ∃ W1, W1 = w.drew.setRow g c1 := ⟨_, rfl⟩;have hg1 : W1.heap[g]? = some (.cells c1 58 (0, 0)) := by rw [hW1]; exact setRow_heap w.drew g cur c1 58 (0, 0) hgr
 have hgx1 : W1.heap[gx]? = some (.cells #[pk ad x] 58 (0, 0)) := by rw [hW1, RB _ _ _ _ hne]; exact hg
 have hcp2 : ∀ (W : Pe), W.heap = W1.heap -> ∀ ty dc, (RR #[78, 78] ty #[.slice (some ⟨g, k, none⟩) (n + 1 - k) dc, .slice (some ⟨gx, 0, none⟩) 1 1]).run Try.prog W = .ok (goInt [pk ad x].length) (W.setRow g c2) := fun W hW ty dc => by
  rw [hc2];exact run_copy_row Try.prog W 78 78 ty 58 g k (n + 1 - k) dc ⟨gx, 0, none⟩ 1 1 c1 58 [pk ad x] Try.underlying78 In (by rw [hW]; exact hg1) (by simp only [QV, Nat.min_def]; split <;> omega)
   (fun j v hj => by
    cases j with
    | zero => rw [show (⟨gx, 0, none⟩ : Addr).add 0 = ⟨gx, 0, none⟩ from rfl, Aa (by rw [hW]; exact hgx1) 0]; simpa using hj
    | succ j => simp at hj) (by simp; omega) (by intro u hu; rw [PC] at hu; subst hu; rfl)
 have hfin : ∀ W : Pe, W.heap = W1.heap -> W.os = w.os -> W.tape = w.tape -> W.output = w.output -> Au w0 Z (L.set i (Bw (.slice (some ⟨g, 0, none⟩) (n + 1) cap) 58 1 (Bx l k x).length ((Bx l k x).map (pk ad)))) F (W.setRow g c2) := fun W hW h1 h2 h3 => by
  have hgW : W.heap[g]? = some (.cells c1 58 (0, 0)) := by rw [hW]; exact hg1
  have hil := Hq l (Nat.le_of_lt hk) x;rw [hn] at hil;rw [hil];refine S.updRow i hi ⟨by rw [PM, hil]; omega, .inr ⟨g, cap, c2, rfl, Qa _, setRow_heap W g c1 c2 58 (0, 0) hgW, hn ▸ hroom, hcm, by omega, ?_⟩⟩ ⟨by rw [setRow_os]; exact h1, by rw [setRow_tape]; exact h2, by rw [Sl]; exact h3, by rw [size_setRow, hW, hW1, size_setRow]; exact Ps _, fun j hj hjn => ?_⟩ (.inl rfl)
  ·have hs := JJ cur.toList (l.map (pk ad)) k n (pk ad x) (by omega) (by simp; omega) (by rw [<- ht, hn, RG]) c1.toList (by rw [hc1, <- RZ]);rw [hc2]
   show ((c1.toList.take k ++ [pk ad x] ++ c1.toList.drop (k + 1))).take ((n + 1) * 1) = _
   rw [RG, hs];unfold Bx;rw [Qs, Py, Sa, RZ]
  ·have hjg : j ≠ g := fun e => hjn (by rw [e]; rfl)
   rw [RB _ _ _ _ hjg, hW, hW1, RB _ _ _ _ hjg]; rfl
 rw [<- hW1] at hcp1;obtain ⟨W2, hW2⟩ : ∃ W2, W2 = W1.setRow g c2 := ⟨_, rfl⟩;replace hcp2 := hcp2 W1 rfl;replace hfin := hfin W1 rfl (by rw [hW1, setRow_os]; rfl) (by rw [hW1, setRow_tape]; rfl) (by rw [hW1, Sl]; rfl);rw [<- hW2] at hcp2 hfin;rw [hn];have HF := A7.mk (⟨hcp1, hcp2, hfin⟩ : _ /\ _ /\ _);clear S hi hgr hcm hcs ht hg hne hlen hk hroom hn hml hdl hc1 hc1s hc2 hc2s hcp1 hcp2 hW1 hW2 hg1 hgx1 hfin hcap;obtain ⟨hw1, hw2, hi1, hi2, hz2, hz3, hz4, hb0, hb1, hb2, hb3, hb4, hb5, hb6, hb7, hb8, hb9, hb10⟩ := NUM.out;clear NUM;have mixed : Try.prog.follows .mixedOrders = true := by kernel_rfl
 go_enter Try.func44, Try.ntmps44
 go_wp2_with (simp only [hov])
 go_region_law_o (refine step_copy_runI rfl _ _ 78 78 rfl (.slice (some ⟨g, k + 1, none⟩) (n + 1 - (k + 1)) (cap - (k + 1))) (.slice (some ⟨g, k, none⟩) (n + 1 - k) (cap - k)) (by simp [Q1, Ph]) (by simp [Q1, Ph]) (HF.out.1 _ _ _) ?_)
 go_wp2_with ((with_reducible refine Bt (b := .copy) (xs := #[.tmp 80, .tmp 81]) rfl ?_); refine wpList_copy_runI W1 rfl (.tmp 80) (.tmp 81) 78 78 rfl (.slice (some ⟨g, k, none⟩) (n + 1 - k) (cap - k)) (.slice (some ⟨gx, 0, none⟩) 1 1) (by simp [Q1, Ph]) (by simp [Q1, Ph]) (HF.out.2.1 3 (cap - k)) ?_)
 go_ret
 exact ⟨_, rfl, HF.out.2.2⟩
theorem KZ {α : Type} (R M : List α) (k n : Nat) (u : α) (hk : k < n) (hM : M.length = n) (hR : R.take k = M.take k) (hRl : n + 1 <= R.length) (C : List α) (hC : C = R.take k ++ [u] ++ R.drop (k + 1)) :
  (C.take (k + 1) ++ M.drop k ++ C.drop (k + 1 + (M.drop k).length)).take (n + 1) = M.take k ++ u :: M.drop k := by
 have hA : C.take (k + 1) = M.take k ++ [u] := by
  rw [hC, hR, Rn (by simp; omega)]
 rw [hA, Rn (by simp; omega)];simp
theorem Mr {ad : Int -> Nat} {w0 w : Pe} {Z : Nat -> Prop} {L : List Bj} {F : List FA} {l : List Int} {g cap : Nat} {cur : Array Pd} (S : Au w0 Z L F w) (i : Nat) (hi : L[i]? = some (Bw (.slice (some ⟨g, 0, none⟩) l.length cap) 58 1 l.length (l.map (pk ad))))
  (hgr : w.heap[g]? = some (.cells cur 58 (0, 0))) (hcm : cap <= R7) (hcs : cur.size = cap * 1) (ht : cur.toList.take (l.length * 1) = l.map (pk ad))
  (x : Int) (gx : Nat) (hg : w.heap[gx]? = some (.cells #[pk ad x] 58 (0, 0))) (hlen : l.length <= 1000000) (k : Nat) (hk : k < l.length) (hnc : l.length <= cap) (hroom : cap < l.length + 1) :
  PJ Try.prog 44 #[.slice (some ⟨g, 0, none⟩) l.length cap, .int .i64 (k : Int), .slice (some ⟨gx, 0, none⟩) 1 1] w fun e w' => ∃ v', e = .returned v' /\ Au w0 Z (L.set i (Bw v' 58 1 (Bx l k x).length ((Bx l k x).map (pk ad)))) F w' := by
 obtain ⟨i0, hi0, hz⟩ := Qb.1 JI;simp only [QQ] at hz;obtain ⟨hz0, hzs, hzb⟩ := hz;obtain ⟨n, hn⟩ : ∃ n, l.length = n := ⟨_, rfl⟩;have hcn : cap = n := by omega
 subst hcn;rw [hn] at hi ht;have hw1 : Pq ((cap : Int) + 1) = (cap : Int) + 1 := by unfold Pq; omega
 have hw2 : Pq ((k : Int) + 1) = (k : Int) + 1 := by unfold Pq; omega
 have hw3 : Pq ((cap : Int) + 1 - (k : Int)) = (cap : Int) + 1 - (k : Int) := by unfold Pq; omega
 have hi1 : Po.wrap ((cap : Int) + 1) = (cap : Int) + 1 := by rw [RA]; omega
 have hi2 : Po.wrap ((k : Int) + 1) = (k : Int) + 1 := by rw [RA]; omega
 have hz2 : ¬ ((k : Int) = (cap : Int)) := by omega
 have hz3 : ¬ (k = cap) := by omega
 have hz4 : ((k : Int) == (cap : Int)) = BK := by rw [beq_eq_false_iff_ne]; exact hz2
 have hb0 : (cap : Int) < (cap : Int) + 1 := by omega
 have hb1 : (0 : Int) <= (k : Int) + 1 := by omega
 have hb3 : (k : Int) <= (cap : Int) + 1 := by omega
 have hb5 : k <= cap := by omega
 have hb6 : (k : Int) <= (cap : Int) := by omega
 have hb7 : ((k : Int) + 1).toNat = k + 1 := by omega
 have hb8 : ¬ (cap = k) := by omega
 have hb9 : (k : Int) + 1 <= (cap : Int) + 1 := by omega
 have hb10 : ((cap : Int) + 1).toNat = cap + 1 := by omega
 have NUM := A7.mk (⟨hw1, hw2, hw3, hi1, hi2, hz2, hz3, hz4, hb0, hb1, hb3, hb5, hb6, hb7, hb8, hb9, hb10⟩ : _ /\ _ /\ _ /\ _ /\ _ /\ _ /\ _ /\ _ /\ _ /\ _ /\ _ /\ _ /\ _ /\ _ /\ _ /\ _ /\ _);clear hw1 hw2 hw3 hi1 hi2 hz2 hz3 hz4 hb0 hb1 hb3 hb5 hb6 hb7 hb8 hb9 hb10;have hgw : g < w.heap.size := (R3.1 hgr).1;have hxw : gx < w.heap.size := (R3.1 hg).1;obtain ⟨N, hN⟩ : ∃ N, N = w.heap.size := ⟨_, rfl⟩;have hml : (l.map (pk ad)).length = cap := by simp [hn]
 have hdl : ((l.drop k).map (pk ad)).length = cap - k := by simp [hn]
 have hold : (Builtin.firstCells i0.size k (.slice (some ⟨g, 0, none⟩) k cap)).run Try.prog w.drew = .ok ((l.take k).map (pk ad)).toArray w.drew := by
  rw [hzs];exact run_firstCells_some w.drew 1 k ⟨g, 0, none⟩ k cap ((l.take k).map (pk ad)) (by simp; omega) (fun j v hj => by
   rw [show (⟨g, 0, none⟩ : Addr).add j = ⟨g, 0 + j, none⟩ from Addr.add_lit .., R1];refine own_at (w := w.drew) hgr ht j v ?_;rw [Sa, PW] at hj
   split at hj
   ·exact hj
   ·cases hj)
 have hik : k + (cap + 1 - k) = cap + 1 := by omega
 have hkk : (cap : Int) + 1 - (k : Int) = ((cap + 1 - k : Nat) : Int) := by omega
 have hrz : ∀ ty, (Builtin.append_ #[78, 3] ty #[.slice (some ⟨g, 0, none⟩) k cap, .int .i64 ((cap : Int) + 1 - (k : Int))]).run Try.prog w =
   .ok (.slice (some ⟨N, 0, none⟩) (cap + 1) (grownCap w (cap + 1) cap 58)) (w.drew.alloc (.cells (((l.take k).map (pk ad)).toArray ++ R8 (Pw none).cells (cap + 1 - k) ++ R8 (Pw none).cells (grownCap w (cap + 1) cap 58 - (cap + 1))) 58)) := fun ty => by
  have h := Lib.run_append_grow_zeros w 78 3 ty 58 i0 _ .i64 .i64 Try.underlying78 Try.underlying3 hi0 hz0 (some ⟨g, 0, none⟩) k cap ((l.take k).map (pk ad)) hold (cap + 1 - k) (by omega) (by omega) (by omega) (by omega) (by rw [hzb]; omega) (by rw [hzb, hik]; exact growslice_fits (Nat.lt_succ_self cap) (by omega));rw [hik] at h;rw [hkk, hN];exact h
 obtain ⟨G, hG⟩ : ∃ G, G = grownCap w (cap + 1) cap 58 := ⟨_, rfl⟩;obtain ⟨ROW, hROW⟩ : ∃ ROW : Array Pd, ROW = ((l.take k).map (pk ad)).toArray ++ R8 (Pw none).cells (cap + 1 - k) ++ R8 (Pw none).cells (G - (cap + 1)) := ⟨_, rfl⟩;rw [<- hG, <- hROW] at hrz;have hGn : cap + 1 <= G := by rw [hG]; exact grownCap_ge w _ _ _
 have hGm : G <= R7 := by rw [hG]; exact grownCap_le_maxLen w _ _ _ (by unfold R7; omega)
 have hG63 : G <= 9223372036854775807 := by unfold R7 at hGm; omega
 have hb2 : ¬ (G = k + 1) := by omega
 have hb4 : ¬ (G = k) := by omega
 have NUG := A7.mk (⟨hb2, hb4⟩ : _ /\ _);clear hb2 hb4;have hRl : ROW.size = G := by rw [hROW]; simp [R8, Value.cells]; omega
 have hRt : ROW.toList.take k = (l.map (pk ad)).take k := by
  rw [hROW];simp only [Array.toList_append, PP];rw [Rn (by simp; omega), Sa]
 obtain ⟨W1, hW1⟩ : ∃ W1, W1 = w.drew.alloc (.cells ROW 58) := ⟨_, rfl⟩;have hg1 : W1.heap[N]? = some (.cells ROW 58 (0, 0)) := by rw [hW1, hN]; exact Pv w.drew _
 have hgx1 : W1.heap[gx]? = some (.cells #[pk ad x] 58 (0, 0)) := by rw [hW1, SH _ _ (show gx < w.drew.heap.size from hxw)]; exact hg
 have hgr1 : W1.heap[g]? = some (.cells cur 58 (0, 0)) := by rw [hW1, SH _ _ (show g < w.drew.heap.size from hgw)]; exact hgr
 rw [<- hW1] at hrz;obtain ⟨c1, hc1⟩ : ∃ c1, c1 = (ROW.toList.take k ++ [pk ad x] ++ ROW.toList.drop (k + [pk ad x].length)).toArray := ⟨_, rfl⟩;have hc1s : c1.size = G := by rw [hc1]; simp; omega
 obtain ⟨c2, hc2⟩ : ∃ c2, c2 = (c1.toList.take (k + 1) ++ (l.drop k).map (pk ad) ++ c1.toList.drop (k + 1 + ((l.drop k).map (pk ad)).length)).toArray := ⟨_, rfl⟩;have hc2s : c2.size = G := by rw [hc2]; simp; omega
 obtain ⟨W2, hW2⟩ : ∃ W2, W2 = W1.setRow N c1 := ⟨_, rfl⟩;have hcpA : ∀ ty dc, (RR #[78, 78] ty #[.slice (some ⟨N, k, none⟩) (cap + 1 - k) dc, .slice (some ⟨gx, 0, none⟩) 1 1]).run Try.prog W1 = .ok (goInt [pk ad x].length) W2 := fun ty dc => by
  rw [hW2, hc1];exact run_copy_row Try.prog W1 78 78 ty 58 N k (cap + 1 - k) dc ⟨gx, 0, none⟩ 1 1 ROW 58 [pk ad x] Try.underlying78 In hg1 (by simp only [QV, Nat.min_def]; split <;> omega)
   (fun j v hj => by
    cases j with
    | zero => rw [show (⟨gx, 0, none⟩ : Addr).add 0 = ⟨gx, 0, none⟩ from rfl, Aa hgx1 0]; simpa using hj
    | succ j => simp at hj) (by simp; omega) (by intro u hu; rw [PC] at hu; subst hu; rfl)
 have hNg : g ≠ N := by omega
 have hg2 : W2.heap[N]? = some (.cells c1 58 (0, 0)) := by rw [hW2]; exact setRow_heap W1 N ROW c1 58 (0, 0) hg1
 have hgr2 : W2.heap[g]? = some (.cells cur 58 (0, 0)) := by rw [hW2, RB _ _ _ _ hNg]; exact hgr1
 obtain ⟨W3, hW3⟩ : ∃ W3, W3 = W2.drew.setRow N c2 := ⟨_, rfl⟩;have hcpB : ∀ ty dc sc, (RR #[78, 78] ty #[.slice (some ⟨N, k + 1, none⟩) (cap + 1 - (k + 1)) dc, .slice (some ⟨g, k, none⟩) (cap - k) sc]).run Try.prog W2.drew = .ok (goInt ((l.drop k).map (pk ad)).length) W3 := fun ty dc sc => by
  rw [hW3, hc2];exact run_copy_row Try.prog W2.drew 78 78 ty 58 N (k + 1) (cap + 1 - (k + 1)) dc ⟨g, k, none⟩ (cap - k) sc c1 58 ((l.drop k).map (pk ad)) Try.underlying78 In hg2 (by rw [hdl]; simp only [Nat.min_def]; split <;> omega)
   (fun j v hj => by
    rw [show (⟨g, k, none⟩ : Addr).add j = ⟨g, k + j, none⟩ from Addr.add_lit ..];exact own_at (w := W2.drew) hgr2 ht (k + j) v (by rw [PU] at hj ⊢; rwa [Qk] at hj)) (by rw [hdl]; omega) (Mp ad _)
 have hfin : Au w0 Z (L.set i (Bw (.slice (some ⟨N, 0, none⟩) (cap + 1) G) 58 1 (Bx l k x).length ((Bx l k x).map (pk ad)))) F W3 := by
  have hil := Hq l (Nat.le_of_lt hk) x;rw [hn] at hil;rw [hil];refine S.updRow i hi ⟨by rw [PM, hil]; omega, .inr ⟨N, G, c2, rfl, Qa _, by rw [hW3]; exact setRow_heap W2.drew N c1 c2 58 (0, 0) hg2, hGn, hGm, by omega, ?_⟩⟩ ⟨by rw [hW3, setRow_os, hW2]; show (W1.setRow N c1).os = _; rw [setRow_os, hW1]; rfl, by rw [hW3, setRow_tape, hW2]; show (W1.setRow N c1).tape = _; rw [setRow_tape, hW1]; rfl, by rw [hW3, Sl, hW2]; show (W1.setRow N c1).output = _; rw [Sl, hW1]; rfl, ?_, fun j hj hjn => ?_⟩ (.inr ⟨N, rfl, by omega⟩)
  ·have hs := KZ ROW.toList (l.map (pk ad)) k cap (pk ad x) (by omega) hml hRt (by simp; omega) c1.toList (by rw [hc1]; rfl);rw [hc2]
   show (c1.toList.take (k + 1) ++ (l.drop k).map (pk ad) ++ c1.toList.drop (k + 1 + ((l.drop k).map (pk ad)).length)).take ((cap + 1) * 1) = _
   rw [RG, RZ, hs];unfold Bx;rw [Qs, Py, Sa, RZ]
  ·rw [hW3, size_setRow, hW2]; show _ <= (W1.setRow N c1).heap.size; rw [size_setRow, hW1]; show _ <= (w.drew.heap.push _).size; rw [Array.size_push]; exact Nat.le_succ _
  ·have hjN : j ≠ N := by omega
   rw [hW3, RB _ _ _ _ hjN, hW2]; show (W1.setRow N c1).heap[j]? = _; rw [RB _ _ _ _ hjN, hW1, SH _ _ (show j < w.drew.heap.size from hj)]; rfl
 have HF := A7.mk (⟨hrz, hcpA, hcpB, hfin⟩ : _ /\ _ /\ _ /\ _);rw [hn];clear S hi hgr hcs ht hg hlen hk hroom hn hml hdl hc1 hc1s hc2 hc2s hrz hcpA hcpB hW1 hW2 hW3 hg1 hgx1 hgr1 hg2 hgr2 hfin hold hik hkk hG hGm hRl hRt hROW hNg hgw hxw hN hi0 hz0 hzs hzb hnc hGn hcm;obtain ⟨hw1, hw2, hw3, hi1, hi2, hz2, hz3, hz4, hb0, hb1, hb3, hb5, hb6, hb7, hb8, hb9, hb10⟩ := NUM.out;obtain ⟨hb2, hb4⟩ := NUG.out;clear NUM NUG;have mixed : Try.prog.follows .mixedOrders = true := by kernel_rfl
 go_enter Try.func44, Try.ntmps44
 go_wp2_with (first
  | ((with_reducible refine Bt (b := .append) (xs := #[.tmp 34, .tmp 39]) rfl ?_); refine Lib.wpList_append_run w rfl (.tmp 34) (.tmp 39) 78 3 rfl (.slice (some ⟨g, 0, none⟩) k cap) (.int .i64 ((cap : Int) + 1 - (k : Int))) (by simp [Q1, Ph]) (by simp [Q1, Ph, hw3]) _ _ (HF.out.1 78) ?_)
  | ((with_reducible refine Bt (b := .copy) (xs := #[.tmp 43, .tmp 44]) rfl ?_); refine wpList_copy_runI W1 rfl (.tmp 43) (.tmp 44) 78 78 rfl (.slice (some ⟨N, k, none⟩) (cap + 1 - k) (G - k)) (.slice (some ⟨gx, 0, none⟩) 1 1) (by simp [Q1, Ph]) (by simp [Q1, Ph]) (HF.out.2.1 3 (G - k)) ?_))
 go_region_law_o (refine step_copy_runI rfl _ _ 78 78 rfl (.slice (some ⟨N, k + 1, none⟩) (cap + 1 - (k + 1)) (G - (k + 1))) (.slice (some ⟨g, k, none⟩) (cap - k) (cap - k)) (by simp [Q1, Ph]) (by simp [Q1, Ph]) (HF.out.2.2.1 _ _ _) ?_)
 go_wp2
 go_ret
 exact ⟨_, rfl, HF.out.2.2.2⟩
theorem Hr {ad : Int -> Nat} {w0 w : Pe} {Z : Nat -> Prop} {L : List Bj} {F : List FA} {v : Pd} {l : List Int} (S : Au w0 Z L F w) (i : Nat) (hi : L[i]? = some (Bw v 58 1 l.length (l.map (pk ad)))) (x : Int) (gx : Nat) (hg : w.heap[gx]? = some (.cells #[pk ad x] 58 (0, 0))) (hne : v.ownBlock ≠ some gx) (hlen : l.length <= 1000000) (k : Nat) (hk : k <= l.length) :
  PJ Try.prog 44 #[v, .int .i64 (k : Int), .slice (some ⟨gx, 0, none⟩) 1 1] w fun e w' => ∃ v', e = .returned v' /\ Au w0 Z (L.set i (Bw v' 58 1 (Bx l k x).length ((Bx l k x).map (pk ad)))) F w' := by
 rcases Nat.lt_or_ge k l.length with hlt | hge
 ·have ho : w.ownsRow 0 58 1 v l.length (l.map (pk ad)) := S.rowAt i hi;rcases ho.2 with h | ⟨g, cap, cur, rfl, _, hgr, hnc, hcm, hcs, ht⟩
  ·have := h.2; omega
  ·by_cases hr : l.length + 1 <= cap
   ·exact Mq S i hi hgr hcm hcs ht x gx hg (fun e => hne (by rw [e]; rfl)) hlen k hlt hr
   ·exact Mr S i hi hgr hcm hcs ht x gx hg hlen k hlt hnc (by omega)
 ·obtain rfl : k = l.length := by omega
  exact No S i hi x gx hg hlen
def CM (l : List Int) (after : Int) : Int := if 0 <= after then AO l after + 1 else 0
theorem Np {w0 w : Pe} {Z : Nat -> Prop} {pre X : List Bj} {F : List FA} {ad : Int -> Nat} {g : List Hk} {jx jp : Nat} {hx hp : Hk} (S : Au w0 Z (GL pre ad g X) F w) (ex : g[jx]? = some hx) (ep : g[jp]? = some hp) (hne : jx ≠ jp)
  (hids : ∀ y ∈ hp.k.kids, ∃ (j : Nat) (h : Hk), g[j]? = some h /\ h.k.id = y) (hlen : hp.k.kids.length <= 1000000) (after : Int) (ha0 : ¬ 0 <= after) :
  PJ Try.prog 31 #[pk ad hp.k.id, pk ad hx.k.id, .int .i64 after] w fun e w' => ∃ v', e = .returned (.tuple #[]) /\ Au w0 Z (GL pre ad ((g.set jp ⟨hp.k.wKids (Bx hp.k.kids 0 hx.k.id), v'⟩).set jx ⟨hx.k.wPar (some hp.k.id), hx.v⟩) X) F w' := by
 have HI : ∀ W, Au w0 Z (GL pre ad g X) F W -> W.cell? ⟨ad hp.k.id, 6, none⟩ = some hp.v /\ PJ Try.prog 44 #[hp.v, .int .i64 ((0 : Nat) : Int), .slice (some ⟨W.heap.size, 0, none⟩) 1 1] (W.alloc (.cells #[pk ad hx.k.id] 58)) (fun e w' => ∃ v', e = .returned v' /\ Au w0 Z ((GL (Al W.heap.size 58 #[pk ad hx.k.id] :: pre) ad g X).set ((Al W.heap.size 58 #[pk ad hx.k.id] :: pre).length + (2 * jp + 1)) (Bw v' 58 1 (Bx hp.k.kids 0 hx.k.id).length ((Bx hp.k.kids 0 hx.k.id).map (pk ad)))) F w') := fun W SW => by
  have S1 : Au w0 Z (GL (Al W.heap.size 58 #[pk ad hx.k.id] :: pre) ad g X) F (W.alloc (.cells #[pk ad hx.k.id] 58)) := SW.box rfl (Pv W _) (Ah (Pn _ _) _);refine ⟨by rw [Aa (AR SW ep) 6]; rfl, Hr S1 _ (CV ep) hx.k.id W.heap.size (S1.at_blk 0 rfl) (fun e => S1.st.row_ne_blk (CV ep) (j := 0) rfl (by simp) e.symm) hlen 0 (Qa _)⟩
 have h60 := (HI w S).1;generalize Bx hp.k.kids 0 hx.k.id = l at HI ⊢;have HD := A7.mk (⟨HI, S⟩ : _ /\ _);clear HI S;obtain ⟨a, ha⟩ : ∃ a, ad hx.k.id = a := ⟨_, rfl⟩;obtain ⟨b, hb⟩ : ∃ b, ad hp.k.id = b := ⟨_, rfl⟩;have HN := A7.mk (⟨trivial, ha, hb, ex, ep, hne⟩ : True /\ _ /\ _ /\ _ /\ _ /\ _);have hpp := A7.mk (show pp ad (some hp.k.id) = .pointer (some ⟨b, 0, none⟩) by show pk ad hp.k.id = _; unfold pk; rw [hb]);simp only [pk, ha, hb] at HD h60 ⊢;clear ha hb ex ep hne hids hlen;go_enter Try.func31, Try.ntmps31
 go_wp2_with ((go_at_call 44; refine (HD.out.1 w HD.out.2).2.mono ?_; rintro e_ w2 ⟨v', rfl, S2⟩; obtain ⟨A2, c2, rfl, _⟩ := Co (S2.rowAt _ (Q0 (Pf.1 (CV HN.out.2.2.2.2.1)).1)); obtain ⟨S3, hc6, hf6⟩ := E3 HN.out.2.2.2.2.1 S2; rw [HN.out.2.2.1] at S3 hc6 hf6; have ex3 := FI (h2 := ⟨hp.k.wKids l, .slice A2 l.length c2⟩) HN.out.2.2.2.2.2 HN.out.2.2.2.1; have hb3 := AR S3 ex3; rw [HN.out.2.1] at hb3; have hx5b := Aa hb3 5; have hx5f := Ad hb3 5; have hx5c := hx5b.trans (show (Dc ad hx.k hx.v)[5]? = some (pp ad hx.k.par) from rfl); have S4 := EM S3 ex3 (some hp.k.id); rw [HN.out.2.1, hpp.out] at S4; replace S4 := A7.mk S4; clear hb3 hx5b S3 S2 ex3))
 refine bodyPost_end (results_none rfl _ _ _) rfl ?_;exact ⟨_, rfl, Au.drop (a := Al w.heap.size 58 #[.pointer (some ⟨a, 0, none⟩)]) (l := GL pre ad _ X) S4.out⟩
theorem Nq {w0 w : Pe} {Z : Nat -> Prop} {pre X : List Bj} {F : List FA} {ad : Int -> Nat} {g : List Hk} {jx jp : Nat} {hx hp : Hk} (S : Au w0 Z (GL pre ad g X) F w) (ex : g[jx]? = some hx) (ep : g[jp]? = some hp) (hne : jx ≠ jp)
  (hids : ∀ y ∈ hp.k.kids, ∃ (j : Nat) (h : Hk), g[j]? = some h /\ h.k.id = y) (hlen : hp.k.kids.length <= 1000000) (after : Int) (k : Nat) (hkl : k <= hp.k.kids.length) (ha0 : 0 <= after) (hk : AO hp.k.kids after = (k : Int) - 1) :
  PJ Try.prog 31 #[pk ad hp.k.id, pk ad hx.k.id, .int .i64 after] w fun e w' => ∃ v', e = .returned (.tuple #[]) /\ Au w0 Z (GL pre ad ((g.set jp ⟨hp.k.wKids (Bx hp.k.kids k hx.k.id), v'⟩).set jx ⟨hx.k.wPar (some hp.k.id), hx.v⟩) X) F w' := by
 have HI : ∀ W, Au w0 Z (GL pre ad g X) F W -> W.cell? ⟨ad hp.k.id, 6, none⟩ = some hp.v /\ PJ Try.prog 44 #[hp.v, .int .i64 ((k : Nat) : Int), .slice (some ⟨W.heap.size, 0, none⟩) 1 1] (W.alloc (.cells #[pk ad hx.k.id] 58)) (fun e w' => ∃ v', e = .returned v' /\ Au w0 Z ((GL (Al W.heap.size 58 #[pk ad hx.k.id] :: pre) ad g X).set ((Al W.heap.size 58 #[pk ad hx.k.id] :: pre).length + (2 * jp + 1)) (Bw v' 58 1 (Bx hp.k.kids k hx.k.id).length ((Bx hp.k.kids k hx.k.id).map (pk ad)))) F w') := fun W SW => by
  have S1 : Au w0 Z (GL (Al W.heap.size 58 #[pk ad hx.k.id] :: pre) ad g X) F (W.alloc (.cells #[pk ad hx.k.id] 58)) := SW.box rfl (Pv W _) (Ah (Pn _ _) _);refine ⟨by rw [Aa (AR SW ep) 6]; rfl, Hr S1 _ (CV ep) hx.k.id W.heap.size (S1.at_blk 0 rfl) (fun e => S1.st.row_ne_blk (CV ep) (j := 0) rfl (by simp) e.symm) hlen k hkl⟩
 have hP := Bq ad hp.k hp.v after w (AR S ep) (C5 S ep) (fun y hy => by obtain ⟨jy, hy', e1, e2⟩ := hids y hy; rw [<- e2, Aa (AR S e1) 0]; rfl);rw [hk] at hP;have hk63 : (k : Int) <= 1000000 := by omega
 have hwk : Pq (k : Int) = (k : Int) := by unfold Pq; omega
 have hwk2 : Pq ((k : Int) - 1 + 1) = (k : Int) := by unfold Pq; omega
 have HP := A7.mk hP;clear hP hk hk63 hkl;generalize Bx hp.k.kids k hx.k.id = l at HI ⊢;have HD := A7.mk (⟨HI, S⟩ : _ /\ _);clear HI S;obtain ⟨a, ha⟩ : ∃ a, ad hx.k.id = a := ⟨_, rfl⟩;obtain ⟨b, hb⟩ : ∃ b, ad hp.k.id = b := ⟨_, rfl⟩;have HN := A7.mk (⟨trivial, ha, hb, ex, ep, hne⟩ : True /\ _ /\ _ /\ _ /\ _ /\ _);have hpp := A7.mk (show pp ad (some hp.k.id) = .pointer (some ⟨b, 0, none⟩) by show pk ad hp.k.id = _; unfold pk; rw [hb]);simp only [pk, ha, hb] at HD HP ⊢;clear ha hb ex ep hne hids hlen;go_enter Try.func31, Try.ntmps31
 go_wp2_with (first | (go_at_call 29; refine HP.out.mono ?_; rintro e_ w1 ⟨rfl, hB⟩; have SW := HD.out.2.keep hB; have h60 := (HD.out.1 w1 SW).1; replace SW := A7.mk SW; clear hB) | (go_at_call 44; refine (HD.out.1 w1 SW.out).2.mono ?_; rintro e_ w2 ⟨v', rfl, S2⟩; obtain ⟨A2, c2, rfl, _⟩ := Co (S2.rowAt _ (Q0 (Pf.1 (CV HN.out.2.2.2.2.1)).1)); obtain ⟨S3, hc6, hf6⟩ := E3 HN.out.2.2.2.2.1 S2; rw [HN.out.2.2.1] at S3 hc6 hf6; have ex3 := FI (h2 := ⟨hp.k.wKids l, .slice A2 l.length c2⟩) HN.out.2.2.2.2.2 HN.out.2.2.2.1; have hb3 := AR S3 ex3; rw [HN.out.2.1] at hb3; have hx5b := Aa hb3 5; have hx5f := Ad hb3 5; have hx5c := hx5b.trans (show (Dc ad hx.k hx.v)[5]? = some (pp ad hx.k.par) from rfl); have S4 := EM S3 ex3 (some hp.k.id); rw [HN.out.2.1, hpp.out] at S4; replace S4 := A7.mk S4; clear hb3 hx5b S3 S2 ex3))
 refine bodyPost_end (results_none rfl _ _ _) rfl ?_;exact ⟨_, rfl, Au.drop (a := Al w1.heap.size 58 #[.pointer (some ⟨a, 0, none⟩)]) (l := GL pre ad _ X) S4.out⟩
theorem FJ {w0 w : Pe} {Z : Nat -> Prop} {pre X : List Bj} {F : List FA} {ad : Int -> Nat} {g : List Hk} {jx jp : Nat} {hx hp : Hk} (S : Au w0 Z (GL pre ad g X) F w) (ex : g[jx]? = some hx) (ep : g[jp]? = some hp) (hne : jx ≠ jp)
  (hids : ∀ y ∈ hp.k.kids, ∃ (j : Nat) (h : Hk), g[j]? = some h /\ h.k.id = y) (hlen : hp.k.kids.length <= 1000000) (after : Int) :
  PJ Try.prog 31 #[pk ad hp.k.id, pk ad hx.k.id, .int .i64 after] w fun e w' => ∃ v', e = .returned (.tuple #[]) /\ Au w0 Z (GL pre ad ((g.set jp ⟨hp.k.wKids (Bx hp.k.kids (CM hp.k.kids after).toNat hx.k.id), v'⟩).set jx ⟨hx.k.wPar (some hp.k.id), hx.v⟩) X) F w' := by
 have hB := DL hp.k.kids after;unfold CM;by_cases h : 0 <= after
 ·rw [if_pos h];exact Nq S ex ep hne hids hlen after _ (by omega) h (by omega)
 ·rw [if_neg h];exact Np S ex ep hne hids hlen after h
theorem Ab {w0 w : Pe} {Z : Nat -> Prop} {L : List Bj} {F : List FA} (S : Au w0 Z L F w) : Au w0 Z L F w.drew := S.keep ⟨rfl, rfl, rfl, Ps _, fun _ _ => rfl⟩
theorem Ms {w0 w : Pe} {Z : Nat -> Prop} {pre X : List Bj} {F : List FA} {ad : Int -> Nat} {g : List Hk} {gb bm m : Nat} {ids : List Int} (S : Au w0 Z (GL (Al gb 61 #[.map (some bm)] :: Bg bm m ad ids :: pre) ad g X) F w)
  (id pa af ki : Int) (tx tr : ByteArray) (h1 : in64 id) (h2 : in64 pa) (hid : id ∈ ids) (hpa : pa ∉ ids) {jx : Nat} {hx : Hk} (ex : g[jx]? = some hx) (hxi : hx.k.id = id) :
  PJ Try.prog 21 #[.pointer (some ⟨gb, 0, none⟩), .agg #[.int .i64 3, .int .i64 id, .int .i64 pa, .int .i64 af, .int .i64 ki, .string tx, .string tr]] w fun e w' => e = .returned (.bool true) /\ Au w0 Z (GL (Al gb 61 #[.map (some bm)] :: Bg bm m ad ids :: pre) ad (g.set jx ⟨hx.k.wText tx tr, hx.v⟩) X) F w' := by
 obtain ⟨EC, hEC⟩ : ∃ EC : Array Pd, EC = #[.int .i64 3, .int .i64 id, .int .i64 pa, .int .i64 af, .int .i64 ki, .string tx, .string tr] := ⟨_, rfl⟩;have S1 : Au w0 Z (GL (Al w.heap.size 54 EC :: Al gb 61 #[.map (some bm)] :: Bg bm m ad ids :: pre) ad g X) F (w.alloc (.cells EC 54)) := S.box rfl (Pv w _) (Ah (Pn _ _) _);have l1 := AL (Ab S1) 2 rfl h1;have l2 := AL (Ab (Ab S1)) 2 rfl h2;have hgb1 : (w.alloc (.cells EC 54)).cell? ⟨gb, 0, none⟩ = some (.map (some bm)) := (Aa (S1.at_blk 1 rfl) 0).trans rfl;have hxb := AR S1 ex;have hx2 := (Aa hxb 2).trans (show (Dc ad hx.k hx.v)[2]? = some (.string hx.k.text) from rfl);have hx3 := (Aa hxb 3).trans (show (Dc ad hx.k hx.v)[3]? = some (.string hx.k.trail) from rfl);have hf2 := Ad hxb 2;have hf3 := Ad hxb 3;have SF := A7.mk (F7 S1 ex tx tr);obtain ⟨a, ha⟩ : ∃ a, ad id = a := ⟨_, rfl⟩;rw [hxi, ha] at hx2 hx3 hf2 hf3 SF;rw [if_pos hid, decide_eq_true hid] at l1;rw [if_neg hpa, decide_eq_false hpa] at l2;simp only [pk, ha] at l1;rw [hEC] at l1 l2 hgb1 hx2 hx3 hf2 hf3 SF;clear S S1 hxb h1 h2 hid hpa ex hxi ha hEC EC;have mixed : Try.prog.follows .mixedOrders = true := by kernel_rfl
 go_enter Try.func21, Try.ntmps21;go_wp2
 go_region_o
 go_wp2
 go_region_o
 go_wp2
 go_region_o
 go_wp2
 go_ret
 exact ⟨rfl, Ab (Ab (Ab (Au.drop (l := GL (Al gb 61 #[.map (some bm)] :: Bg bm m ad ids :: pre) ad _ X) SF.out)))⟩
theorem Mt {w0 w : Pe} {Z : Nat -> Prop} {pre X : List Bj} {F : List FA} {ad : Int -> Nat} {g : List Hk} {gb bm m : Nat} {ids : List Int} (S : Au w0 Z (GL (Al gb 61 #[.map (some bm)] :: Bg bm m ad ids :: pre) ad g X) F w)
  (id pa af ki : Int) (tx tr : ByteArray) (h1 : in64 id) (h2 : in64 pa) (hid : id ∈ ids) (hpa : pa ∈ ids) (haf : af = -1) {jx : Nat} {hx : Hk} (ex : g[jx]? = some hx) (hxi : hx.k.id = id) :
  PJ Try.prog 21 #[.pointer (some ⟨gb, 0, none⟩), .agg #[.int .i64 3, .int .i64 id, .int .i64 pa, .int .i64 af, .int .i64 ki, .string tx, .string tr]] w fun e w' => e = .returned (.bool true) /\ Au w0 Z (GL (Al gb 61 #[.map (some bm)] :: Bg bm m ad ids :: pre) ad (g.set jx ⟨hx.k.wText tx tr, hx.v⟩) X) F w' := by
 obtain ⟨EC, hEC⟩ : ∃ EC : Array Pd, EC = #[.int .i64 3, .int .i64 id, .int .i64 pa, .int .i64 af, .int .i64 ki, .string tx, .string tr] := ⟨_, rfl⟩;have S1 : Au w0 Z (GL (Al w.heap.size 54 EC :: Al gb 61 #[.map (some bm)] :: Bg bm m ad ids :: pre) ad g X) F (w.alloc (.cells EC 54)) := S.box rfl (Pv w _) (Ah (Pn _ _) _);have l1 := AL (Ab S1) 2 rfl h1;have l2 := AL (Ab (Ab S1)) 2 rfl h2;have hgb1 : (w.alloc (.cells EC 54)).cell? ⟨gb, 0, none⟩ = some (.map (some bm)) := (Aa (S1.at_blk 1 rfl) 0).trans rfl;have hxb := AR S1 ex;have hx2 := (Aa hxb 2).trans (show (Dc ad hx.k hx.v)[2]? = some (.string hx.k.text) from rfl);have hx3 := (Aa hxb 3).trans (show (Dc ad hx.k hx.v)[3]? = some (.string hx.k.trail) from rfl);have hf2 := Ad hxb 2;have hf3 := Ad hxb 3;have SF := A7.mk (F7 S1 ex tx tr);obtain ⟨a, ha⟩ : ∃ a, ad id = a := ⟨_, rfl⟩;rw [hxi, ha] at hx2 hx3 hf2 hf3 SF;rw [if_pos hid, decide_eq_true hid] at l1;subst haf;rw [if_pos hpa, decide_eq_true hpa] at l2;obtain ⟨c, hc⟩ : ∃ c, ad pa = c := ⟨_, rfl⟩;simp only [pk, ha] at l1;simp only [pk, hc] at l2;rw [hEC] at l1 l2 hgb1 hx2 hx3 hf2 hf3 SF;clear hc S S1 hxb h1 h2 hid hpa ex hxi ha hEC EC;have mixed : Try.prog.follows .mixedOrders = true := by kernel_rfl
 go_enter Try.func21, Try.ntmps21;go_wp2
 go_region_o
 go_wp2
 go_region_o
 go_wp2
 go_region_o
 go_wp2
 go_ret
 exact ⟨rfl, Ab (Ab (Ab (Au.drop (l := GL (Al gb 61 #[.map (some bm)] :: Bg bm m ad ids :: pre) ad _ X) SF.out)))⟩
theorem Mu {w0 w : Pe} {Z : Nat -> Prop} {pre X : List Bj} {F : List FA} {ad : Int -> Nat} {g : List Hk} {gb bm m : Nat} {ids : List Int} (S : Au w0 Z (GL (Al gb 61 #[.map (some bm)] :: Bg bm m ad ids :: pre) ad g X) F w)
  (id pa af ki : Int) (tx tr : ByteArray) (h1 : in64 id) (h2 : in64 pa) (hid : id ∈ ids) (hpa : pa ∈ ids) (haf : ¬ af = -1) {jp : Nat} {hp : Hk} (ep : g[jp]? = some hp) (hpi : hp.k.id = pa) (hids : ∀ y ∈ hp.k.kids, ∃ (j : Nat) (h : Hk), g[j]? = some h /\ h.k.id = y) {jx : Nat} {hx : Hk} (ex : g[jx]? = some hx) (hxi : hx.k.id = id) :
  PJ Try.prog 21 #[.pointer (some ⟨gb, 0, none⟩), .agg #[.int .i64 3, .int .i64 id, .int .i64 pa, .int .i64 af, .int .i64 ki, .string tx, .string tr]] w fun e w' => e = .returned (.bool true) /\ Au w0 Z (GL (Al gb 61 #[.map (some bm)] :: Bg bm m ad ids :: pre) ad (g.set jx ⟨hx.k.wText tx tr, hx.v⟩) X) F w' := by
 obtain ⟨EC, hEC⟩ : ∃ EC : Array Pd, EC = #[.int .i64 3, .int .i64 id, .int .i64 pa, .int .i64 af, .int .i64 ki, .string tx, .string tr] := ⟨_, rfl⟩;have S1 : Au w0 Z (GL (Al w.heap.size 54 EC :: Al gb 61 #[.map (some bm)] :: Bg bm m ad ids :: pre) ad g X) F (w.alloc (.cells EC 54)) := S.box rfl (Pv w _) (Ah (Pn _ _) _);have l1 := AL (Ab S1) 2 rfl h1;have l2 := AL (Ab (Ab S1)) 2 rfl h2;have hgb1 : (w.alloc (.cells EC 54)).cell? ⟨gb, 0, none⟩ = some (.map (some bm)) := (Aa (S1.at_blk 1 rfl) 0).trans rfl;have SP := Ab (Ab S1);have HP := Bq ad hp.k hp.v af _ (AR SP ep) (C5 SP ep) (fun y hy => by obtain ⟨jy, hy', e1, e2⟩ := hids y hy; rw [<- e2, Aa (AR SP e1) 0]; rfl);obtain ⟨R, hR⟩ : ∃ R, AO hp.k.kids af = R := ⟨_, rfl⟩;rw [hR] at HP;obtain ⟨a, ha⟩ : ∃ a, ad id = a := ⟨_, rfl⟩;obtain ⟨c, hc⟩ : ∃ c, ad pa = c := ⟨_, rfl⟩;have HX := A7.mk (⟨hxi, ha, SP, ex, hEC⟩ : _ /\ _ /\ _ /\ _ /\ _);rw [if_pos hid, decide_eq_true hid] at l1;rw [if_pos hpa, decide_eq_true hpa] at l2;simp only [pk, ha] at l1;simp only [pk, hc] at l2;rw [hpi] at HP;simp only [pk, hc] at HP;replace HP := A7.mk HP;rw [hEC] at l1 l2 hgb1 HP HX;clear hc S S1 SP h1 h2 hid hpa ex ep hids hpi hR hxi ha hEC EC;have mixed : Try.prog.follows .mixedOrders = true := by kernel_rfl
 go_enter Try.func21, Try.ntmps21;go_wp2
 go_region_o
 go_wp2
 go_region_o
 go_wp2_with (go_at_call 29; refine HP.out.mono ?_; rintro e_ w1 ⟨rfl, hB⟩; have S2 := HX.out.2.2.1.keep hB; have q0 := (Aa (S2.at_blk 0 rfl) 0).trans rfl; have q5 := (Aa (S2.at_blk 0 rfl) 5).trans rfl; have q6 := (Aa (S2.at_blk 0 rfl) 6).trans rfl; have hxb := AR S2 HX.out.2.2.2.1; rw [HX.out.1, HX.out.2.1] at hxb; have hx2 := (Aa hxb 2).trans (show (Dc ad hx.k hx.v)[2]? = some (.string hx.k.text) from rfl); have hx3 := (Aa hxb 3).trans (show (Dc ad hx.k hx.v)[3]? = some (.string hx.k.trail) from rfl); have hf2 := Ad hxb 2; have hf3 := Ad hxb 3; have SF := F7 S2 HX.out.2.2.2.1 tx tr; rw [HX.out.1, HX.out.2.1] at SF; replace SF := A7.mk SF; clear hxb S2 hB)
 go_region_o
 go_wp2
 go_ret
 exact ⟨rfl, Ab (Au.drop (l := GL (Al gb 61 #[.map (some bm)] :: Bg bm m ad ids :: pre) ad _ X) SF.out)⟩
theorem L0 {w0 w : Pe} {Z : Nat -> Prop} {pre X : List Bj} {F : List FA} {ad : Int -> Nat} {g : List Hk} {gb bm m : Nat} {ids : List Int} (S : Au w0 Z (GL (Al gb 61 #[.map (some bm)] :: Bg bm m ad ids :: pre) ad g X) F w)
  (id pa af ki : Int) (tx tr : ByteArray) (h1 : in64 id) (h2 : in64 pa) (hid : id ∉ ids) (hpa : pa ∉ ids) :
  PJ Try.prog 21 #[.pointer (some ⟨gb, 0, none⟩), .agg #[.int .i64 2, .int .i64 id, .int .i64 pa, .int .i64 af, .int .i64 ki, .string tx, .string tr]] w fun e w' => e = .returned (.bool BK) /\ Au w0 Z (GL (Al gb 61 #[.map (some bm)] :: Bg bm m ad ids :: pre) ad g X) F w' := by
 obtain ⟨EC, hEC⟩ : ∃ EC : Array Pd, EC = #[.int .i64 2, .int .i64 id, .int .i64 pa, .int .i64 af, .int .i64 ki, .string tx, .string tr] := ⟨_, rfl⟩;have S1 : Au w0 Z (GL (Al w.heap.size 54 EC :: Al gb 61 #[.map (some bm)] :: Bg bm m ad ids :: pre) ad g X) F (w.alloc (.cells EC 54)) := S.box rfl (Pv w _) (Ah (Pn _ _) _);have l1 := AL (Ab S1) 2 rfl h1;have l2 := AL (Ab (Ab S1)) 2 rfl h2;have hgb1 : (w.alloc (.cells EC 54)).cell? ⟨gb, 0, none⟩ = some (.map (some bm)) := (Aa (S1.at_blk 1 rfl) 0).trans rfl;have SP := Ab (Ab S1);rw [if_neg hid, decide_eq_false hid] at l1;rw [if_neg hpa, decide_eq_false hpa] at l2;rw [hEC] at l1 l2 hgb1 SP;replace SP := A7.mk SP;clear S S1 h1 h2 hid hpa hEC EC;have mixed : Try.prog.follows .mixedOrders = true := by kernel_rfl
 go_enter Try.func21, Try.ntmps21;go_wp2
 go_region_o
 go_wp2
 go_region_o
 go_wp2
 go_ret
 exact ⟨rfl, Au.drop (l := GL (Al gb 61 #[.map (some bm)] :: Bg bm m ad ids :: pre) ad _ X) SP.out⟩
theorem L3 {w0 w : Pe} {Z : Nat -> Prop} {pre X : List Bj} {F : List FA} {ad : Int -> Nat} {g : List Hk} {gb bm m : Nat} {ids : List Int} (S : Au w0 Z (GL (Al gb 61 #[.map (some bm)] :: Bg bm m ad ids :: pre) ad g X) F w)
  (id pa af ki : Int) (tx tr : ByteArray) (h1 : in64 id) (h2 : in64 pa) (hid : id ∉ ids) (hpa : pa ∈ ids) (haf : af = -1) :
  PJ Try.prog 21 #[.pointer (some ⟨gb, 0, none⟩), .agg #[.int .i64 2, .int .i64 id, .int .i64 pa, .int .i64 af, .int .i64 ki, .string tx, .string tr]] w fun e w' => e = .returned (.bool BK) /\ Au w0 Z (GL (Al gb 61 #[.map (some bm)] :: Bg bm m ad ids :: pre) ad g X) F w' := by
 obtain ⟨EC, hEC⟩ : ∃ EC : Array Pd, EC = #[.int .i64 2, .int .i64 id, .int .i64 pa, .int .i64 af, .int .i64 ki, .string tx, .string tr] := ⟨_, rfl⟩;have S1 : Au w0 Z (GL (Al w.heap.size 54 EC :: Al gb 61 #[.map (some bm)] :: Bg bm m ad ids :: pre) ad g X) F (w.alloc (.cells EC 54)) := S.box rfl (Pv w _) (Ah (Pn _ _) _);have l1 := AL (Ab S1) 2 rfl h1;have l2 := AL (Ab (Ab S1)) 2 rfl h2;have hgb1 : (w.alloc (.cells EC 54)).cell? ⟨gb, 0, none⟩ = some (.map (some bm)) := (Aa (S1.at_blk 1 rfl) 0).trans rfl;have SP := Ab (Ab S1);rw [if_neg hid, decide_eq_false hid] at l1;subst haf;rw [if_pos hpa, decide_eq_true hpa] at l2;obtain ⟨c, hc⟩ : ∃ c, ad pa = c := ⟨_, rfl⟩;simp only [pk, hc] at l2;rw [hEC] at l1 l2 hgb1 SP;replace SP := A7.mk SP;clear hc S S1 h1 h2 hid hpa hEC EC;have mixed : Try.prog.follows .mixedOrders = true := by kernel_rfl
 go_enter Try.func21, Try.ntmps21;go_wp2
 go_region_o
 go_wp2
 go_region_o
 go_wp2
 go_ret
 exact ⟨rfl, Au.drop (l := GL (Al gb 61 #[.map (some bm)] :: Bg bm m ad ids :: pre) ad _ X) SP.out⟩
theorem L4 {w0 w : Pe} {Z : Nat -> Prop} {pre X : List Bj} {F : List FA} {ad : Int -> Nat} {g : List Hk} {gb bm m : Nat} {ids : List Int} (S : Au w0 Z (GL (Al gb 61 #[.map (some bm)] :: Bg bm m ad ids :: pre) ad g X) F w)
  (id pa af ki : Int) (tx tr : ByteArray) (h1 : in64 id) (h2 : in64 pa) (hid : id ∉ ids) (hpa : pa ∈ ids) (haf : ¬ af = -1) {jp : Nat} {hp : Hk} (ep : g[jp]? = some hp) (hpi : hp.k.id = pa) (hids : ∀ y ∈ hp.k.kids, ∃ (j : Nat) (h : Hk), g[j]? = some h /\ h.k.id = y) :
  PJ Try.prog 21 #[.pointer (some ⟨gb, 0, none⟩), .agg #[.int .i64 2, .int .i64 id, .int .i64 pa, .int .i64 af, .int .i64 ki, .string tx, .string tr]] w fun e w' => e = .returned (.bool BK) /\ Au w0 Z (GL (Al gb 61 #[.map (some bm)] :: Bg bm m ad ids :: pre) ad g X) F w' := by
 obtain ⟨EC, hEC⟩ : ∃ EC : Array Pd, EC = #[.int .i64 2, .int .i64 id, .int .i64 pa, .int .i64 af, .int .i64 ki, .string tx, .string tr] := ⟨_, rfl⟩;have S1 : Au w0 Z (GL (Al w.heap.size 54 EC :: Al gb 61 #[.map (some bm)] :: Bg bm m ad ids :: pre) ad g X) F (w.alloc (.cells EC 54)) := S.box rfl (Pv w _) (Ah (Pn _ _) _);have l1 := AL (Ab S1) 2 rfl h1;have l2 := AL (Ab (Ab S1)) 2 rfl h2;have hgb1 : (w.alloc (.cells EC 54)).cell? ⟨gb, 0, none⟩ = some (.map (some bm)) := (Aa (S1.at_blk 1 rfl) 0).trans rfl;have SP := Ab (Ab S1);rw [if_neg hid, decide_eq_false hid] at l1;have HP := Bq ad hp.k hp.v af _ (AR SP ep) (C5 SP ep) (fun y hy => by obtain ⟨jy, hy', e1, e2⟩ := hids y hy; rw [<- e2, Aa (AR SP e1) 0]; rfl);obtain ⟨R, hR⟩ : ∃ R, AO hp.k.kids af = R := ⟨_, rfl⟩;rw [hR] at HP;obtain ⟨c, hc⟩ : ∃ c, ad pa = c := ⟨_, rfl⟩;rw [if_pos hpa, decide_eq_true hpa] at l2;simp only [pk, hc] at l2;rw [hpi] at HP;simp only [pk, hc] at HP;replace HP := A7.mk HP;rw [hEC] at l1 l2 hgb1 HP SP;replace SP := A7.mk SP;clear hc S S1 h1 h2 hid hpa ep hids hpi hR hEC EC;have mixed : Try.prog.follows .mixedOrders = true := by kernel_rfl
 go_enter Try.func21, Try.ntmps21;go_wp2
 go_region_o
 go_wp2
 go_region_o
 go_wp2_with (go_at_call 29; refine HP.out.mono ?_; rintro e_ w1 ⟨rfl, hB⟩; have S2 := SP.out.keep hB; have q0 := (Aa (S2.at_blk 0 rfl) 0).trans rfl; replace S2 := A7.mk S2; clear hB)
 go_ret
 exact ⟨rfl, Au.drop (l := GL (Al gb 61 #[.map (some bm)] :: Bg bm m ad ids :: pre) ad _ X) S2.out⟩
theorem L5 {w0 w : Pe} {Z : Nat -> Prop} {pre X : List Bj} {F : List FA} {ad : Int -> Nat} {g : List Hk} {gb bm m : Nat} {ids : List Int} (S : Au w0 Z (GL (Al gb 61 #[.map (some bm)] :: Bg bm m ad ids :: pre) ad g X) F w)
  (id pa af ki : Int) (tx tr : ByteArray) (h1 : in64 id) (h2 : in64 pa) (hid : id ∉ ids) (hpa : pa ∉ ids) :
  PJ Try.prog 21 #[.pointer (some ⟨gb, 0, none⟩), .agg #[.int .i64 3, .int .i64 id, .int .i64 pa, .int .i64 af, .int .i64 ki, .string tx, .string tr]] w fun e w' => e = .returned (.bool BK) /\ Au w0 Z (GL (Al gb 61 #[.map (some bm)] :: Bg bm m ad ids :: pre) ad g X) F w' := by
 obtain ⟨EC, hEC⟩ : ∃ EC : Array Pd, EC = #[.int .i64 3, .int .i64 id, .int .i64 pa, .int .i64 af, .int .i64 ki, .string tx, .string tr] := ⟨_, rfl⟩;have S1 : Au w0 Z (GL (Al w.heap.size 54 EC :: Al gb 61 #[.map (some bm)] :: Bg bm m ad ids :: pre) ad g X) F (w.alloc (.cells EC 54)) := S.box rfl (Pv w _) (Ah (Pn _ _) _);have l1 := AL (Ab S1) 2 rfl h1;have l2 := AL (Ab (Ab S1)) 2 rfl h2;have hgb1 : (w.alloc (.cells EC 54)).cell? ⟨gb, 0, none⟩ = some (.map (some bm)) := (Aa (S1.at_blk 1 rfl) 0).trans rfl;have SP := Ab (Ab S1);rw [if_neg hid, decide_eq_false hid] at l1;rw [if_neg hpa, decide_eq_false hpa] at l2;rw [hEC] at l1 l2 hgb1 SP;replace SP := A7.mk SP;clear S S1 h1 h2 hid hpa hEC EC;have mixed : Try.prog.follows .mixedOrders = true := by kernel_rfl
 go_enter Try.func21, Try.ntmps21;go_wp2
 go_region_o
 go_wp2
 go_region_o
 go_wp2
 go_ret
 exact ⟨rfl, Au.drop (l := GL (Al gb 61 #[.map (some bm)] :: Bg bm m ad ids :: pre) ad _ X) SP.out⟩
theorem L6 {w0 w : Pe} {Z : Nat -> Prop} {pre X : List Bj} {F : List FA} {ad : Int -> Nat} {g : List Hk} {gb bm m : Nat} {ids : List Int} (S : Au w0 Z (GL (Al gb 61 #[.map (some bm)] :: Bg bm m ad ids :: pre) ad g X) F w)
  (id pa af ki : Int) (tx tr : ByteArray) (h1 : in64 id) (h2 : in64 pa) (hid : id ∉ ids) (hpa : pa ∈ ids) (haf : af = -1) :
  PJ Try.prog 21 #[.pointer (some ⟨gb, 0, none⟩), .agg #[.int .i64 3, .int .i64 id, .int .i64 pa, .int .i64 af, .int .i64 ki, .string tx, .string tr]] w fun e w' => e = .returned (.bool BK) /\ Au w0 Z (GL (Al gb 61 #[.map (some bm)] :: Bg bm m ad ids :: pre) ad g X) F w' := by
 obtain ⟨EC, hEC⟩ : ∃ EC : Array Pd, EC = #[.int .i64 3, .int .i64 id, .int .i64 pa, .int .i64 af, .int .i64 ki, .string tx, .string tr] := ⟨_, rfl⟩;have S1 : Au w0 Z (GL (Al w.heap.size 54 EC :: Al gb 61 #[.map (some bm)] :: Bg bm m ad ids :: pre) ad g X) F (w.alloc (.cells EC 54)) := S.box rfl (Pv w _) (Ah (Pn _ _) _);have l1 := AL (Ab S1) 2 rfl h1;have l2 := AL (Ab (Ab S1)) 2 rfl h2;have hgb1 : (w.alloc (.cells EC 54)).cell? ⟨gb, 0, none⟩ = some (.map (some bm)) := (Aa (S1.at_blk 1 rfl) 0).trans rfl;have SP := Ab (Ab S1);rw [if_neg hid, decide_eq_false hid] at l1;subst haf;rw [if_pos hpa, decide_eq_true hpa] at l2;obtain ⟨c, hc⟩ : ∃ c, ad pa = c := ⟨_, rfl⟩;simp only [pk, hc] at l2;rw [hEC] at l1 l2 hgb1 SP;replace SP := A7.mk SP;clear hc S S1 h1 h2 hid hpa hEC EC;have mixed : Try.prog.follows .mixedOrders = true := by kernel_rfl
 go_enter Try.func21, Try.ntmps21;go_wp2
 go_region_o
 go_wp2
 go_region_o
 go_wp2
 go_ret
 exact ⟨rfl, Au.drop (l := GL (Al gb 61 #[.map (some bm)] :: Bg bm m ad ids :: pre) ad _ X) SP.out⟩
theorem L7 {w0 w : Pe} {Z : Nat -> Prop} {pre X : List Bj} {F : List FA} {ad : Int -> Nat} {g : List Hk} {gb bm m : Nat} {ids : List Int} (S : Au w0 Z (GL (Al gb 61 #[.map (some bm)] :: Bg bm m ad ids :: pre) ad g X) F w)
  (id pa af ki : Int) (tx tr : ByteArray) (h1 : in64 id) (h2 : in64 pa) (hid : id ∉ ids) (hpa : pa ∈ ids) (haf : ¬ af = -1) {jp : Nat} {hp : Hk} (ep : g[jp]? = some hp) (hpi : hp.k.id = pa) (hids : ∀ y ∈ hp.k.kids, ∃ (j : Nat) (h : Hk), g[j]? = some h /\ h.k.id = y) :
  PJ Try.prog 21 #[.pointer (some ⟨gb, 0, none⟩), .agg #[.int .i64 3, .int .i64 id, .int .i64 pa, .int .i64 af, .int .i64 ki, .string tx, .string tr]] w fun e w' => e = .returned (.bool BK) /\ Au w0 Z (GL (Al gb 61 #[.map (some bm)] :: Bg bm m ad ids :: pre) ad g X) F w' := by
 obtain ⟨EC, hEC⟩ : ∃ EC : Array Pd, EC = #[.int .i64 3, .int .i64 id, .int .i64 pa, .int .i64 af, .int .i64 ki, .string tx, .string tr] := ⟨_, rfl⟩;have S1 : Au w0 Z (GL (Al w.heap.size 54 EC :: Al gb 61 #[.map (some bm)] :: Bg bm m ad ids :: pre) ad g X) F (w.alloc (.cells EC 54)) := S.box rfl (Pv w _) (Ah (Pn _ _) _);have l1 := AL (Ab S1) 2 rfl h1;have l2 := AL (Ab (Ab S1)) 2 rfl h2;have hgb1 : (w.alloc (.cells EC 54)).cell? ⟨gb, 0, none⟩ = some (.map (some bm)) := (Aa (S1.at_blk 1 rfl) 0).trans rfl;have SP := Ab (Ab S1);rw [if_neg hid, decide_eq_false hid] at l1;have HP := Bq ad hp.k hp.v af _ (AR SP ep) (C5 SP ep) (fun y hy => by obtain ⟨jy, hy', e1, e2⟩ := hids y hy; rw [<- e2, Aa (AR SP e1) 0]; rfl);obtain ⟨R, hR⟩ : ∃ R, AO hp.k.kids af = R := ⟨_, rfl⟩;rw [hR] at HP;obtain ⟨c, hc⟩ : ∃ c, ad pa = c := ⟨_, rfl⟩;rw [if_pos hpa, decide_eq_true hpa] at l2;simp only [pk, hc] at l2;rw [hpi] at HP;simp only [pk, hc] at HP;replace HP := A7.mk HP;rw [hEC] at l1 l2 hgb1 HP SP;replace SP := A7.mk SP;clear hc S S1 h1 h2 hid hpa ep hids hpi hR hEC EC;have mixed : Try.prog.follows .mixedOrders = true := by kernel_rfl
 go_enter Try.func21, Try.ntmps21;go_wp2
 go_region_o
 go_wp2
 go_region_o
 go_wp2_with (go_at_call 29; refine HP.out.mono ?_; rintro e_ w1 ⟨rfl, hB⟩; have S2 := SP.out.keep hB; have q0 := (Aa (S2.at_blk 0 rfl) 0).trans rfl; replace S2 := A7.mk S2; clear hB)
 go_ret
 exact ⟨rfl, Au.drop (l := GL (Al gb 61 #[.map (some bm)] :: Bg bm m ad ids :: pre) ad _ X) S2.out⟩
theorem L8 {w0 w : Pe} {Z : Nat -> Prop} {pre X : List Bj} {F : List FA} {ad : Int -> Nat} {g : List Hk} {gb bm m : Nat} {ids : List Int} (S : Au w0 Z (GL (Al gb 61 #[.map (some bm)] :: Bg bm m ad ids :: pre) ad g X) F w)
  (id pa af ki : Int) (tx tr : ByteArray) (h1 : in64 id) (h2 : in64 pa) (hid : id ∉ ids) (hpa : pa ∉ ids) :
  PJ Try.prog 21 #[.pointer (some ⟨gb, 0, none⟩), .agg #[.int .i64 4, .int .i64 id, .int .i64 pa, .int .i64 af, .int .i64 ki, .string tx, .string tr]] w fun e w' => e = .returned (.bool BK) /\ Au w0 Z (GL (Al gb 61 #[.map (some bm)] :: Bg bm m ad ids :: pre) ad g X) F w' := by
 obtain ⟨EC, hEC⟩ : ∃ EC : Array Pd, EC = #[.int .i64 4, .int .i64 id, .int .i64 pa, .int .i64 af, .int .i64 ki, .string tx, .string tr] := ⟨_, rfl⟩;have S1 : Au w0 Z (GL (Al w.heap.size 54 EC :: Al gb 61 #[.map (some bm)] :: Bg bm m ad ids :: pre) ad g X) F (w.alloc (.cells EC 54)) := S.box rfl (Pv w _) (Ah (Pn _ _) _);have l1 := AL (Ab S1) 2 rfl h1;have l2 := AL (Ab (Ab S1)) 2 rfl h2;have hgb1 : (w.alloc (.cells EC 54)).cell? ⟨gb, 0, none⟩ = some (.map (some bm)) := (Aa (S1.at_blk 1 rfl) 0).trans rfl;have SP := Ab (Ab S1);rw [if_neg hid, decide_eq_false hid] at l1;rw [if_neg hpa, decide_eq_false hpa] at l2;rw [hEC] at l1 l2 hgb1 SP;replace SP := A7.mk SP;clear S S1 h1 h2 hid hpa hEC EC;have mixed : Try.prog.follows .mixedOrders = true := by kernel_rfl
 go_enter Try.func21, Try.ntmps21;go_wp2
 go_region_o
 go_wp2
 go_region_o
 go_wp2
 go_ret
 exact ⟨rfl, Au.drop (l := GL (Al gb 61 #[.map (some bm)] :: Bg bm m ad ids :: pre) ad _ X) SP.out⟩
theorem L9 {w0 w : Pe} {Z : Nat -> Prop} {pre X : List Bj} {F : List FA} {ad : Int -> Nat} {g : List Hk} {gb bm m : Nat} {ids : List Int} (S : Au w0 Z (GL (Al gb 61 #[.map (some bm)] :: Bg bm m ad ids :: pre) ad g X) F w)
  (id pa af ki : Int) (tx tr : ByteArray) (h1 : in64 id) (h2 : in64 pa) (hid : id ∉ ids) (hpa : pa ∈ ids) (haf : af = -1) :
  PJ Try.prog 21 #[.pointer (some ⟨gb, 0, none⟩), .agg #[.int .i64 4, .int .i64 id, .int .i64 pa, .int .i64 af, .int .i64 ki, .string tx, .string tr]] w fun e w' => e = .returned (.bool BK) /\ Au w0 Z (GL (Al gb 61 #[.map (some bm)] :: Bg bm m ad ids :: pre) ad g X) F w' := by
 obtain ⟨EC, hEC⟩ : ∃ EC : Array Pd, EC = #[.int .i64 4, .int .i64 id, .int .i64 pa, .int .i64 af, .int .i64 ki, .string tx, .string tr] := ⟨_, rfl⟩;have S1 : Au w0 Z (GL (Al w.heap.size 54 EC :: Al gb 61 #[.map (some bm)] :: Bg bm m ad ids :: pre) ad g X) F (w.alloc (.cells EC 54)) := S.box rfl (Pv w _) (Ah (Pn _ _) _);have l1 := AL (Ab S1) 2 rfl h1;have l2 := AL (Ab (Ab S1)) 2 rfl h2;have hgb1 : (w.alloc (.cells EC 54)).cell? ⟨gb, 0, none⟩ = some (.map (some bm)) := (Aa (S1.at_blk 1 rfl) 0).trans rfl;have SP := Ab (Ab S1);rw [if_neg hid, decide_eq_false hid] at l1;subst haf;rw [if_pos hpa, decide_eq_true hpa] at l2;obtain ⟨c, hc⟩ : ∃ c, ad pa = c := ⟨_, rfl⟩;simp only [pk, hc] at l2;rw [hEC] at l1 l2 hgb1 SP;replace SP := A7.mk SP;clear hc S S1 h1 h2 hid hpa hEC EC;have mixed : Try.prog.follows .mixedOrders = true := by kernel_rfl
 go_enter Try.func21, Try.ntmps21;go_wp2
 go_region_o
 go_wp2
 go_region_o
 go_wp2
 go_ret
 exact ⟨rfl, Au.drop (l := GL (Al gb 61 #[.map (some bm)] :: Bg bm m ad ids :: pre) ad _ X) SP.out⟩
theorem La {w0 w : Pe} {Z : Nat -> Prop} {pre X : List Bj} {F : List FA} {ad : Int -> Nat} {g : List Hk} {gb bm m : Nat} {ids : List Int} (S : Au w0 Z (GL (Al gb 61 #[.map (some bm)] :: Bg bm m ad ids :: pre) ad g X) F w)
  (id pa af ki : Int) (tx tr : ByteArray) (h1 : in64 id) (h2 : in64 pa) (hid : id ∉ ids) (hpa : pa ∈ ids) (haf : ¬ af = -1) {jp : Nat} {hp : Hk} (ep : g[jp]? = some hp) (hpi : hp.k.id = pa) (hids : ∀ y ∈ hp.k.kids, ∃ (j : Nat) (h : Hk), g[j]? = some h /\ h.k.id = y) :
  PJ Try.prog 21 #[.pointer (some ⟨gb, 0, none⟩), .agg #[.int .i64 4, .int .i64 id, .int .i64 pa, .int .i64 af, .int .i64 ki, .string tx, .string tr]] w fun e w' => e = .returned (.bool BK) /\ Au w0 Z (GL (Al gb 61 #[.map (some bm)] :: Bg bm m ad ids :: pre) ad g X) F w' := by
 obtain ⟨EC, hEC⟩ : ∃ EC : Array Pd, EC = #[.int .i64 4, .int .i64 id, .int .i64 pa, .int .i64 af, .int .i64 ki, .string tx, .string tr] := ⟨_, rfl⟩;have S1 : Au w0 Z (GL (Al w.heap.size 54 EC :: Al gb 61 #[.map (some bm)] :: Bg bm m ad ids :: pre) ad g X) F (w.alloc (.cells EC 54)) := S.box rfl (Pv w _) (Ah (Pn _ _) _);have l1 := AL (Ab S1) 2 rfl h1;have l2 := AL (Ab (Ab S1)) 2 rfl h2;have hgb1 : (w.alloc (.cells EC 54)).cell? ⟨gb, 0, none⟩ = some (.map (some bm)) := (Aa (S1.at_blk 1 rfl) 0).trans rfl;have SP := Ab (Ab S1);rw [if_neg hid, decide_eq_false hid] at l1;have HP := Bq ad hp.k hp.v af _ (AR SP ep) (C5 SP ep) (fun y hy => by obtain ⟨jy, hy', e1, e2⟩ := hids y hy; rw [<- e2, Aa (AR SP e1) 0]; rfl);obtain ⟨R, hR⟩ : ∃ R, AO hp.k.kids af = R := ⟨_, rfl⟩;rw [hR] at HP;obtain ⟨c, hc⟩ : ∃ c, ad pa = c := ⟨_, rfl⟩;rw [if_pos hpa, decide_eq_true hpa] at l2;simp only [pk, hc] at l2;rw [hpi] at HP;simp only [pk, hc] at HP;replace HP := A7.mk HP;rw [hEC] at l1 l2 hgb1 HP SP;replace SP := A7.mk SP;clear hc S S1 h1 h2 hid hpa ep hids hpi hR hEC EC;have mixed : Try.prog.follows .mixedOrders = true := by kernel_rfl
 go_enter Try.func21, Try.ntmps21;go_wp2
 go_region_o
 go_wp2
 go_region_o
 go_wp2_with (go_at_call 29; refine HP.out.mono ?_; rintro e_ w1 ⟨rfl, hB⟩; have S2 := SP.out.keep hB; have q0 := (Aa (S2.at_blk 0 rfl) 0).trans rfl; replace S2 := A7.mk S2; clear hB)
 go_ret
 exact ⟨rfl, Au.drop (l := GL (Al gb 61 #[.map (some bm)] :: Bg bm m ad ids :: pre) ad _ X) S2.out⟩
end Go.Proofs.Q
namespace Go.Proofs.Q
open Go Go.RowKit Go.Lib Go.Sort Go.Proofs.V.Words Go.Proofs.V.Last Go.Proofs.V.More Go.Proofs.V.SL
theorem Dd {P : Program} {ops : Array Oper} {o : Oper} {a : Act} {w : Pe} {K : Act -> Pe -> Prop} {Q : Exit -> Act -> Pe -> Prop} {E : Prop}
  (hg : o.guard = none) (d x : Operand) (dT sT : Q9) (hop : o.op = Op.call { callee := Callee.builtin Builtin.delete, args := #[d, x], argTypes := #[dT, sT] })
  (v u : Pd) (hd : a.eval d = v) (hx : a.eval x = u) {v' : Pd} {w' : Pe} (hr : (Builtin.delete_ #[dT, sT] o.type #[v, u]).run P w = .ok v' w') (hK : K (a.put o.dst v') w') :
  if PR o (QP ops a.tmps) = true then QE P o a w K Q else E := by
 have hw : PR o (QP ops a.tmps) = true := by simp [PR, hg]
 rw [if_pos hw];unfold QE;simp [execOp, hop, resolve, invoke, builtin, hd, hx, hr, Result.andThen];exact hK
theorem Mv {w0 w : Pe} {Z : Nat -> Prop} {pre X : List Bj} {F : List FA} {ad : Int -> Nat} {g : List Hk} {gb bm m : Nat} {ids : List Int} (S : Au w0 Z (GL (Al gb 61 #[.map (some bm)] :: Bg bm m ad ids :: pre) ad g X) F w)
  (id pa af ki : Int) (tx tr : ByteArray) (h1 : in64 id) (h2 : in64 pa) (hid : id ∈ ids) (hpa : pa ∉ ids) {jx jq : Nat} {hx hq : Hk} (ex : g[jx]? = some hx) (eq : g[jq]? = some hq) (hne : jx ≠ jq) (hxi : hx.k.id = id) (hk0 : hx.k.kids = [])
  (hpar : hx.k.par = some hq.k.id) (hin : hx.k.id ∈ hq.k.kids) (hids : ∀ y ∈ hq.k.kids, ∃ (j : Nat) (h : Hk), g[j]? = some h /\ h.k.id = y) :
  PJ Try.prog 21 #[.pointer (some ⟨gb, 0, none⟩), .agg #[.int .i64 2, .int .i64 id, .int .i64 pa, .int .i64 af, .int .i64 ki, .string tx, .string tr]] w fun e w' => ∃ v', e = .returned (.bool true) /\ Au w0 Z (GL (Al gb 61 #[.map (some bm)] :: Bg bm m ad (ids.filter (· ≠ id)) :: pre) ad ((g.set jq ⟨hq.k.wKids (hq.k.kids.filter fun y => !decide (ad y = ad hx.k.id)), v'⟩).set jx ⟨hx.k.wPar none, hx.v⟩) X) F w' := by
 obtain ⟨EC, hEC⟩ : ∃ EC : Array Pd, EC = #[.int .i64 2, .int .i64 id, .int .i64 pa, .int .i64 af, .int .i64 ki, .string tx, .string tr] := ⟨_, rfl⟩;have S1 : Au w0 Z (GL (Al w.heap.size 54 EC :: Al gb 61 #[.map (some bm)] :: Bg bm m ad ids :: pre) ad g X) F (w.alloc (.cells EC 54)) := S.box rfl (Pv w _) (Ah (Pn _ _) _);have l1 := AL (Ab S1) 2 rfl h1;have l2 := AL (Ab (Ab S1)) 2 rfl h2;have hgb1 : (w.alloc (.cells EC 54)).cell? ⟨gb, 0, none⟩ = some (.map (some bm)) := (Aa (S1.at_blk 1 rfl) 0).trans rfl;have SP := Ab (Ab S1);have hO := EN SP ex eq hne hpar hin hids;have hxb := AR S1 ex;have hx5 := (Aa hxb 5).trans (show (Dc ad hx.k hx.v)[5]? = some (pk ad hq.k.id) by show some (pp ad hx.k.par) = _; rw [hpar]; rfl);have hx6 := (Aa hxb 6).trans (show (Dc ad hx.k hx.v)[6]? = some hx.v from rfl);obtain ⟨A, c0, hA, _⟩ := Co (C5 S1 ex);rw [hA, hk0] at hx6;have H1 := A7.mk h1;obtain ⟨a, ha⟩ : ∃ a, ad id = a := ⟨_, rfl⟩;have HA := A7.mk ha;have hOA := hO;rw [if_pos hid, decide_eq_true hid] at l1;rw [if_neg hpa, decide_eq_false hpa] at l2;rw [hxi] at hx5 hx6 hOA;simp only [pk, ha] at l1 hx5 hx6 hOA;rw [hEC] at l1 l2 hgb1 hx5 hx6 hOA;replace hOA := A7.mk hOA;have HE := A7.mk hEC;rw [hxi];clear hO S S1 SP hxb h1 h2 hid hpa ex eq hne hpar hin hids hxi ha hA hk0;have mixed : Try.prog.follows .mixedOrders = true := by kernel_rfl
 go_enter Try.func21, Try.ntmps21;go_wp2
 go_region_o
 go_wp2
 go_region_o
 go_wp2_with (go_at_call 32; refine hOA.out.mono ?_; rintro e_ w1 ⟨v', rfl, S2⟩; have q0 := (Aa (S2.at_blk 0 rfl) 0).trans rfl; have q1 := (Aa (S2.at_blk 0 rfl) 1).trans rfl; have q2 := (Aa (S2.at_blk 1 rfl) 0).trans rfl; obtain ⟨w3, hdl, S3, _⟩ := Im (Ab S2) 2 rfl H1.out 0; replace S3 := A7.mk S3; replace hdl := A7.mk hdl; clear S2)
 go_region_law_o (refine Dd rfl _ _ 59 3 rfl (.map (some bm)) (.int .i64 id) (by simp [Q1, Ph]) (by simp [Q1, Ph]) hdl.out ?_)
 all_goals (try go_wp2)
 all_goals (go_ret; rw [HA.out]; exact ⟨_, rfl, Au.drop (l := GL (Al gb 61 #[.map (some bm)] :: Bg bm m ad (ids.filter (· ≠ id)) :: pre) ad _ X) S3.out⟩)
theorem Mw {w0 w : Pe} {Z : Nat -> Prop} {pre X : List Bj} {F : List FA} {ad : Int -> Nat} {g : List Hk} {gb bm m : Nat} {ids : List Int} (S : Au w0 Z (GL (Al gb 61 #[.map (some bm)] :: Bg bm m ad ids :: pre) ad g X) F w)
  (id pa af ki : Int) (tx tr : ByteArray) (h1 : in64 id) (h2 : in64 pa) (hid : id ∈ ids) (hpa : pa ∈ ids) (haf : af = -1) {jx jq : Nat} {hx hq : Hk} (ex : g[jx]? = some hx) (eq : g[jq]? = some hq) (hne : jx ≠ jq) (hxi : hx.k.id = id) (hk0 : hx.k.kids = [])
  (hpar : hx.k.par = some hq.k.id) (hin : hx.k.id ∈ hq.k.kids) (hids : ∀ y ∈ hq.k.kids, ∃ (j : Nat) (h : Hk), g[j]? = some h /\ h.k.id = y) :
  PJ Try.prog 21 #[.pointer (some ⟨gb, 0, none⟩), .agg #[.int .i64 2, .int .i64 id, .int .i64 pa, .int .i64 af, .int .i64 ki, .string tx, .string tr]] w fun e w' => ∃ v', e = .returned (.bool true) /\ Au w0 Z (GL (Al gb 61 #[.map (some bm)] :: Bg bm m ad (ids.filter (· ≠ id)) :: pre) ad ((g.set jq ⟨hq.k.wKids (hq.k.kids.filter fun y => !decide (ad y = ad hx.k.id)), v'⟩).set jx ⟨hx.k.wPar none, hx.v⟩) X) F w' := by
 obtain ⟨EC, hEC⟩ : ∃ EC : Array Pd, EC = #[.int .i64 2, .int .i64 id, .int .i64 pa, .int .i64 af, .int .i64 ki, .string tx, .string tr] := ⟨_, rfl⟩;have S1 : Au w0 Z (GL (Al w.heap.size 54 EC :: Al gb 61 #[.map (some bm)] :: Bg bm m ad ids :: pre) ad g X) F (w.alloc (.cells EC 54)) := S.box rfl (Pv w _) (Ah (Pn _ _) _);have l1 := AL (Ab S1) 2 rfl h1;have l2 := AL (Ab (Ab S1)) 2 rfl h2;have hgb1 : (w.alloc (.cells EC 54)).cell? ⟨gb, 0, none⟩ = some (.map (some bm)) := (Aa (S1.at_blk 1 rfl) 0).trans rfl;have SP := Ab (Ab S1);have hO := EN SP ex eq hne hpar hin hids;have hxb := AR S1 ex;have hx5 := (Aa hxb 5).trans (show (Dc ad hx.k hx.v)[5]? = some (pk ad hq.k.id) by show some (pp ad hx.k.par) = _; rw [hpar]; rfl);have hx6 := (Aa hxb 6).trans (show (Dc ad hx.k hx.v)[6]? = some hx.v from rfl);obtain ⟨A, c0, hA, _⟩ := Co (C5 S1 ex);rw [hA, hk0] at hx6;have H1 := A7.mk h1;obtain ⟨a, ha⟩ : ∃ a, ad id = a := ⟨_, rfl⟩;have HA := A7.mk ha;have hOA := hO;rw [if_pos hid, decide_eq_true hid] at l1;subst haf;rw [if_pos hpa, decide_eq_true hpa] at l2;obtain ⟨c, hc⟩ : ∃ c, ad pa = c := ⟨_, rfl⟩;simp only [pk, hc] at l2;rw [hxi] at hx5 hx6 hOA;simp only [pk, ha] at l1 hx5 hx6 hOA;rw [hEC] at l1 l2 hgb1 hx5 hx6 hOA;replace hOA := A7.mk hOA;have HE := A7.mk hEC;rw [hxi];clear hc hO S S1 SP hxb h1 h2 hid hpa ex eq hne hpar hin hids hxi ha hA hk0;have mixed : Try.prog.follows .mixedOrders = true := by kernel_rfl
 go_enter Try.func21, Try.ntmps21;go_wp2
 go_region_o
 go_wp2
 go_region_o
 go_wp2_with (go_at_call 32; refine hOA.out.mono ?_; rintro e_ w1 ⟨v', rfl, S2⟩; have q0 := (Aa (S2.at_blk 0 rfl) 0).trans rfl; have q1 := (Aa (S2.at_blk 0 rfl) 1).trans rfl; have q2 := (Aa (S2.at_blk 1 rfl) 0).trans rfl; obtain ⟨w3, hdl, S3, _⟩ := Im (Ab S2) 2 rfl H1.out 0; replace S3 := A7.mk S3; replace hdl := A7.mk hdl; clear S2)
 go_region_law_o (refine Dd rfl _ _ 59 3 rfl (.map (some bm)) (.int .i64 id) (by simp [Q1, Ph]) (by simp [Q1, Ph]) hdl.out ?_)
 all_goals (try go_wp2)
 all_goals (go_ret; rw [HA.out]; exact ⟨_, rfl, Au.drop (l := GL (Al gb 61 #[.map (some bm)] :: Bg bm m ad (ids.filter (· ≠ id)) :: pre) ad _ X) S3.out⟩)
theorem Mx {w0 w : Pe} {Z : Nat -> Prop} {pre X : List Bj} {F : List FA} {ad : Int -> Nat} {g : List Hk} {gb bm m : Nat} {ids : List Int} (S : Au w0 Z (GL (Al gb 61 #[.map (some bm)] :: Bg bm m ad ids :: pre) ad g X) F w)
  (id pa af ki : Int) (tx tr : ByteArray) (h1 : in64 id) (h2 : in64 pa) (hid : id ∈ ids) (hpa : pa ∈ ids) (haf : ¬ af = -1) {jp : Nat} {hp : Hk} (ep : g[jp]? = some hp) (hpi : hp.k.id = pa) (hidp : ∀ y ∈ hp.k.kids, ∃ (j : Nat) (h : Hk), g[j]? = some h /\ h.k.id = y) {jx jq : Nat} {hx hq : Hk} (ex : g[jx]? = some hx) (eq : g[jq]? = some hq) (hne : jx ≠ jq) (hxi : hx.k.id = id) (hk0 : hx.k.kids = [])
  (hpar : hx.k.par = some hq.k.id) (hin : hx.k.id ∈ hq.k.kids) (hids : ∀ y ∈ hq.k.kids, ∃ (j : Nat) (h : Hk), g[j]? = some h /\ h.k.id = y) :
  PJ Try.prog 21 #[.pointer (some ⟨gb, 0, none⟩), .agg #[.int .i64 2, .int .i64 id, .int .i64 pa, .int .i64 af, .int .i64 ki, .string tx, .string tr]] w fun e w' => ∃ v', e = .returned (.bool true) /\ Au w0 Z (GL (Al gb 61 #[.map (some bm)] :: Bg bm m ad (ids.filter (· ≠ id)) :: pre) ad ((g.set jq ⟨hq.k.wKids (hq.k.kids.filter fun y => !decide (ad y = ad hx.k.id)), v'⟩).set jx ⟨hx.k.wPar none, hx.v⟩) X) F w' := by
 obtain ⟨EC, hEC⟩ : ∃ EC : Array Pd, EC = #[.int .i64 2, .int .i64 id, .int .i64 pa, .int .i64 af, .int .i64 ki, .string tx, .string tr] := ⟨_, rfl⟩;have S1 : Au w0 Z (GL (Al w.heap.size 54 EC :: Al gb 61 #[.map (some bm)] :: Bg bm m ad ids :: pre) ad g X) F (w.alloc (.cells EC 54)) := S.box rfl (Pv w _) (Ah (Pn _ _) _);have l1 := AL (Ab S1) 2 rfl h1;have l2 := AL (Ab (Ab S1)) 2 rfl h2;have hgb1 : (w.alloc (.cells EC 54)).cell? ⟨gb, 0, none⟩ = some (.map (some bm)) := (Aa (S1.at_blk 1 rfl) 0).trans rfl;have SP := Ab (Ab S1);have hO := fun W (SW : Au w0 Z (GL (Al w.heap.size 54 EC :: Al gb 61 #[.map (some bm)] :: Bg bm m ad ids :: pre) ad g X) F W) => EN SW ex eq hne hpar hin hids
 have HP := Bq ad hp.k hp.v af _ (AR SP ep) (C5 SP ep) (fun y hy => by obtain ⟨jy, hy', e1, e2⟩ := hidp y hy; rw [<- e2, Aa (AR SP e1) 0]; rfl);obtain ⟨R, hR⟩ : ∃ R, AO hp.k.kids af = R := ⟨_, rfl⟩;rw [hR] at HP;obtain ⟨A, c0, hA, _⟩ := Co (C5 S1 ex);rw [hk0] at hA;have hx56 : ∀ W, Au w0 Z (GL (Al w.heap.size 54 EC :: Al gb 61 #[.map (some bm)] :: Bg bm m ad ids :: pre) ad g X) F W -> W.cell? ⟨ad hx.k.id, 5, none⟩ = some (pk ad hq.k.id) /\ W.cell? ⟨ad hx.k.id, 6, none⟩ = some (.slice A 0 c0) := fun W SW => ⟨(Aa (AR SW ex) 5).trans (show (Dc ad hx.k hx.v)[5]? = some (pk ad hq.k.id) by show some (pp ad hx.k.par) = _; rw [hpar]; rfl), (Aa (AR SW ex) 6).trans (show (Dc ad hx.k hx.v)[6]? = _ by show some hx.v = _; rw [hA]; rfl)⟩
 have H1 := A7.mk h1;obtain ⟨a, ha⟩ : ∃ a, ad id = a := ⟨_, rfl⟩;have HA := A7.mk ha;have hOA := hO;rw [if_pos hid, decide_eq_true hid] at l1;rw [if_pos hpa, decide_eq_true hpa] at l2;obtain ⟨c, hc⟩ : ∃ c, ad pa = c := ⟨_, rfl⟩;simp only [pk, hc] at l2;rw [hpi] at HP;simp only [pk, hc] at HP;rw [hxi] at hx56 hOA;simp only [pk, ha] at l1 hx56 hOA;rw [hEC] at l1 l2 hgb1 HP SP hx56 hOA;have HX := A7.mk (⟨SP, hx56⟩ : _ /\ _);replace HP := A7.mk HP;clear hx56 hR hpi ep hidp hc;replace hOA := A7.mk hOA;have HE := A7.mk hEC;rw [hxi];clear hO S S1 SP h1 h2 hid hpa ex eq hne hpar hin hids hxi ha hA hk0;have mixed : Try.prog.follows .mixedOrders = true := by kernel_rfl
 go_enter Try.func21, Try.ntmps21;go_wp2
 go_region_o
 go_wp2
 go_region_o
 go_wp2_with (first | (go_at_call 29; refine HP.out.mono ?_; rintro e_ w1 ⟨rfl, hB⟩; have SW := HX.out.1.keep hB; have p0 := (Aa (SW.at_blk 0 rfl) 0).trans rfl; obtain ⟨hx5, hx6⟩ := HX.out.2 w1 SW; replace SW := A7.mk SW; clear hB) | (go_at_call 32; refine (hOA.out _ SW.out).mono ?_; rintro e_ w2 ⟨v', rfl, S2⟩; have q0 := (Aa (S2.at_blk 0 rfl) 0).trans rfl; have q1 := (Aa (S2.at_blk 0 rfl) 1).trans rfl; have q2 := (Aa (S2.at_blk 1 rfl) 0).trans rfl; obtain ⟨w3, hdl, S3, _⟩ := Im (Ab S2) 2 rfl H1.out 0; replace S3 := A7.mk S3; replace hdl := A7.mk hdl; clear S2))
 go_region_law_o (refine Dd rfl _ _ 59 3 rfl (.map (some bm)) (.int .i64 id) (by simp [Q1, Ph]) (by simp [Q1, Ph]) hdl.out ?_)
 all_goals (try go_wp2)
 all_goals (go_ret; rw [HA.out]; exact ⟨_, rfl, Au.drop (l := GL (Al gb 61 #[.map (some bm)] :: Bg bm m ad (ids.filter (· ≠ id)) :: pre) ad _ X) S3.out⟩)
end Go.Proofs.Q
