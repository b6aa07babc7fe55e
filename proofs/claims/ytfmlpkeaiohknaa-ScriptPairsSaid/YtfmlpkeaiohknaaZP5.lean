/- The texts of this claim that lie below its row, in their order: MOut MCopy MOf MLay MFew GRow Gv MShelf Gc Gd Go Gb Gi Gj Gp Gq Gr Gs. -/
import Derived.Lib.SmallJoins
import Derived.Lib.LaidTab
import Derived.Maps.OwnSet
import Derived.Maps.Views
import Derived.Maps.Keyed
import Derived.Shelf.SlGeneric
import Derived.Ground.SlgfProg
import Derived.Shelf.SlicesE.DeleteFunc
import Derived.Test.YtfmlpkeaiohknaaProg
import Derived.LaidEqlPtr
import Derived.Shelf.Spec.SlicesInsertGrow
import Derived.Test.YtfmlpkeaiohknaaZP4
/-! What a plan's blocks say in the print's own words. -/
set_option linter.unusedVariables false
namespace Go.Proofs.Ytfmlpkeaiohknaa.Q
open Go.RowKit Go.Proofs.YtfmlpkeaiohknaaW.PrintWords Go.Proofs.YtfmlpkeaiohknaaW.PrintLast Go.Proofs.YtfmlpkeaiohknaaW.PrintMore Go.Proofs.YtfmlpkeaiohknaaW.SL
section
variable {w0 w w' W : World} {Z Φ : Nat → Prop} {g : Nat} {v : PV} {s : PS} {X : List Asr}
theorem inn_reps {l : List Asr} {i : Nat} {us : List Value} {ks : List (List Int)} (h : St w0 Z l w) (hi : l[i]? = some (grp (inn us ks))) (hu : us.length = ks.length) {ok : Nat → Prop}
    (hok : ∀ (j : Nat) (u : Value), us[j]? = some u → ∀ k, u.ownBlock = some k → ok k) : ∃ f, Reps ((Kd.tag f (Kd.slice 3 (Kd.int .i64))).M w w0.heap.size ok) 1 ks.zipIdx us := by
  refine Kd.reps_tag (d := Kd.slice 3 (Kd.int .i64)) (fun j k => ∃ u, us[j]? = some u ∧ u.ownBlock = some k) ?_ (fun j k ⟨u, hj, hk⟩ => hok j u hj k hk) (by rw [hu]; exact (Nat.mul_one _).symm) ?_
  · rintro a b k ⟨u, ha, hka⟩ ⟨u', hb, hkb⟩
    apply Classical.byContradiction
    intro hne
    have hla : a < ks.length := by rw [← hu]; exact (List.getElem?_eq_some_iff.1 ha).1
    have hlb : b < ks.length := by rw [← hu]; exact (List.getElem?_eq_some_iff.1 hb).1
    exact h.sub_apart hi (inn_at ha (List.getElem?_eq_getElem hla)) (inn_at hb (List.getElem?_eq_getElem hlb)) hne k hka hkb.symm
  · intro j x hx
    have hl : j < us.length := by rw [hu]; exact (List.getElem?_eq_some_iff.1 hx).1
    have hju := List.getElem?_eq_getElem hl
    have h1 := (h.sub_out hi (inn_at hju hx)).1
    have h2 : ((us.drop (j * (Kd.slice 3 (Kd.int .i64)).sz)).take (Kd.slice 3 (Kd.int .i64)).sz) = [us[j]] := by
      show (us.drop (j * 1)).take 1 = [us[j]]
      rw [Nat.mul_one, List.drop_eq_getElem_cons hl]; rfl
    rw [h2]
    exact ⟨us[j], rfl, Kd.R_of_own (enc := Value.int .i64) h1 (fun k hk => ⟨us[j], hju, hk⟩)⟩
theorem Pl.out (h : Pl w0 Z Φ g v s X w) (hΦ : ∀ k, Φ k → Z k ∧ w0.heap.size ≤ k) :
    Kd.N k24 24 w w0.heap.size (fun k_ => (w0.heap.size ≤ k_) ∧ some k_ ≠ v.p.ownBlock ∧ some k_ ≠ v.z.ownBlock ∧ some k_ ≠ v.k.ownBlock) v.n s.N ∧
    Kd.R (Kd.int .i64) 3 w w0.heap.size (fun k_ => (w0.heap.size ≤ k_) ∧ some k_ ≠ v.z.ownBlock) v.p s.P ∧
    Kd.R (Kd.int .i64) 3 w w0.heap.size (fun k_ => (w0.heap.size ≤ k_) ∧ some k_ ≠ v.p.ownBlock) v.z s.Z ∧
    Kd.S (Kd.slice 3 (Kd.int .i64)) 36 w w0.heap.size (fun k_ => (w0.heap.size ≤ k_) ∧ some k_ ≠ v.p.ownBlock ∧ some k_ ≠ v.z.ownBlock) v.k s.K := by
  have hn : (plan g v s ++ X)[1]? = some (row v.n 24 4 s.N.length v.cn) := rfl
  have hp : (plan g v s ++ X)[2]? = some (row v.p 3 1 s.N.length (ints s.P)) := rfl
  have hz : (plan g v s ++ X)[3]? = some (row v.z 3 1 s.N.length (ints s.Z)) := rfl
  have hk : (plan g v s ++ X)[4]? = some (row v.k 36 1 s.N.length v.us) := rfl
  have hg : (plan g v s ++ X)[5]? = some (grp (inn v.us s.K)) := rfl
  have on := h.st.row_out hn; have op := h.st.row_out hp; have oz := h.st.row_out hz; have ok_ := h.st.row_out hk
  have lp := h.p; have lz := h.z; have lk := h.k; have lu := h.u; have lc := h.c
  have hZ : ∀ (u : Value), (∀ k, u.ownBlock = some k → w0.heap.size ≤ k ∧ ¬ Z k) → ∀ k, Φ k → some k ≠ u.ownBlock := fun u hu k hk he => (hu k he.symm).2 (hΦ k hk).1
  refine ⟨⟨fun k hk_ => ⟨(on.2 k hk_).1, h.st.row_apart hn hp (by decide) k hk_, h.st.row_apart hn hz (by decide) k hk_, h.st.row_apart hn hk (by decide) k hk_⟩, Kd.chunks 4 s.N.length v.cn, Kd.chunks_length _ _ _, ?_, ?_⟩, ?_, ?_, ?_⟩
  · refine ⟨fun k hk => hk.symm, v.cn, by rw [Kd.chunks_length]; exact on.1, by rw [Kd.chunks_length]; exact lc, fun j p hj => ?_⟩
    have hjl : j < s.N.length := by have := (List.getElem?_eq_some_iff.1 hj).1; rwa [Kd.chunks_length] at this
    have hp_ := Kd.chunks_get hj
    subst hp_
    refine ⟨rfl, ?_, fun u hu => h.one u (List.mem_of_mem_drop (List.mem_of_mem_take hu))⟩
    show ((v.cn.drop (j * 4)).take 4).length = 4
    rw [List.length_take, List.length_drop]; omega
  · intro j x c hx hc
    have hc2 := Kd.chunks_get hc
    subst hc2
    exact Kd.FK_mono (h.nodes j x hx) (fun k hk => ⟨⟨(hΦ k hk).2, hZ _ op.2 k hk, hZ _ oz.2 k hk, hZ _ ok_.2 k hk⟩, hZ _ on.2 k hk⟩)
  · exact Kd.R_of_own (enc := Value.int .i64) (by rw [lp]; exact op.1) (fun k hk => ⟨(op.2 k hk).1, h.st.row_apart hp hz (by decide) k hk⟩)
  · exact Kd.R_of_own (enc := Value.int .i64) (by rw [lz]; exact oz.1) (fun k hk => ⟨(oz.2 k hk).1, h.st.row_apart hz hp (by decide) k hk⟩)
  · obtain ⟨f, hr⟩ := inn_reps (ok := fun k => ((w0.heap.size ≤ k) ∧ some k ≠ v.p.ownBlock ∧ some k ≠ v.z.ownBlock) ∧ some k ≠ v.k.ownBlock) h.st hg (lu.trans lk.symm) (fun j u hj k hk2 => by
      have hl : j < s.K.length := by rw [lk, ← lu]; exact (List.getElem?_eq_some_iff.1 hj).1
      have hi := inn_at hj (List.getElem?_eq_getElem hl)
      exact ⟨⟨((h.st.sub_out hg hi).2 k hk2).1, h.st.row_sub_apart hp hg hi (by decide) k hk2, h.st.row_sub_apart hz hg hi (by decide) k hk2⟩, h.st.row_sub_apart hk hg hi (by decide) k hk2⟩)
    exact ⟨f, fun k hk2 => ⟨(ok_.2 k hk2).1, h.st.row_apart hk hp (by decide) k hk2, h.st.row_apart hk hz (by decide) k hk2⟩, v.us, by rw [List.length_zipIdx, lk]; exact ok_.1, hr⟩
end
end Go.Proofs.Ytfmlpkeaiohknaa.Q
-- Written by a program of this session (wip/mkprint.py, wip/pr.sh, wip/cut1.py) for this claim; Lean checks it.
namespace Go.Proofs.Ytfmlpkeaiohknaa.Q
open Go.RowKit Go.Proofs.YtfmlpkeaiohknaaW.PrintWords Go.Proofs.YtfmlpkeaiohknaaW.PrintLast Go.Proofs.YtfmlpkeaiohknaaW.PrintMore
attribute [local go_sem] max2_int min2_int max_two min_two max_three min_three max_four min_four
set_option linter.unusedVariables false
set_option linter.unusedSimpArgs false
/-! ### tree_Copy: function 41 -/
mutual
def tree_Copy.l0 : Nat → List (S24) → List (S24) → Int → Int → Int → ByteArray → ByteArray → List (S24) → Option (Int × ByteArray × ByteArray × (List (S24)))
 | 0, _, _, _, _, _, _, _, _ => none
 | k + 1, x3, x11, x12, x13, x127000, x127001, x127002, x127003 => if x13 < x12 then (if 0 ≤ x13 then (if x13 < (x11.length : Int) then ((tree_Copy.f k ((rd_T24 x11 x13).f0) ((rd_T24 x11 x13).f1) ((rd_T24 x11 x13).f2) ((rd_T24 x11 x13).f3)).bind fun bt133 => (if x3.length < 2199023255552 then (tree_Copy.l0 k (x3 ++ [(⟨bt133.1, bt133.2.1, bt133.2.2.1, bt133.2.2.2⟩ : S24)]) x11 x12 (wrap64 (x13 + 1)) x127000 x127001 x127002 x127003) else (none))) else (none)) else (none)) else (some (x127000, x127001, x127002, x3))
def tree_Copy.f : Nat → Int → ByteArray → ByteArray → List (S24) → Option (Int × ByteArray × ByteArray × (List (S24)))
 | 0, _, _, _, _ => none
 | k + 1, a0_0, a0_1, a0_2, l0_3 => if 0 ≤ (l0_3.length : Int) then (if ((l0_3.length : Int) : Int).toNat ≤ 4398046511104 then (tree_Copy.l0 k (([] : List (S24))) l0_3 (l0_3.length : Int) 0 a0_0 a0_1 a0_2 l0_3) else (none)) else (none)
end
theorem tree_Copy.mono_l : ∀ k, (∀ y0 y1 y2 y3, LeO (tree_Copy.f k y0 y1 y2 y3) (tree_Copy.f (k + 1) y0 y1 y2 y3)) ∧ (∀ y0 y1 y2 y3 y4 y5 y6 y7, LeO (tree_Copy.l0 k y0 y1 y2 y3 y4 y5 y6 y7) (tree_Copy.l0 (k + 1) y0 y1 y2 y3 y4 y5 y6 y7))
 | 0 => ⟨fun _ _ _ _ r h => by simp [tree_Copy.f] at h, fun _ _ _ _ _ _ _ _ r h => by simp [tree_Copy.l0] at h⟩
 | k + 1 => by
  obtain ⟨ih0, ih1⟩ := tree_Copy.mono_l k
  refine ⟨?_, ?_⟩
  ·intro y0 y1 y2 y3
   unfold tree_Copy.f
   repeat' first
   | (with_reducible exact ih0 _ _ _ _)
   | (with_reducible exact ih1 _ _ _ _ _ _ _ _)
   | (with_reducible exact LeO.refl _)
   | (with_reducible exact LeO.none _)
   | (with_reducible refine LeO.ite ?_ ?_)
   | (with_reducible refine LeO.bind ?_ (fun _ => ?_))
   | exact ih0 _ _ _ _
   | exact ih1 _ _ _ _ _ _ _ _
   | exact LeO.none _
   | refine LeO.ite ?_ ?_
   | refine LeO.bind ?_ (fun _ => ?_)
  ·intro y0 y1 y2 y3 y4 y5 y6 y7
   unfold tree_Copy.l0
   repeat' first
   | (with_reducible exact ih0 _ _ _ _)
   | (with_reducible exact ih1 _ _ _ _ _ _ _ _)
   | (with_reducible exact LeO.refl _)
   | (with_reducible exact LeO.none _)
   | (with_reducible refine LeO.ite ?_ ?_)
   | (with_reducible refine LeO.bind ?_ (fun _ => ?_))
   | exact ih0 _ _ _ _
   | exact ih1 _ _ _ _ _ _ _ _
   | exact LeO.none _
   | refine LeO.ite ?_ ?_
   | refine LeO.bind ?_ (fun _ => ?_)
theorem tree_Copy.mono : ∀ a0 a1 a2 a3 k, LeO (tree_Copy.f k a0 a1 a2 a3) (tree_Copy.f (k + 1) a0 a1 a2 a3) := by
 intro a0 a1 a2 a3 k
 obtain ⟨ih0, ih1⟩ := tree_Copy.mono_l k
 exact ih0 a0 a1 a2 a3
set_option maxHeartbeats 8000000 in
set_option maxRecDepth 100000 in
theorem tree_Copy.calls (k : Nat) : ∀ (a0_0 : Int) (a0_1 : ByteArray) (a0_2 : ByteArray) (A0_3 : Option Addr) (c0_3 : Nat) (l0_3 : List (S24)) (r1 : Int) (r2 : ByteArray) (r3 : ByteArray) (r4 : List (S24)) (w : World) (hr0_3 : Kd.C k24 w A0_3 l0_3.length l0_3) (hc0_3 : l0_3.length ≤ c0_3) (h : tree_Copy.f k a0_0 a0_1 a0_2 l0_3 = some (r1, r2, r3, r4)),
  Calls Try.prog 41 #[.agg #[.int .i64 a0_0, .string a0_1, .string a0_2, .slice A0_3 l0_3.length c0_3]] w fun e w' => ∃ v3_ : Value, e = .returned (.agg #[.int .i64 r1, .string r2, .string r3, v3_]) ∧ Kd.R k24 24 w' w.heap.size (fun _ => True) v3_ r4 ∧ Below w.heap.size w w' := by
 induction k using Nat.strongRecOn with
 | _ k ih =>
 intro a0_0 a0_1 a0_2 A0_3 c0_3 l0_3 r1 r2 r3 r4 w hr0_3 hc0_3 h
 cases k with
 | zero => exact absurd h (by simp [tree_Copy.f])
 | succ k =>
 simp only [tree_Copy.f] at h
 have hu24 := Try.underlying24
 have HR0_3 := Aside0.mk hr0_3
 have HC0_3 := Aside0.mk hc0_3
 clear hr0_3 hc0_3
 have HB := Aside0.mk (Below.refl w.heap.size w)
 have H : (if 0 ≤ (l0_3.length : Int) then (if ((l0_3.length : Int) : Int).toNat ≤ 4398046511104 then (tree_Copy.l0 k (([] : List (S24))) l0_3 (l0_3.length : Int) 0 a0_0 a0_1 a0_2 l0_3) else (none)) else (none)) = some (r1, r2, r3, r4) := h
 clear h
 by_cases c2 : 0 ≤ (l0_3.length : Int)
 ·rw [if_pos c2] at H
  have c2b0 := eq_true c2
  have c2b1 : decide (0 ≤ (l0_3.length : Int)) = true := decide_eq_true c2
  clear c2
  by_cases c3 : ((l0_3.length : Int) : Int).toNat ≤ 4398046511104
  ·rw [if_pos c3] at H
   have c3b0 := eq_true c3
   have c3b1 : decide (((l0_3.length : Int) : Int).toNat ≤ 4398046511104) = true := decide_eq_true c3
   clear c3
   obtain ⟨y128, hy128⟩ : ∃ y_ : List (S24), y_ = (([] : List (S24))) := ⟨_, rfl⟩
   replace H : (tree_Copy.l0 k y128 l0_3 (l0_3.length : Int) 0 a0_0 a0_1 a0_2 l0_3) = some (r1, r2, r3, r4) := by first | (rw [hy128]; with_reducible exact H) | (have H2_ := (Option.bind_some _ _).symm.trans H; rw [hy128]; with_reducible exact H2_) | (have H2_ := (Option.bind_some _ _).symm.trans H; with_reducible exact H2_) | with_reducible exact H | (rw [hy128]; exact H) | exact H
   have Ny128 := Aside0.mk hy128
   clear hy128
   have H' := Aside0.mk H
   clear H
   go_enter Try.func41, Try.ntmps41
   go_wp2_with (first | ((with_reducible refine gate_dst (N := 1) rfl ?_); refine box_event ?hg (N := 1) ?hd (cs := #[.int .i64 a0_0, .string a0_1, .string a0_2, .slice A0_3 l0_3.length c0_3]) (t := 24) ?hr ?_; (case hd => rfl); (case hg => rfl); (case hr => first | (go_simp; done) | (go_simp; rfl)); intro gb126 hg w4 hbox hb; have n0_ := Aside0.mk (below_step (by repeat (first | (with_reducible first | exact HB.out | apply below_alloc | apply pw_below_drewN | apply below_drew1) | exact HB.out)) hb); have n1_ := Aside0.mk (hbox); have n2_ := Aside0.mk ((by rw [hg]; exact (below_size (by repeat (first | (with_reducible first | exact HB.out | apply below_alloc | apply pw_below_drewN | apply below_drew1) | exact HB.out))) : w.heap.size ≤ gb126)); have n3_ := Aside0.mk ((by rw [hg]; exact (below_size (by repeat (first | (with_reducible first | exact HB.out | apply below_alloc | apply pw_below_drewN | apply below_drew1) | exact HB.out))) : w.heap.size ≤ gb126)); clear HB; have HB := n0_; have BK126 := n1_; have GW126 := n2_; have GE126 := n3_; clear n0_ n1_ n2_ n3_; clear hb hbox hg) | ((with_reducible refine gate_dst (N := 2) rfl ?_); refine box_event ?hg (N := 2) ?hd (cs := #[.int .i64 0, .string (⟨#[]⟩ : ByteArray), .string (⟨#[]⟩ : ByteArray), .slice none 0 0]) (t := 24) ?hr ?_; (case hd => rfl); (case hg => rfl); (case hr => first | (go_simp; done) | (go_simp; rfl)); intro gb127 hg w5 hbox hb; have n0_ := Aside0.mk (blk_below (g := gb126) (o := .cells #[.int .i64 a0_0, .string a0_1, .string a0_2, .slice A0_3 l0_3.length c0_3] 24 (0, 0)) (by (with_reducible repeat (first | refine blk_drewN ?_ _ | refine blk_drew ?_ | refine blk_alloc ?_ _)); exact BK126.out) hb); have n1_ := Aside0.mk (below_step (by repeat (first | (with_reducible first | exact HB.out | apply below_alloc | apply pw_below_drewN | apply below_drew1 | refine below_set ?_ GE126.out) | exact HB.out)) hb); have n2_ := Aside0.mk (hbox); have n3_ := Aside0.mk ((by rw [hg]; exact (below_size (by repeat (first | (with_reducible first | exact HB.out | apply below_alloc | apply pw_below_drewN | apply below_drew1 | refine below_set ?_ GE126.out) | exact HB.out))) : w.heap.size ≤ gb127)); have n4_ := Aside0.mk ((by rw [hg]; exact (below_size (by repeat (first | (with_reducible first | exact HB.out | apply below_alloc | apply pw_below_drewN | apply below_drew1 | refine below_set ?_ GE126.out) | exact HB.out))) : w.heap.size ≤ gb127)); have n5_ := Aside0.mk ((by rw [hg]; exact Nat.ne_of_lt (blk_lt (g := gb126) (o := .cells #[.int .i64 a0_0, .string a0_1, .string a0_2, .slice A0_3 l0_3.length c0_3] 24 (0, 0)) (by (with_reducible repeat (first | refine blk_drewN ?_ _ | refine blk_drew ?_ | refine blk_alloc ?_ _)); exact BK126.out)) : gb126 ≠ gb127)); have n6_ := Aside0.mk ((by rw [hg]; exact Nat.ne_of_gt (blk_lt (g := gb126) (o := .cells #[.int .i64 a0_0, .string a0_1, .string a0_2, .slice A0_3 l0_3.length c0_3] 24 (0, 0)) (by (with_reducible repeat (first | refine blk_drewN ?_ _ | refine blk_drew ?_ | refine blk_alloc ?_ _)); exact BK126.out)) : gb127 ≠ gb126)); clear BK126; clear HB; have BK126 := n0_; have HB := n1_; have BK127 := n2_; have GW127 := n3_; have GE127 := n4_; have NB126_127 := n5_; have NB127_126 := n6_; clear n0_ n1_ n2_ n3_ n4_ n5_ n6_; clear hb hbox hg; have hnb6 := NB126_127.out; have hnc6 := NB127_126.out; have hcz7_0 : w5.cell? ⟨gb126, 0, none⟩ = some (.int .i64 a0_0) := (blk_cell BK126.out 0).trans rfl; have hcz7_1 : w5.cell? ⟨gb126, 1, none⟩ = some (.string a0_1) := (blk_cell BK126.out 1).trans rfl; have hcz7_2 : w5.cell? ⟨gb126, 2, none⟩ = some (.string a0_2) := (blk_cell BK126.out 2).trans rfl; have hcz7_3 : w5.cell? ⟨gb126, 3, none⟩ = some (.slice A0_3 l0_3.length c0_3) := (blk_cell BK126.out 3).trans rfl; have hfz7_0 := blk_frozen BK126.out 0; have hfz7_1 := blk_frozen BK126.out 1; have hfz7_2 := blk_frozen BK126.out 2; have hfz7_3 := blk_frozen BK126.out 3) | ((with_reducible refine gate_dst (N := 9) rfl ?_); refine Kd.R_make0 k24 _ 24 rfl (N := 9) rfl 22 _ _ rfl (l0_3.length : Int) rfl rfl Try.underlying22 (.agg #[(.int .i64 0), (.string ⟨#[]⟩), (.string ⟨#[]⟩), (.slice none 0 0)]) 64 info24 rfl (by decide) (by omega) z24 (ok := fun _ => True) (okp := fun _ => True) (k24_mkM _ _ _ z24 (Kd.R_nil _ _ _ _ _)) (fun _ hk => hk) trivial (of_decide_eq_true (by first | (with_reducible assumption) | assumption)) (Nat.le_trans (Nat.mul_le_mul_right _ (of_decide_eq_true (by first | (with_reducible assumption) | assumption) : (l0_3.length : Int).toNat ≤ 4398046511104)) (by omega)) (Below.refl _ _) (Nat.le_refl _) ?_; intro v129 w8 ho9 hb hg_ hnew_; clear hg_ hnew_; (first | rw [← Ny128.out] at ho9 | (simp only [Int.reduceToNat] at ho9; rw [← Ny128.out] at ho9)); have n0_ := Aside0.mk (Kd.R_lower (Kd.R_newB (Kd.R_newB ho9 (g := gb126) (o := .cells #[.int .i64 a0_0, .string a0_1, .string a0_2, .slice A0_3 l0_3.length c0_3] 24 (0, 0)) (by (with_reducible repeat (first | refine blk_drewN ?_ _ | refine blk_drew ?_ | refine blk_alloc ?_ _)); exact BK126.out)) (g := gb127) (o := .cells #[.int .i64 0, .string (⟨#[]⟩ : ByteArray), .string (⟨#[]⟩ : ByteArray), .slice none 0 0] 24 (0, 0)) (by (with_reducible repeat (first | refine blk_drewN ?_ _ | refine blk_drew ?_ | refine blk_alloc ?_ _)); exact BK127.out)) (below_size (by repeat (first | (with_reducible first | exact HB.out | apply below_alloc | apply pw_below_drewN | apply below_drew1 | refine below_set ?_ GE126.out | refine below_set ?_ GE127.out) | exact HB.out)))); have n1_ := Aside0.mk (blk_below (g := gb126) (o := .cells #[.int .i64 a0_0, .string a0_1, .string a0_2, .slice A0_3 l0_3.length c0_3] 24 (0, 0)) (by (with_reducible repeat (first | refine blk_drewN ?_ _ | refine blk_drew ?_ | refine blk_alloc ?_ _)); exact BK126.out) hb); have n2_ := Aside0.mk (blk_below (g := gb127) (o := .cells #[.int .i64 0, .string (⟨#[]⟩ : ByteArray), .string (⟨#[]⟩ : ByteArray), .slice none 0 0] 24 (0, 0)) (by (with_reducible repeat (first | refine blk_drewN ?_ _ | refine blk_drew ?_ | refine blk_alloc ?_ _)); exact BK127.out) hb); have n3_ := Aside0.mk (below_step (by repeat (first | (with_reducible first | exact HB.out | apply below_alloc | apply pw_below_drewN | apply below_drew1 | refine below_set ?_ GE126.out | refine below_set ?_ GE127.out) | exact HB.out)) hb); clear BK126; clear BK127; clear HB; have HO130 := n0_; have BK126 := n1_; have BK127 := n2_; have HB := n3_; clear n0_ n1_ n2_ n3_; clear hb ho9; have hcz10_0 : w8.cell? ⟨gb126, 0, none⟩ = some (.int .i64 a0_0) := (blk_cell BK126.out 0).trans rfl; have hcz10_1 : w8.cell? ⟨gb126, 1, none⟩ = some (.string a0_1) := (blk_cell BK126.out 1).trans rfl; have hcz10_2 : w8.cell? ⟨gb126, 2, none⟩ = some (.string a0_2) := (blk_cell BK126.out 2).trans rfl; have hcz10_3 : w8.cell? ⟨gb126, 3, none⟩ = some (.slice A0_3 l0_3.length c0_3) := (blk_cell BK126.out 3).trans rfl; have hfz10_0 := blk_frozen BK126.out 0; have hfz10_1 := blk_frozen BK126.out 1; have hfz10_2 := blk_frozen BK126.out 2; have hfz10_3 := blk_frozen BK126.out 3))
   go_loopg [3, 13] k (fun kq v3 v13 w' => ∃ (x3_1 : List (S24)) (x13_1 : Int), v13 = .int .i64 x13_1 ∧ Aside0 (tree_Copy.l0 kq x3_1 l0_3 (l0_3.length : Int) x13_1 a0_0 a0_1 a0_2 l0_3 = some (r1, r2, r3, r4)) ∧ Aside0 (kq ≤ k) ∧ Aside0 (Kd.R k24 24 w' w.heap.size (fun k_ => k_ ≠ gb126 ∧ k_ ≠ gb127) v3 x3_1) ∧ Aside0 (w'.heap[gb126]? = some (.cells #[.int .i64 a0_0, .string a0_1, .string a0_2, (.slice A0_3 l0_3.length c0_3)] 24 (0, 0))) ∧ Aside0 (w'.heap[gb127]? = some (.cells #[.int .i64 0, .string (⟨#[]⟩ : ByteArray), .string (⟨#[]⟩ : ByteArray), (.slice none 0 0)] 24 (0, 0))) ∧ Aside0 (Below w.heap.size w w'))
   case atStart => exact ⟨(y128), (0), (by first | rfl | (simp; done) | (simp [*]; done)), H', ⟨Nat.le_refl _⟩, ⟨by (with_reducible repeat (first | apply Kd.R_alloc | apply Kd.R_drewN | apply Kd.R_drew)); exact Kd.R_mono HO130.out (fun _ hk => ⟨hk.1.2, hk.2⟩)⟩, ⟨by (with_reducible repeat (first | refine blk_drewN ?_ _ | refine blk_drew ?_ | refine blk_alloc ?_ _)); exact BK126.out⟩, ⟨by (with_reducible repeat (first | refine blk_drewN ?_ _ | refine blk_drew ?_ | refine blk_alloc ?_ _)); exact BK127.out⟩, ⟨by repeat (first | (with_reducible first | exact HB.out | apply below_alloc | apply pw_below_drewN | apply below_drew1 | refine below_set ?_ GE126.out | refine below_set ?_ GE127.out) | exact HB.out)⟩⟩
   case round =>
    clear H'
    try clear c2
    try clear c2b0
    try clear c2b1
    try clear p2
    try clear c3
    try clear c3b0
    try clear c3b1
    try clear c4
    try clear c6
    try clear hcz10_0
    try clear hcz10_1
    try clear hcz10_2
    try clear hcz10_3
    try clear hcz7_0
    try clear hcz7_1
    try clear hcz7_2
    try clear hcz7_3
    try clear hfz10_0
    try clear hfz10_1
    try clear hfz10_2
    try clear hfz10_3
    try clear hfz7_0
    try clear hfz7_1
    try clear hfz7_2
    try clear hfz7_3
    obtain ⟨x3_1, x13_1, rfl, HA, HK1, HO_3, BK126, BK127, HB⟩ := hrel
    cases gk with
    | zero => exact absurd HA.out (by simp [tree_Copy.l0])
    | succ k1 =>
     have H := HA.out
     clear HA
     simp only [tree_Copy.l0] at H
     by_cases c11 : x13_1 < (l0_3.length : Int)
     ·rw [if_pos c11] at H
      have c11b0 : decide (x13_1 < (l0_3.length : Int)) = true := decide_eq_true c11
      clear c11
      by_cases c12 : 0 ≤ x13_1
      ·rw [if_pos c12] at H
       have c12b0 : decide (0 ≤ x13_1) = true := decide_eq_true c12
       clear c12
       by_cases c13 : x13_1 < (l0_3.length : Int)
       ·rw [if_pos c13] at H
        have c13b0 : decide (x13_1 < (l0_3.length : Int)) = true := decide_eq_true c13
        clear c13
        replace H := Option.bind_eq_some_iff.mp H
        obtain ⟨⟨t133, t134, t135, t136⟩, A140, H⟩ := H
        replace H : (if x3_1.length < 2199023255552 then (tree_Copy.l0 k1 (x3_1 ++ [(⟨t133, t134, t135, t136⟩ : S24)]) l0_3 (l0_3.length : Int) (wrap64 (x13_1 + 1)) a0_0 a0_1 a0_2 l0_3) else (none)) = some (r1, r2, r3, r4) := H
        have A14 := Aside0.mk A140
        clear A140
        by_cases c15 : x3_1.length < 2199023255552
        ·rw [if_pos c15] at H
         have LMc15 := Aside0.mk c15
         clear c15
         obtain ⟨y139, hy139⟩ : ∃ y_ : List (S24), y_ = (x3_1 ++ [(⟨t133, t134, t135, t136⟩ : S24)]) := ⟨_, rfl⟩
         replace H : (tree_Copy.l0 k1 y139 l0_3 (l0_3.length : Int) (wrap64 (x13_1 + 1)) a0_0 a0_1 a0_2 l0_3) = some (r1, r2, r3, r4) := by first | (rw [hy139]; with_reducible exact H) | (have H2_ := (Option.bind_some _ _).symm.trans H; rw [hy139]; with_reducible exact H2_) | (have H2_ := (Option.bind_some _ _).symm.trans H; with_reducible exact H2_) | with_reducible exact H | (rw [hy139]; exact H) | exact H
         have Ny139 := Aside0.mk hy139
         clear hy139
         have H' := Aside0.mk H
         clear H
         have p131 : 0 ≤ (x13_1 : Int) := of_decide_eq_true (by first | (with_reducible assumption) | assumption)
         have q131 : x13_1 < (l0_3.length : Int) := of_decide_eq_true (by first | (with_reducible assumption) | assumption)
         obtain ⟨ad131, A131_3, c131_3, e131, hx131_0, hx131_1, hx131_2, hx131_3, hl131_3, hi131_3⟩ := at_T24 HR0_3.out x13_1 p131 q131
         cases e131
         replace hx131_0 := (HB.out.cell (World.block_lt_of_cell? w _ hx131_0)).trans hx131_0
         replace hx131_1 := (HB.out.cell (World.block_lt_of_cell? w _ hx131_1)).trans hx131_1
         replace hx131_2 := (HB.out.cell (World.block_lt_of_cell? w _ hx131_2)).trans hx131_2
         replace hx131_3 := (HB.out.cell (World.block_lt_of_cell? w _ hx131_3)).trans hx131_3
         have HR131_3 := Aside0.mk hi131_3
         have HC131_3 := Aside0.mk hl131_3
         clear hi131_3 hl131_3
         replace p131 := eq_true p131
         replace q131 := eq_true q131
         go_wp2_with (first | ((with_reducible refine gate_dst (N := 5) rfl ?_); refine box_event ?hg (N := 5) ?hd (cs := #[.int .i64 0, .string (⟨#[]⟩ : ByteArray), .string (⟨#[]⟩ : ByteArray), .slice none 0 0]) (t := 24) ?hr ?_; (case hd => rfl); (case hg => rfl); (case hr => first | (go_simp; done) | (go_simp; rfl)); intro gb132 hg w16 hbox hb; have n0_ := Aside0.mk (Kd.R_below (Kd.R_elderB (by (with_reducible repeat (first | apply Kd.R_alloc | apply Kd.R_drewN | apply Kd.R_drew)); exact HO_3.out) gb132 (Nat.le_of_eq hg.symm)) hb); have n1_ := Aside0.mk (blk_below (g := gb126) (o := .cells #[.int .i64 a0_0, .string a0_1, .string a0_2, .slice (some ad131) l0_3.length c0_3] 24 (0, 0)) (by (with_reducible repeat (first | refine blk_drewN ?_ _ | refine blk_drew ?_ | refine blk_alloc ?_ _)); exact BK126.out) hb); have n2_ := Aside0.mk (blk_below (g := gb127) (o := .cells #[.int .i64 0, .string (⟨#[]⟩ : ByteArray), .string (⟨#[]⟩ : ByteArray), .slice none 0 0] 24 (0, 0)) (by (with_reducible repeat (first | refine blk_drewN ?_ _ | refine blk_drew ?_ | refine blk_alloc ?_ _)); exact BK127.out) hb); have n3_ := Aside0.mk (below_step (by repeat (first | (with_reducible first | exact HB.out | apply below_alloc | apply pw_below_drewN | apply below_drew1 | refine below_set ?_ GE126.out | refine below_set ?_ GE127.out) | exact HB.out)) hb); have n4_ := Aside0.mk (hbox); have n5_ := Aside0.mk ((by rw [hg]; exact (below_size (by repeat (first | (with_reducible first | exact HB.out | apply below_alloc | apply pw_below_drewN | apply below_drew1 | refine below_set ?_ GE126.out | refine below_set ?_ GE127.out) | exact HB.out))) : w.heap.size ≤ gb132)); have n6_ := Aside0.mk ((by rw [hg]; exact (below_size (by repeat (first | (with_reducible first | exact HB.out | apply below_alloc | apply pw_below_drewN | apply below_drew1 | refine below_set ?_ GE126.out | refine below_set ?_ GE127.out) | exact HB.out))) : w.heap.size ≤ gb132)); have n7_ := Aside0.mk ((by rw [hg]; exact Nat.ne_of_lt (blk_lt (g := gb126) (o := .cells #[.int .i64 a0_0, .string a0_1, .string a0_2, .slice (some ad131) l0_3.length c0_3] 24 (0, 0)) (by (with_reducible repeat (first | refine blk_drewN ?_ _ | refine blk_drew ?_ | refine blk_alloc ?_ _)); exact BK126.out)) : gb126 ≠ gb132)); have n8_ := Aside0.mk ((by rw [hg]; exact Nat.ne_of_gt (blk_lt (g := gb126) (o := .cells #[.int .i64 a0_0, .string a0_1, .string a0_2, .slice (some ad131) l0_3.length c0_3] 24 (0, 0)) (by (with_reducible repeat (first | refine blk_drewN ?_ _ | refine blk_drew ?_ | refine blk_alloc ?_ _)); exact BK126.out)) : gb132 ≠ gb126)); have n9_ := Aside0.mk ((by rw [hg]; exact Nat.ne_of_lt (blk_lt (g := gb127) (o := .cells #[.int .i64 0, .string (⟨#[]⟩ : ByteArray), .string (⟨#[]⟩ : ByteArray), .slice none 0 0] 24 (0, 0)) (by (with_reducible repeat (first | refine blk_drewN ?_ _ | refine blk_drew ?_ | refine blk_alloc ?_ _)); exact BK127.out)) : gb127 ≠ gb132)); have n10_ := Aside0.mk ((by rw [hg]; exact Nat.ne_of_gt (blk_lt (g := gb127) (o := .cells #[.int .i64 0, .string (⟨#[]⟩ : ByteArray), .string (⟨#[]⟩ : ByteArray), .slice none 0 0] 24 (0, 0)) (by (with_reducible repeat (first | refine blk_drewN ?_ _ | refine blk_drew ?_ | refine blk_alloc ?_ _)); exact BK127.out)) : gb132 ≠ gb127)); clear HO_3; clear BK126; clear BK127; clear HB; have HO_3 := n0_; have BK126 := n1_; have BK127 := n2_; have HB := n3_; have BK132 := n4_; have GW132 := n5_; have GE132 := n6_; have NB126_132 := n7_; have NB132_126 := n8_; have NB127_132 := n9_; have NB132_127 := n10_; clear n0_ n1_ n2_ n3_ n4_ n5_ n6_ n7_ n8_ n9_ n10_; clear hb hbox hg; have hnb17 := NB132_126.out; have hnc17 := NB126_132.out; have hnb18 := NB132_127.out; have hnc18 := NB127_132.out; have hcz19_0 : w16.cell? ⟨gb132, 0, none⟩ = some (.int .i64 0) := (blk_cell BK132.out 0).trans rfl; have hcz19_1 : w16.cell? ⟨gb132, 1, none⟩ = some (.string (⟨#[]⟩ : ByteArray)) := (blk_cell BK132.out 1).trans rfl; have hcz19_2 : w16.cell? ⟨gb132, 2, none⟩ = some (.string (⟨#[]⟩ : ByteArray)) := (blk_cell BK132.out 2).trans rfl; have hcz19_3 : w16.cell? ⟨gb132, 3, none⟩ = some (.slice none 0 0) := (blk_cell BK132.out 3).trans rfl; have hfz19_0 := blk_frozen BK132.out 0; have hfz19_1 := blk_frozen BK132.out 1; have hfz19_2 := blk_frozen BK132.out 2; have hfz19_3 := blk_frozen BK132.out 3) | ((with_reducible refine gate_callee (f := 41) rfl ?_); refine goesL_ (some 19) rfl rfl Try.func41 (by kernel_rfl) rfl #[.agg #[.int .i64 ((rd_T24 l0_3 x13_1).f0), .string ((rd_T24 l0_3 x13_1).f1), .string ((rd_T24 l0_3 x13_1).f2), .slice A131_3 ((rd_T24 l0_3 x13_1).f3).length c131_3]] rfl (by (try simp only [List.map_toArray, List.map_cons, List.map_nil]); first | done | rfl | (simp only [List.length_drop, List.length_take]; rfl)) ?_; (with_reducible refine (ih k1 (by have := HK1.out; omega) ((rd_T24 l0_3 x13_1).f0) ((rd_T24 l0_3 x13_1).f1) ((rd_T24 l0_3 x13_1).f2) _ _ ((rd_T24 l0_3 x13_1).f3) t133 t134 t135 t136 _ ?side1 ?side2 A14.out).mono ?_); (case side1 => exact Kd.C_below HR131_3.out (by repeat (first | (with_reducible first | exact HB.out | apply below_alloc | apply pw_below_drewN | apply below_drew1 | refine below_set ?_ GE126.out | refine below_set ?_ GE127.out | refine below_set ?_ GE132.out) | exact HB.out))); (case side2 => exact HC131_3.out); rintro e w20 ⟨v137, rfl, ho0, hb⟩; refine ⟨_, rfl, ?_⟩; have n0_ := Aside0.mk (Kd.R_elder' (by (with_reducible repeat (first | apply Kd.R_alloc | apply Kd.R_drewN | apply Kd.R_drew)); exact (Kd.R_mono (Kd.R_far (p := ⟨gb132, 3, none⟩) (Kd.R_far (p := ⟨gb132, 2, none⟩) (Kd.R_far (p := ⟨gb132, 1, none⟩) (Kd.R_far (p := ⟨gb132, 0, none⟩) (Kd.R_mono HO_3.out (fun k_ hk => (⟨hk, hk.2⟩ : _ ∧ k_ ≠ gb132))) (fun _ hk => hk.2) (.int .i64 ((rd_T24 l0_3 x13_1).f0))) (fun _ hk => hk.2) (.string ((rd_T24 l0_3 x13_1).f1))) (fun _ hk => hk.2) (.string ((rd_T24 l0_3 x13_1).f2))) (fun _ hk => hk.2) (.slice A131_3 ((rd_T24 l0_3 x13_1).f3).length c131_3)) (fun _ h_ => h_.1))) (Kd.R_base ho0) hb); have n1_ := Aside0.mk (Kd.R_lower (Kd.R_newB (Kd.R_newB (Kd.R_newB (Kd.R_new' ho0 (Kd.R_lt (by (with_reducible repeat (first | apply Kd.R_alloc | apply Kd.R_drewN | apply Kd.R_drew)); exact (Kd.R_mono (Kd.R_far (p := ⟨gb132, 3, none⟩) (Kd.R_far (p := ⟨gb132, 2, none⟩) (Kd.R_far (p := ⟨gb132, 1, none⟩) (Kd.R_far (p := ⟨gb132, 0, none⟩) (Kd.R_mono HO_3.out (fun k_ hk => (⟨hk, hk.2⟩ : _ ∧ k_ ≠ gb132))) (fun _ hk => hk.2) (.int .i64 ((rd_T24 l0_3 x13_1).f0))) (fun _ hk => hk.2) (.string ((rd_T24 l0_3 x13_1).f1))) (fun _ hk => hk.2) (.string ((rd_T24 l0_3 x13_1).f2))) (fun _ hk => hk.2) (.slice A131_3 ((rd_T24 l0_3 x13_1).f3).length c131_3)) (fun _ h_ => h_.1))))) (g := gb126) (o := .cells #[.int .i64 a0_0, .string a0_1, .string a0_2, .slice (some ad131) l0_3.length c0_3] 24 (0, 0)) (by (with_reducible repeat (first | refine blk_drewN ?_ _ | refine blk_drew ?_ | refine blk_alloc ?_ _)); refine blk_far ?_ NB126_132.out _; (with_reducible repeat (first | refine blk_drewN ?_ _ | refine blk_drew ?_ | refine blk_alloc ?_ _)); refine blk_far ?_ NB126_132.out _; (with_reducible repeat (first | refine blk_drewN ?_ _ | refine blk_drew ?_ | refine blk_alloc ?_ _)); refine blk_far ?_ NB126_132.out _; (with_reducible repeat (first | refine blk_drewN ?_ _ | refine blk_drew ?_ | refine blk_alloc ?_ _)); refine blk_far ?_ NB126_132.out _; (with_reducible repeat (first | refine blk_drewN ?_ _ | refine blk_drew ?_ | refine blk_alloc ?_ _)); exact BK126.out)) (g := gb127) (o := .cells #[.int .i64 0, .string (⟨#[]⟩ : ByteArray), .string (⟨#[]⟩ : ByteArray), .slice none 0 0] 24 (0, 0)) (by (with_reducible repeat (first | refine blk_drewN ?_ _ | refine blk_drew ?_ | refine blk_alloc ?_ _)); refine blk_far ?_ NB127_132.out _; (with_reducible repeat (first | refine blk_drewN ?_ _ | refine blk_drew ?_ | refine blk_alloc ?_ _)); refine blk_far ?_ NB127_132.out _; (with_reducible repeat (first | refine blk_drewN ?_ _ | refine blk_drew ?_ | refine blk_alloc ?_ _)); refine blk_far ?_ NB127_132.out _; (with_reducible repeat (first | refine blk_drewN ?_ _ | refine blk_drew ?_ | refine blk_alloc ?_ _)); refine blk_far ?_ NB127_132.out _; (with_reducible repeat (first | refine blk_drewN ?_ _ | refine blk_drew ?_ | refine blk_alloc ?_ _)); exact BK127.out)) (g := gb132) (o := .cells #[.int .i64 ((rd_T24 l0_3 x13_1).f0), .string ((rd_T24 l0_3 x13_1).f1), .string ((rd_T24 l0_3 x13_1).f2), .slice A131_3 ((rd_T24 l0_3 x13_1).f3).length c131_3] 24 (0, 0)) (by (with_reducible repeat (first | refine blk_drewN ?_ _ | refine blk_drew ?_ | refine blk_alloc ?_ _)); refine blk_put (cs := #[.int .i64 ((rd_T24 l0_3 x13_1).f0), .string ((rd_T24 l0_3 x13_1).f1), .string ((rd_T24 l0_3 x13_1).f2), .slice none 0 0]) ?_ 3 _ rfl; (with_reducible repeat (first | refine blk_drewN ?_ _ | refine blk_drew ?_ | refine blk_alloc ?_ _)); refine blk_put (cs := #[.int .i64 ((rd_T24 l0_3 x13_1).f0), .string ((rd_T24 l0_3 x13_1).f1), .string (⟨#[]⟩ : ByteArray), .slice none 0 0]) ?_ 2 _ rfl; (with_reducible repeat (first | refine blk_drewN ?_ _ | refine blk_drew ?_ | refine blk_alloc ?_ _)); refine blk_put (cs := #[.int .i64 ((rd_T24 l0_3 x13_1).f0), .string (⟨#[]⟩ : ByteArray), .string (⟨#[]⟩ : ByteArray), .slice none 0 0]) ?_ 1 _ rfl; (with_reducible repeat (first | refine blk_drewN ?_ _ | refine blk_drew ?_ | refine blk_alloc ?_ _)); refine blk_put (cs := #[.int .i64 0, .string (⟨#[]⟩ : ByteArray), .string (⟨#[]⟩ : ByteArray), .slice none 0 0]) ?_ 0 _ rfl; (with_reducible repeat (first | refine blk_drewN ?_ _ | refine blk_drew ?_ | refine blk_alloc ?_ _)); exact BK132.out)) (below_size (by repeat (first | (with_reducible first | exact HB.out | apply below_alloc | apply pw_below_drewN | apply below_drew1 | refine below_set ?_ GE126.out | refine below_set ?_ GE127.out | refine below_set ?_ GE132.out) | exact HB.out)))); have n2_ := Aside0.mk (blk_below (g := gb126) (o := .cells #[.int .i64 a0_0, .string a0_1, .string a0_2, .slice (some ad131) l0_3.length c0_3] 24 (0, 0)) (by (with_reducible repeat (first | refine blk_drewN ?_ _ | refine blk_drew ?_ | refine blk_alloc ?_ _)); refine blk_far ?_ NB126_132.out _; (with_reducible repeat (first | refine blk_drewN ?_ _ | refine blk_drew ?_ | refine blk_alloc ?_ _)); refine blk_far ?_ NB126_132.out _; (with_reducible repeat (first | refine blk_drewN ?_ _ | refine blk_drew ?_ | refine blk_alloc ?_ _)); refine blk_far ?_ NB126_132.out _; (with_reducible repeat (first | refine blk_drewN ?_ _ | refine blk_drew ?_ | refine blk_alloc ?_ _)); refine blk_far ?_ NB126_132.out _; (with_reducible repeat (first | refine blk_drewN ?_ _ | refine blk_drew ?_ | refine blk_alloc ?_ _)); exact BK126.out) hb); have n3_ := Aside0.mk (blk_below (g := gb127) (o := .cells #[.int .i64 0, .string (⟨#[]⟩ : ByteArray), .string (⟨#[]⟩ : ByteArray), .slice none 0 0] 24 (0, 0)) (by (with_reducible repeat (first | refine blk_drewN ?_ _ | refine blk_drew ?_ | refine blk_alloc ?_ _)); refine blk_far ?_ NB127_132.out _; (with_reducible repeat (first | refine blk_drewN ?_ _ | refine blk_drew ?_ | refine blk_alloc ?_ _)); refine blk_far ?_ NB127_132.out _; (with_reducible repeat (first | refine blk_drewN ?_ _ | refine blk_drew ?_ | refine blk_alloc ?_ _)); refine blk_far ?_ NB127_132.out _; (with_reducible repeat (first | refine blk_drewN ?_ _ | refine blk_drew ?_ | refine blk_alloc ?_ _)); refine blk_far ?_ NB127_132.out _; (with_reducible repeat (first | refine blk_drewN ?_ _ | refine blk_drew ?_ | refine blk_alloc ?_ _)); exact BK127.out) hb); have n4_ := Aside0.mk (blk_below (g := gb132) (o := .cells #[.int .i64 ((rd_T24 l0_3 x13_1).f0), .string ((rd_T24 l0_3 x13_1).f1), .string ((rd_T24 l0_3 x13_1).f2), .slice A131_3 ((rd_T24 l0_3 x13_1).f3).length c131_3] 24 (0, 0)) (by (with_reducible repeat (first | refine blk_drewN ?_ _ | refine blk_drew ?_ | refine blk_alloc ?_ _)); refine blk_put (cs := #[.int .i64 ((rd_T24 l0_3 x13_1).f0), .string ((rd_T24 l0_3 x13_1).f1), .string ((rd_T24 l0_3 x13_1).f2), .slice none 0 0]) ?_ 3 _ rfl; (with_reducible repeat (first | refine blk_drewN ?_ _ | refine blk_drew ?_ | refine blk_alloc ?_ _)); refine blk_put (cs := #[.int .i64 ((rd_T24 l0_3 x13_1).f0), .string ((rd_T24 l0_3 x13_1).f1), .string (⟨#[]⟩ : ByteArray), .slice none 0 0]) ?_ 2 _ rfl; (with_reducible repeat (first | refine blk_drewN ?_ _ | refine blk_drew ?_ | refine blk_alloc ?_ _)); refine blk_put (cs := #[.int .i64 ((rd_T24 l0_3 x13_1).f0), .string (⟨#[]⟩ : ByteArray), .string (⟨#[]⟩ : ByteArray), .slice none 0 0]) ?_ 1 _ rfl; (with_reducible repeat (first | refine blk_drewN ?_ _ | refine blk_drew ?_ | refine blk_alloc ?_ _)); refine blk_put (cs := #[.int .i64 0, .string (⟨#[]⟩ : ByteArray), .string (⟨#[]⟩ : ByteArray), .slice none 0 0]) ?_ 0 _ rfl; (with_reducible repeat (first | refine blk_drewN ?_ _ | refine blk_drew ?_ | refine blk_alloc ?_ _)); exact BK132.out) hb); have n5_ := Aside0.mk (below_step (by repeat (first | (with_reducible first | exact HB.out | apply below_alloc | apply pw_below_drewN | apply below_drew1 | refine below_set ?_ GE126.out | refine below_set ?_ GE127.out | refine below_set ?_ GE132.out) | exact HB.out)) hb); clear HO_3; clear BK126; clear BK127; clear BK132; clear HB; have HO_3 := n0_; have HO138 := n1_; have BK126 := n2_; have BK127 := n3_; have BK132 := n4_; have HB := n5_; clear n0_ n1_ n2_ n3_ n4_ n5_; (try clear hb); (try clear hb2); (try clear hk); (try clear hi); (try clear ho0); obtain ⟨Ao22, co22, eo22⟩ := Kd.R_slice HO138.out; subst eo22) | ((with_reducible refine gate_builtin (b := .append) (xs := #[.tmp 17, .tmp 20]) rfl ?_); at_builtin; refine Kd.R_append k24 (w0 := w) w.heap.size rfl (.tmp 17) (.tmp 20) 22 24 (.agg #[(.int .i64 0), (.string ⟨#[]⟩), (.string ⟨#[]⟩), (.slice none 0 0)]) 64 rfl Try.underlying22 info24 rfl (by decide) (by omega) u3 x3_1 (⟨t133, t134, t135, t136⟩ : S24) [.int .i64 t133, .string t134, .string t135, .slice Ao22 t136.length co22] (fun k_ => k_ ≠ gb126 ∧ k_ ≠ gb127 ∧ k_ ≠ gb132) (fun k_ => ((fun k_ => k_ ≠ gb126 ∧ k_ ≠ gb127 ∧ k_ ≠ gb132)) k_ ∧ some k_ ≠ (u3 : Value).ownBlock) rfl rfl ?aP (fun _ hk => hk) ?aF ?aO ?aB ?aS ?aL ?_; (case aP => exact k24_mkM _ _ _ (⟨t133, t134, t135, t136⟩ : S24) (Kd.R_mono (HO138.out) (fun k_ hk => ⟨⟨hk.1.1.2, ⟨hk.1.2, hk.2⟩⟩, hk.1.1.1.2⟩))); (case aB => exact (by repeat (first | (with_reducible first | exact HB.out | apply below_alloc | apply pw_below_drewN | apply below_drew1 | refine below_set ?_ GE126.out | refine below_set ?_ GE127.out | refine below_set ?_ GE132.out) | exact HB.out))); (case aF => exact (fun k_ hk => ⟨Kd.freshB (g := gb126) (o := .cells #[.int .i64 a0_0, .string a0_1, .string a0_2, .slice (some ad131) l0_3.length c0_3] 24 (0, 0)) (by (with_reducible repeat (first | refine blk_drewN ?_ _ | refine blk_drew ?_ | refine blk_alloc ?_ _)); exact BK126.out) k_ hk, Kd.freshB (g := gb127) (o := .cells #[.int .i64 0, .string (⟨#[]⟩ : ByteArray), .string (⟨#[]⟩ : ByteArray), .slice none 0 0] 24 (0, 0)) (by (with_reducible repeat (first | refine blk_drewN ?_ _ | refine blk_drew ?_ | refine blk_alloc ?_ _)); exact BK127.out) k_ hk, Kd.freshB (g := gb132) (o := .cells #[.int .i64 ((rd_T24 l0_3 x13_1).f0), .string ((rd_T24 l0_3 x13_1).f1), .string ((rd_T24 l0_3 x13_1).f2), .slice A131_3 ((rd_T24 l0_3 x13_1).f3).length c131_3] 24 (0, 0)) (by (with_reducible repeat (first | refine blk_drewN ?_ _ | refine blk_drew ?_ | refine blk_alloc ?_ _)); exact BK132.out) k_ hk⟩)); (case aO => exact (by (with_reducible repeat (first | apply Kd.R_alloc | apply Kd.R_drewN | apply Kd.R_drew)); exact Kd.R_mono HO_3.out (fun _ hk => ⟨hk.1.1.1, ⟨hk.1.1.2, hk.1.2⟩⟩))); (case aS => exact (below_size (by repeat (first | (with_reducible first | exact HB.out | apply below_alloc | apply pw_below_drewN | apply below_drew1 | refine below_set ?_ GE126.out | refine below_set ?_ GE127.out | refine below_set ?_ GE132.out) | exact HB.out)))); (case aL => have := LMc15.out; omega); intro v140 w21 ho hb hg hat; rw [← Ny139.out] at ho; have n0_ := Aside0.mk (blk_grown (g := gb126) (o := .cells #[.int .i64 a0_0, .string a0_1, .string a0_2, .slice (some ad131) l0_3.length c0_3] 24 (0, 0)) (by (with_reducible repeat (first | refine blk_drewN ?_ _ | refine blk_drew ?_ | refine blk_alloc ?_ _)); exact BK126.out) hg (Kd.R_away HO_3.out (fun _ hk => hk.1.1.1))); have n1_ := Aside0.mk (blk_grown (g := gb127) (o := .cells #[.int .i64 0, .string (⟨#[]⟩ : ByteArray), .string (⟨#[]⟩ : ByteArray), .slice none 0 0] 24 (0, 0)) (by (with_reducible repeat (first | refine blk_drewN ?_ _ | refine blk_drew ?_ | refine blk_alloc ?_ _)); exact BK127.out) hg (Kd.R_away HO_3.out (fun _ hk => hk.1.1.2))); have n2_ := Aside0.mk (blk_grown (g := gb132) (o := .cells #[.int .i64 ((rd_T24 l0_3 x13_1).f0), .string ((rd_T24 l0_3 x13_1).f1), .string ((rd_T24 l0_3 x13_1).f2), .slice A131_3 ((rd_T24 l0_3 x13_1).f3).length c131_3] 24 (0, 0)) (by (with_reducible repeat (first | refine blk_drewN ?_ _ | refine blk_drew ?_ | refine blk_alloc ?_ _)); exact BK132.out) hg (Kd.R_away HO_3.out (fun _ hk => hk.1.2))); have n3_ := Aside0.mk (hb); have n4_ := Aside0.mk (ho); clear BK126; clear BK127; clear BK132; clear HB; clear HO_3; clear HO138; have BK126 := n0_; have BK127 := n1_; have BK132 := n2_; have HB := n3_; have HO141 := n4_; clear n0_ n1_ n2_ n3_ n4_; clear ho hb hg hat))
         go_roundg k1
         case measure => have := HK1.out; omega
         case rel => exact ⟨(y139), (wrap64 (x13_1 + 1)), (by first | rfl | (simp; done) | (simp [*]; done)), H', ⟨by have := HK1.out; omega⟩, ⟨by (with_reducible repeat (first | apply Kd.R_alloc | apply Kd.R_drewN | apply Kd.R_drew)); exact Kd.R_mono HO141.out (fun _ hk => ⟨hk.1, hk.2.1⟩)⟩, ⟨by (with_reducible repeat (first | refine blk_drewN ?_ _ | refine blk_drew ?_ | refine blk_alloc ?_ _)); exact BK126.out⟩, ⟨by (with_reducible repeat (first | refine blk_drewN ?_ _ | refine blk_drew ?_ | refine blk_alloc ?_ _)); exact BK127.out⟩, ⟨by repeat (first | (with_reducible first | exact HB.out | apply below_alloc | apply pw_below_drewN | apply below_drew1 | refine below_set ?_ GE126.out | refine below_set ?_ GE127.out | refine below_set ?_ GE132.out) | exact HB.out)⟩⟩
        ·rw [if_neg c15] at H
         exact absurd H (by simp)
       ·rw [if_neg c13] at H
        exact absurd H (by simp)
      ·rw [if_neg c12] at H
       exact absurd H (by simp)
     ·rw [if_neg c11] at H
      have c11b0 : decide (x13_1 < (l0_3.length : Int)) = false := decide_eq_false c11
      clear c11
      simp only [Option.some.injEq, Prod.mk.injEq] at H
      obtain ⟨rfl, rfl, rfl, rfl⟩ := H
      obtain ⟨Ao23, co23, eo23⟩ := Kd.R_slice HO_3.out
      subst eo23
      have hnb24 := NB126_127.out
      have hnc24 := NB127_126.out
      have hcz25_0 : wr.cell? ⟨gb126, 0, none⟩ = some (.int .i64 a0_0) := (blk_cell BK126.out 0).trans rfl
      have hcz25_1 : wr.cell? ⟨gb126, 1, none⟩ = some (.string a0_1) := (blk_cell BK126.out 1).trans rfl
      have hcz25_2 : wr.cell? ⟨gb126, 2, none⟩ = some (.string a0_2) := (blk_cell BK126.out 2).trans rfl
      have hcz25_3 : wr.cell? ⟨gb126, 3, none⟩ = some (.slice A0_3 l0_3.length c0_3) := (blk_cell BK126.out 3).trans rfl
      have hfz25_0 := blk_frozen BK126.out 0
      have hfz25_1 := blk_frozen BK126.out 1
      have hfz25_2 := blk_frozen BK126.out 2
      have hfz25_3 := blk_frozen BK126.out 3
      have hcz26_0 : wr.cell? ⟨gb127, 0, none⟩ = some (.int .i64 0) := (blk_cell BK127.out 0).trans rfl
      have hcz26_1 : wr.cell? ⟨gb127, 1, none⟩ = some (.string (⟨#[]⟩ : ByteArray)) := (blk_cell BK127.out 1).trans rfl
      have hcz26_2 : wr.cell? ⟨gb127, 2, none⟩ = some (.string (⟨#[]⟩ : ByteArray)) := (blk_cell BK127.out 2).trans rfl
      have hcz26_3 : wr.cell? ⟨gb127, 3, none⟩ = some (.slice none 0 0) := (blk_cell BK127.out 3).trans rfl
      have hfz26_0 := blk_frozen BK127.out 0
      have hfz26_1 := blk_frozen BK127.out 1
      have hfz26_2 := blk_frozen BK127.out 2
      have hfz26_3 := blk_frozen BK127.out 3
      go_wp2
      refine bodyPost_ret (results_cell_row rfl _ _ gb127 24 #[.int .i64 a0_0, .string a0_1, .string a0_2, .slice Ao23 x3_1.length co23] (0, 0) _ rfl (by (with_reducible repeat (first | refine blk_drewN ?_ _ | refine blk_drew ?_ | refine blk_alloc ?_ _)); refine blk_put (cs := #[.int .i64 a0_0, .string a0_1, .string a0_2, .slice none 0 0]) ?_ 3 _ rfl; (with_reducible repeat (first | refine blk_drewN ?_ _ | refine blk_drew ?_ | refine blk_alloc ?_ _)); refine blk_put (cs := #[.int .i64 a0_0, .string a0_1, .string (⟨#[]⟩ : ByteArray), .slice none 0 0]) ?_ 2 _ rfl; (with_reducible repeat (first | refine blk_drewN ?_ _ | refine blk_drew ?_ | refine blk_alloc ?_ _)); refine blk_put (cs := #[.int .i64 a0_0, .string (⟨#[]⟩ : ByteArray), .string (⟨#[]⟩ : ByteArray), .slice none 0 0]) ?_ 1 _ rfl; (with_reducible repeat (first | refine blk_drewN ?_ _ | refine blk_drew ?_ | refine blk_alloc ?_ _)); refine blk_put (cs := #[.int .i64 0, .string (⟨#[]⟩ : ByteArray), .string (⟨#[]⟩ : ByteArray), .slice none 0 0]) ?_ 0 _ rfl; (with_reducible repeat (first | refine blk_drewN ?_ _ | refine blk_drew ?_ | refine blk_alloc ?_ _)); refine blk_far ?_ NB127_126.out _; (with_reducible repeat (first | refine blk_drewN ?_ _ | refine blk_drew ?_ | refine blk_alloc ?_ _)); exact BK127.out) Try.underlying24 rfl (by kernel_rfl)) rfl ?_
      exact ⟨_, by first | rfl | (simp [errW_none, errW_some] <;> rfl) | (simp [*, errW_none, errW_some] <;> rfl), by (with_reducible repeat (first | apply Kd.R_alloc | apply Kd.R_drewN | apply Kd.R_drew)); exact Kd.R_mono (Kd.R_far (p := ⟨gb127, 3, none⟩) (Kd.R_far (p := ⟨gb127, 2, none⟩) (Kd.R_far (p := ⟨gb127, 1, none⟩) (Kd.R_far (p := ⟨gb127, 0, none⟩) (Kd.R_far (p := ⟨gb126, 3, none⟩) (Kd.R_mono (Kd.R_mono HO_3.out (fun k_ hk => (⟨hk, hk.1⟩ : _ ∧ k_ ≠ gb126))) (fun k_ hk => (⟨hk, hk.1.2⟩ : _ ∧ k_ ≠ gb127))) (fun _ hk => hk.1.2) (.slice Ao23 x3_1.length co23)) (fun _ hk => hk.2) (.int .i64 a0_0)) (fun _ hk => hk.2) (.string a0_1)) (fun _ hk => hk.2) (.string a0_2)) (fun _ hk => hk.2) (.slice Ao23 x3_1.length co23)) (fun _ hk => trivial), by repeat (first | (with_reducible first | exact HB.out | apply below_alloc | apply pw_below_drewN | apply below_drew1 | refine below_set ?_ GE126.out | refine below_set ?_ GE127.out) | exact HB.out)⟩
  ·rw [if_neg c3] at H
   exact absurd H (by simp)
 ·rw [if_neg c2] at H
  exact absurd H (by simp)
-- NOT PRINTED: function 27 (shape_Of)
-- NOT PRINTED: function 20 (script_groveOf)
-- NOT PRINTED: function 42 (script_knot_42)
-- NOT PRINTED: function 29 (script_knot_place)
-- NOT PRINTED: function 47 (script_knot_47)
-- NOT PRINTED: function 50 (script_knot_50)
-- NOT PRINTED: function 49 (script_knot_49)
-- NOT PRINTED: function 48 (script_knot_48)
-- NOT PRINTED: function 44 (script_knot_44)
-- NOT PRINTED: function 31 (script_knot_put)
-- NOT PRINTED: function 45 (script_knot_45)
-- NOT PRINTED: function 32 (script_knot_out)
-- NOT PRINTED: function 33 (script_knot_below)
-- NOT PRINTED: function 21 (script_grove_do)
-- NOT PRINTED: function 22 (script_knot_node)
-- NOT PRINTED: function 10 (script_Apply)
end Go.Proofs.Ytfmlpkeaiohknaa.Q
set_option linter.unusedVariables false
set_option linter.unusedSimpArgs false
namespace Go.Proofs.Ytfmlpkeaiohknaa.Q
open Go.RowKit Go.Proofs.YtfmlpkeaiohknaaW.PrintWords Go.Proofs.YtfmlpkeaiohknaaW.PrintLast Go.Proofs.YtfmlpkeaiohknaaW.PrintMore Go.Proofs.YtfmlpkeaiohknaaW.SL
attribute [local go_sem] max2_int min2_int max_two min_two max_three min_three max_four min_four
theorem LeO.up {α : Type} {f : Nat → Option α} (h : ∀ k, LeO (f k) (f (k + 1))) {a b : Nat} (hab : a ≤ b) {r : α} (hr : f a = some r) : f b = some r := by
  induction hab with
  | refl => exact hr
  | step _ ih => exact h _ _ ih
/-- tree.Copy says the same tree. -/
theorem copy_l (a0 : Int) (a1 a2 : ByteArray) (l l' : List S24) (hl : l.length ≤ 1000000) (ih : ∀ x ∈ l, ∃ k, tree_Copy.f k x.f0 x.f1 x.f2 x.f3 = some (x.f0, x.f1, x.f2, x.f3)) :
    ∀ (d j : Nat), l.length = j + d → ∃ k, tree_Copy.l0 k (l.take j) l (l.length : Int) (j : Int) a0 a1 a2 l' = some (a0, a1, a2, l)
  | 0, j, h => ⟨1, by
      have hj : ¬ (j : Int) < (l.length : Int) := by omega
      rw [tree_Copy.l0, if_neg hj, List.take_of_length_le (by omega)]⟩
  | d + 1, j, h => by
      obtain ⟨k1, h1⟩ := copy_l a0 a1 a2 l l' hl ih d (j + 1) (by omega)
      have hjl : j < l.length := by omega
      obtain ⟨k2, h2⟩ := ih l[j] (List.getElem_mem hjl)
      have hrd : rd_T24 l (j : Int) = l[j] := by simp [rd_T24, List.getD_eq_getElem?_getD, List.getElem?_eq_getElem hjl]
      have hw : wrap64 ((j : Int) + 1) = ((j + 1 : Nat) : Int) := by unfold wrap64; omega
      have h3 := LeO.up (fun k => tree_Copy.mono l[j].f0 l[j].f1 l[j].f2 l[j].f3 k) (Nat.le_max_right k1 k2) h2
      have h4 := LeO.up (f := fun k => tree_Copy.l0 k (l.take (j + 1)) l (l.length : Int) ((j + 1 : Nat) : Int) a0 a1 a2 l') (fun k => (tree_Copy.mono_l k).2 _ _ _ _ _ _ _ _) (Nat.le_max_left k1 k2) h1
      refine ⟨max k1 k2 + 1, ?_⟩
      have hj : (j : Int) < (l.length : Int) := by omega
      have h0 : (0 : Int) ≤ (j : Int) := by omega
      have ht : (l.take j).length < 2199023255552 := by rw [List.length_take]; omega
      rw [tree_Copy.l0, if_pos hj, if_pos h0, if_pos hj, hrd, h3]
      simp only [Option.bind_some]
      rw [if_pos ht, hw]
      have e : l.take j ++ [(⟨l[j].f0, l[j].f1, l[j].f2, l[j].f3⟩ : S24)] = l.take (j + 1) := by rw [List.take_succ_eq_append_getElem hjl, (fun z => by cases z; rfl : ∀ z : S24, (⟨z.f0, z.f1, z.f2, z.f3⟩ : S24) = z)]
      rw [e]
      exact h4
theorem nszL_mem : ∀ {l : List S24} {x : S24}, x ∈ l → nsz x ≤ nszL l
  | a :: r, x, h => by
    rcases List.mem_cons.1 h with rfl | h
    · simp only [nszL]; omega
    · have := nszL_mem h; simp only [nszL]; omega
theorem copy_f : ∀ (n : Nat) (x : S24), nsz x ≤ n → n ≤ 1000000 → ∃ k, tree_Copy.f k x.f0 x.f1 x.f2 x.f3 = some (x.f0, x.f1, x.f2, x.f3)
  | 0, ⟨_, _, _, _⟩, h, _ => by simp [nsz] at h
  | n + 1, ⟨a, b, c, l⟩, h, hn => by
    simp only [nsz] at h
    have hl := len_nszL l
    obtain ⟨k, hk⟩ := copy_l a b c l l (by omega) (fun x hx => copy_f n x (by have := nszL_mem hx; omega) (by omega)) l.length 0 (by omega)
    refine ⟨k + 1, ?_⟩
    have h0 : (0 : Int) ≤ (l.length : Int) := by omega
    have h1 : ((l.length : Int) : Int).toNat ≤ 4398046511104 := by omega
    simp only []
    rw [tree_Copy.f, if_pos h0, if_pos h1]
    simpa using hk
theorem Pl.start {w0 w : World} {Z Φ : Nat → Prop} {g : Nat} {X : List Asr} (h : St w0 Z (blk g 71 #[.slice none 0 0, .slice none 0 0, .slice none 0 0, .slice none 0 0] :: X) w) (hΦ : ∀ k, Φ k → Z k ∨ k < w0.heap.size) :
    Pl w0 Z Φ g ⟨.slice none 0 0, .slice none 0 0, .slice none 0 0, .slice none 0 0, [], []⟩ ⟨[], [], [], []⟩ X w := by
  refine ⟨?_, hΦ, fun j x hj => by simp at hj, rfl, rfl, rfl, rfl, rfl, fun u hu => by simp at hu⟩
  have he : St w0 Z (grp [] :: blk g 71 #[.slice none 0 0, .slice none 0 0, .slice none 0 0, .slice none 0 0] :: X) w := by
    obtain ⟨f, hf, hd⟩ := h.hs
    exact ⟨h.below, h.zlt, f, ⟨fun _ => False, f, fun k => by simp, fun k h1 => h1.elim, fun k h1 => h1, hf⟩, hd⟩
  have h4 := (((he.row_nil 36 1).row_nil 3 1).row_nil 3 1).row_nil 24 4
  exact h4.perm (List.perm_middle (l₁ := [row (.slice none 0 0) 24 4 0 [], row (.slice none 0 0) 3 1 0 [], row (.slice none 0 0) 3 1 0 [], row (.slice none 0 0) 36 1 0 [], grp []]))
def ofP (x : S24) : PS := addN x (-1) ⟨[], [], [], []⟩
def shape_Of.f (a0_0 : Int) (a0_1 : ByteArray) (a0_2 : ByteArray) (l0_3 : List (S24)) : Option ((List (S24)) × List Int × List Int × (List (List Int))) :=
  if nsz ⟨a0_0, a0_1, a0_2, l0_3⟩ ≤ 1000000 then some ((ofP ⟨a0_0, a0_1, a0_2, l0_3⟩).N, (ofP ⟨a0_0, a0_1, a0_2, l0_3⟩).P, (ofP ⟨a0_0, a0_1, a0_2, l0_3⟩).Z, (ofP ⟨a0_0, a0_1, a0_2, l0_3⟩).K) else none
/-- The plan's first node: its own cells; its Kids' row, which the plan alone has. -/
structure OfOwn (w w' : World) (a : Int) (b c : ByteArray) (n m : Nat) (v : Value) : Prop where
  ex : ∃ (gN qN : Nat) (cur : Array Value) (A5 : Option Addr) (c5 : Nat) (inner : List Value), v = .slice (some ⟨gN, 0, none⟩) m qN ∧ w'.heap[gN]? = some (.cells cur 24 (0, 0)) ∧ cur.toList.take 4 = [.int .i64 a, .string b, .string c, .slice A5 n c5] ∧ w'.ownsRow w.heap.size 24 4 (.slice A5 n c5) n inner
set_option maxHeartbeats 8000000 in
set_option maxRecDepth 100000 in
theorem shape_Of.callsK (a0_0 : Int) (a0_1 : ByteArray) (a0_2 : ByteArray) (A0_3 : Option Addr) (c0_3 : Nat) (l0_3 : List (S24)) (r1 : List (S24)) (r2 : List Int) (r3 : List Int) (r4 : List (List Int)) (w : World) (hr0_3 : Kd.C k24 w A0_3 l0_3.length l0_3) (hc0_3 : l0_3.length ≤ c0_3) (h : shape_Of.f a0_0 a0_1 a0_2 l0_3 = some (r1, r2, r3, r4)) :
  Calls Try.prog 27 #[.agg #[.int .i64 a0_0, .string a0_1, .string a0_2, .slice A0_3 l0_3.length c0_3]] w fun e w' => ∃ v0_ v1_ v2_ v3_ : Value, e = .returned (.agg #[v0_, v1_, v2_, v3_]) ∧ Kd.N k24 24 w' w.heap.size (fun k_ => (w.heap.size ≤ k_) ∧ some k_ ≠ (v1_ : Value).ownBlock ∧ some k_ ≠ (v2_ : Value).ownBlock ∧ some k_ ≠ (v3_ : Value).ownBlock) v0_ r1 ∧ Kd.R (Kd.int .i64) 3 w' w.heap.size (fun k_ => (w.heap.size ≤ k_) ∧ some k_ ≠ (v2_ : Value).ownBlock) v1_ r2 ∧ Kd.R (Kd.int .i64) 3 w' w.heap.size (fun k_ => (w.heap.size ≤ k_) ∧ some k_ ≠ (v1_ : Value).ownBlock) v2_ r3 ∧ Kd.S (Kd.slice 3 (Kd.int .i64)) 36 w' w.heap.size (fun k_ => (w.heap.size ≤ k_) ∧ some k_ ≠ (v1_ : Value).ownBlock ∧ some k_ ≠ (v2_ : Value).ownBlock) v3_ r4 ∧ Below w.heap.size w w' ∧ OfOwn w w' a0_0 a0_1 a0_2 l0_3.length r1.length v0_ := by
 unfold shape_Of.f at h
 by_cases hsz : nsz ⟨a0_0, a0_1, a0_2, l0_3⟩ ≤ 1000000
 case neg => rw [if_neg hsz] at h; cases h
 rw [if_pos hsz] at h
 simp only [Option.some.injEq, Prod.mk.injEq] at h
 obtain ⟨rfl, rfl, rfl, rfl⟩ := h
 obtain ⟨k, hk⟩ := copy_f _ ⟨a0_0, a0_1, a0_2, l0_3⟩ hsz (Nat.le_refl _)
 simp only [] at hk
 have hu24 := Try.underlying24
 have hu71 := Try.underlying71
 have s0 := St.start w
 go_enter Try.func27, Try.ntmps27
 go_wp2_with (first | ((with_reducible refine gate_dst (N := 1) rfl ?_); refine box_event ?hg (N := 1) ?hd (cs := #[.int .i64 a0_0, .string a0_1, .string a0_2, .slice A0_3 l0_3.length c0_3]) (t := 24) ?hr ?_; (case hd => rfl); (case hg => rfl); (case hr => first | (go_simp; done) | (go_simp; rfl)); intro g1 hg_ w1 hbox hb; have s1 := (s0.more hb (a := blk g1 24 #[.int .i64 a0_0, .string a0_1, .string a0_2, .slice A0_3 l0_3.length c0_3]) (f := fun k => k = g1) ⟨fun _ => Iff.rfl, hbox⟩ (fun k hk => by omega)).1; clear hb hbox hg_) | ((with_reducible refine gate_dst (N := 2) rfl ?_); refine box_event ?hg (N := 2) ?hd (cs := #[.slice none 0 0, .slice none 0 0, .slice none 0 0, .slice none 0 0]) (t := 71) ?hr ?_; (case hd => rfl); (case hg => rfl); (case hr => first | (go_simp; done) | (go_simp; rfl)); intro g2 hg_ w2 hbox hb; have s2 := (s1.more hb (a := blk g2 71 #[.slice none 0 0, .slice none 0 0, .slice none 0 0, .slice none 0 0]) (f := fun k => k = g2) ⟨fun _ => Iff.rfl, hbox⟩ (fun k hk => by omega)).1; clear hb hbox hg_) | ((with_reducible refine gate_dst (N := 3) rfl ?_); refine box_event ?hg (N := 3) ?hd (cs := #[.slice none 0 0, .slice none 0 0, .slice none 0 0, .slice none 0 0]) (t := 71) ?hr ?_; (case hd => rfl); (case hg => rfl); (case hr => first | (go_simp; done) | (go_simp; rfl)); intro g3 hg_ w3 hbox hb; have s3 := (s2.more hb (a := blk g3 71 #[.slice none 0 0, .slice none 0 0, .slice none 0 0, .slice none 0 0]) (f := fun k => k = g3) ⟨fun _ => Iff.rfl, hbox⟩ (fun k hk => by omega)).1; clear hb hbox hg_; have hx0 : w3.cell? ⟨g1, 0, none⟩ = some (.int .i64 a0_0) := (blk_cell (s3.at_blk (i := 2) rfl) 0).trans rfl; have hx1 : w3.cell? ⟨g1, 1, none⟩ = some (.string a0_1) := (blk_cell (s3.at_blk (i := 2) rfl) 1).trans rfl; have hx2 : w3.cell? ⟨g1, 2, none⟩ = some (.string a0_2) := (blk_cell (s3.at_blk (i := 2) rfl) 2).trans rfl; have hx3 : w3.cell? ⟨g1, 3, none⟩ = some (.slice A0_3 l0_3.length c0_3) := (blk_cell (s3.at_blk (i := 2) rfl) 3).trans rfl) | ((with_reducible refine gate_callee (f := 41) rfl ?_); refine goesL_ (some 5) rfl rfl Try.func41 (by kernel_rfl) rfl #[.agg #[.int .i64 a0_0, .string a0_1, .string a0_2, .slice A0_3 l0_3.length c0_3]] rfl (by (try simp only [List.map_toArray, List.map_cons, List.map_nil]); first | done | rfl) ?_; refine (tree_Copy.calls k a0_0 a0_1 a0_2 A0_3 c0_3 l0_3 _ _ _ _ _ (Kd.C_below hr0_3 s3.below) hc0_3 hk).mono ?_; rintro e w5 ⟨v3, rfl, hR, hB⟩; refine ⟨_, rfl, ?_⟩; obtain ⟨A5, c5, rfl⟩ := Kd.R_slice hR; have s5 := s3.freeze hB; have hf5 := Kd.F_mono (Kd.R_F (Kd.R_bound hR)) (ok' := fun k => w3.heap.size ≤ k ∧ k < w5.heap.size) (fun k hk => ⟨hk.2.1, hk.2.2.1⟩); have hl5 := own_le (Kd.R_own hR).choose_spec; have ho5 := Kd.R_own hR; clear hx0 hx1 hx2 hx3) | ((with_reducible refine gate_callee (f := 40) rfl ?_); refine goesL_ (some 6) rfl rfl Try.func40 (by kernel_rfl) rfl #[.pointer (some ⟨g3, 0, none⟩), .agg #[.int .i64 a0_0, .string a0_1, .string a0_2, .slice A5 l0_3.length c5], .int .i64 (-1)] rfl (by (try simp only [List.map_toArray, List.map_cons, List.map_nil]); first | done | rfl) ?_; have HP := Pl.start s5 (Φ := fun k => w3.heap.size ≤ k ∧ k < w5.heap.size) (fun k hk => .inl (.inr hk)); refine (add_calls _ ⟨a0_0, a0_1, a0_2, l0_3⟩ (Nat.le_refl _) w _ _ g3 _ _ _ (-1) A5 c5 _ HP hf5 hl5 (by simpa using hsz) (by simpa [sumK] using hsz)).mono ?_; rintro e w6 ⟨rfl, ⟨⟨nn, pp, zz, kk, cn, us⟩, HP6, hpre⟩, sm6⟩; obtain ⟨An, qn, en⟩ := own_slice (HP6.st.at_row (i := 1) rfl); have fn : nn = .slice An _ qn := en; clear en; subst fn; obtain ⟨Ap, qp, ep⟩ := own_slice (HP6.st.at_row (i := 2) rfl); have fp : pp = .slice Ap _ qp := ep; clear ep; subst fp; obtain ⟨Az, qz, ez⟩ := own_slice (HP6.st.at_row (i := 3) rfl); have fz : zz = .slice Az _ qz := ez; clear ez; subst fz; obtain ⟨Ak, qk, ek⟩ := own_slice (HP6.st.at_row (i := 4) rfl); have fk : kk = .slice Ak _ qk := ek; clear ek; subst fk; refine ⟨_, rfl, ?_⟩; have hq0 := HP6.st.at_blk (i := 0) rfl; have hy0 : w6.cell? ⟨g3, 0, none⟩ = some (.slice An _ qn) := (blk_cell hq0 0).trans rfl; have hy1 : w6.cell? ⟨g3, 1, none⟩ = some (.slice Ap _ qp) := (blk_cell hq0 1).trans rfl; have hy2 : w6.cell? ⟨g3, 2, none⟩ = some (.slice Az _ qz) := (blk_cell hq0 2).trans rfl; have hy3 : w6.cell? ⟨g3, 3, none⟩ = some (.slice Ak _ qk) := (blk_cell hq0 3).trans rfl; have hq2 := HP6.st.at_blk (i := 6) rfl; have hz0 : w6.cell? ⟨g2, 0, none⟩ = some (.slice none 0 0) := (blk_cell hq2 0).trans rfl; have hz1 : w6.cell? ⟨g2, 1, none⟩ = some (.slice none 0 0) := (blk_cell hq2 1).trans rfl; have hz2 : w6.cell? ⟨g2, 2, none⟩ = some (.slice none 0 0) := (blk_cell hq2 2).trans rfl; have hz3 : w6.cell? ⟨g2, 3, none⟩ = some (.slice none 0 0) := (blk_cell hq2 3).trans rfl; have hfz0 := blk_frozen hq2 0; have hfz1 := blk_frozen hq2 1; have hfz2 := blk_frozen hq2 2; have hfz3 := blk_frozen hq2 3; have hne : g2 ≠ g3 := fun e_ => (by obtain ⟨fa, fb, ha, hb_, hd_⟩ := Hs.apart HP6.st.hs.choose_spec.1 (i := 6) (j := 0) rfl rfl (by decide); exact hd_ g2 ((ha.1 g2).2 rfl) ((hb_.1 g2).2 e_)); have hne2 : g3 ≠ g2 := fun e_ => hne e_.symm))
 have t0_ := HP6.st.set (i := 6) rfl 0 (.slice An (addN ⟨a0_0, a0_1, a0_2, l0_3⟩ (-1) ⟨[], [], [], []⟩).N.length qn)
 have t1_ := t0_.1.set (i := 6) rfl 1 (.slice Ap (addN ⟨a0_0, a0_1, a0_2, l0_3⟩ (-1) ⟨[], [], [], []⟩).N.length qp)
 have t2_ := t1_.1.set (i := 6) rfl 2 (.slice Az (addN ⟨a0_0, a0_1, a0_2, l0_3⟩ (-1) ⟨[], [], [], []⟩).N.length qz)
 have t3_ := t2_.1.set (i := 6) rfl 3 (.slice Ak (addN ⟨a0_0, a0_1, a0_2, l0_3⟩ (-1) ⟨[], [], [], []⟩).N.length qk)
 have hbk := t3_.1.at_blk (i := 6) rfl
 have HPf := (HP6.same t3_.1 (t0_.2.trans (t1_.2.trans (t2_.2.trans t3_.2)))).out (fun k hk => ⟨.inr hk, by have := s3.below.size; omega⟩)
 refine bodyPost_ret (results_cell_row rfl _ _ g2 71 _ (0, 0) _ rfl hbk hu71 rfl rfl) rfl ?_
 refine ⟨_, _, _, _, rfl, HPf.1, HPf.2.1, HPf.2.2.1, HPf.2.2.2, t3_.1.below, ?_⟩
 obtain ⟨inner, ho5⟩ := ho5
 have smf := sm6.trans (t0_.2.trans (t1_.2.trans (t2_.2.trans t3_.2)))
 have hown := own_weaken (own_move ho5 (fun k hk => smf.same k (.inl (.inr ⟨own_base ho5 k hk, own_lt ho5 k hk⟩)) (own_lt ho5 k hk))) (base' := w.heap.size) (by have := s3.below.size; omega)
 obtain ⟨hcl, hrow⟩ := t3_.1.at_row (i := 1) rfl
 have hnl : (addN ⟨a0_0, a0_1, a0_2, l0_3⟩ (-1) ⟨[], [], [], []⟩).N.length = nsz ⟨a0_0, a0_1, a0_2, l0_3⟩ := by rw [addN_len]; simp
 have hn0 : 0 < nsz ⟨a0_0, a0_1, a0_2, l0_3⟩ := by simp only [nsz]; omega
 rcases hrow with ⟨_, h0⟩ | ⟨gN, cap, cur, eN, _, hg, _, _, _, htk⟩
 · omega
 · refine ⟨gN, cap, cur, A5, c5, inner, ?_, hg, ?_, hown⟩
   · exact eN ▸ rfl
   have htk' : cur.toList.take ((addN ⟨a0_0, a0_1, a0_2, l0_3⟩ (-1) ⟨[], [], [], []⟩).N.length * 4) = cn := htk
   obtain ⟨q, hq⟩ := hpre
   have hq' : [.int .i64 a0_0, .string a0_1, .string a0_2, .slice A5 l0_3.length c5] ++ q = cn := by simpa using hq
   have h4 : (cur.toList.take ((addN ⟨a0_0, a0_1, a0_2, l0_3⟩ (-1) ⟨[], [], [], []⟩).N.length * 4)).take 4 = cur.toList.take 4 := by rw [List.take_take, Nat.min_eq_left (by rw [hnl]; omega)]
   rw [← h4, htk', ← hq']
   rfl
theorem shape_Of.calls (a0_0 : Int) (a0_1 : ByteArray) (a0_2 : ByteArray) (A0_3 : Option Addr) (c0_3 : Nat) (l0_3 : List (S24)) (r1 : List (S24)) (r2 : List Int) (r3 : List Int) (r4 : List (List Int)) (w : World) (hr0_3 : Kd.C k24 w A0_3 l0_3.length l0_3) (hc0_3 : l0_3.length ≤ c0_3) (h : shape_Of.f a0_0 a0_1 a0_2 l0_3 = some (r1, r2, r3, r4)) :
  Calls Try.prog 27 #[.agg #[.int .i64 a0_0, .string a0_1, .string a0_2, .slice A0_3 l0_3.length c0_3]] w fun e w' => ∃ v0_ v1_ v2_ v3_ : Value, e = .returned (.agg #[v0_, v1_, v2_, v3_]) ∧ Kd.N k24 24 w' w.heap.size (fun k_ => (w.heap.size ≤ k_) ∧ some k_ ≠ (v1_ : Value).ownBlock ∧ some k_ ≠ (v2_ : Value).ownBlock ∧ some k_ ≠ (v3_ : Value).ownBlock) v0_ r1 ∧ Kd.R (Kd.int .i64) 3 w' w.heap.size (fun k_ => (w.heap.size ≤ k_) ∧ some k_ ≠ (v2_ : Value).ownBlock) v1_ r2 ∧ Kd.R (Kd.int .i64) 3 w' w.heap.size (fun k_ => (w.heap.size ≤ k_) ∧ some k_ ≠ (v1_ : Value).ownBlock) v2_ r3 ∧ Kd.S (Kd.slice 3 (Kd.int .i64)) 36 w' w.heap.size (fun k_ => (w.heap.size ≤ k_) ∧ some k_ ≠ (v1_ : Value).ownBlock ∧ some k_ ≠ (v2_ : Value).ownBlock) v3_ r4 ∧ Below w.heap.size w w' :=
 (shape_Of.callsK a0_0 a0_1 a0_2 A0_3 c0_3 l0_3 r1 r2 r3 r4 w hr0_3 hc0_3 h).mono fun e w' ⟨v0, v1, v2, v3, h1, h2, h3, h4, h5, h6, _⟩ => ⟨v0, v1, v2, v3, h1, h2, h3, h4, h5, h6⟩
end Go.Proofs.Ytfmlpkeaiohknaa.Q
/-! How a plan lies: each node's parent, size and kids' places. -/
set_option linter.unusedVariables false
namespace Go.Proofs.Ytfmlpkeaiohknaa.Q
/-- The places of kids that begin at a. -/
def places : List S24 → Nat → List Int
  | [], _ => []
  | k :: r, a => (a : Int) :: places r (a + nsz k)
mutual
def Lay (s : PS) : S24 → Nat → Int → Prop
  | ⟨a, b, c, l⟩, at_, p => s.P[at_]? = some p ∧ s.Z[at_]? = some ((1 + nszL l : Nat) : Int) ∧ s.K[at_]? = some (places l (at_ + 1)) ∧ LayL s l (at_ + 1) at_
def LayL (s : PS) : List S24 → Nat → Int → Prop
  | [], _, _ => True
  | k :: r, a, p => Lay s k a p ∧ LayL s r (a + nsz k) p
end
/-- The same from a on, below b. -/
def Agree (s s' : PS) (a b : Nat) : Prop := ∀ i, a ≤ i → i < b → s'.P[i]? = s.P[i]? ∧ s'.Z[i]? = s.Z[i]? ∧ s'.K[i]? = s.K[i]?
mutual
theorem Lay.mono {s s' : PS} : ∀ (x : S24) (at_ : Nat) (p : Int), Lay s x at_ p → Agree s s' at_ (at_ + nsz x) → Lay s' x at_ p
  | ⟨a, b, c, l⟩, at_, p, h, hg => by
    simp only [Lay, nsz] at *
    obtain ⟨h1, h2, h3, h4⟩ := h
    obtain ⟨g1, g2, g3⟩ := hg at_ (Nat.le_refl _) (by omega)
    exact ⟨g1.trans h1, g2.trans h2, g3.trans h3, LayL.mono l (at_ + 1) at_ h4 (fun i hi hj => hg i (by omega) (by omega))⟩
theorem LayL.mono {s s' : PS} : ∀ (l : List S24) (a : Nat) (p : Int), LayL s l a p → Agree s s' a (a + nszL l) → LayL s' l a p
  | [], a, p, h, hg => trivial
  | k :: r, a, p, h, hg => by
    simp only [LayL, nszL] at *
    exact ⟨Lay.mono k a p h.1 (fun i hi hj => hg i hi (by omega)), LayL.mono r (a + nsz k) p h.2 (fun i hi hj => hg i (by omega) (by omega))⟩
end
structure Wf (s : PS) : Prop where
  p : s.P.length = s.N.length
  z : s.Z.length = s.N.length
  k : s.K.length = s.N.length
mutual
theorem addN_lay : ∀ (x : S24) (p : Int) (s : PS), Wf s → Wf (addN x p s) ∧ Agree s (addN x p s) 0 s.N.length ∧ Lay (addN x p s) x s.N.length p
  | ⟨a, b, c, l⟩, p, s, h => by
    have h0 : Wf ⟨s.N ++ [⟨a, b, c, l⟩], s.P ++ [p], s.Z ++ [0], s.K ++ [[]]⟩ := ⟨by simp [h.p], by simp [h.z], by simp [h.k]⟩
    obtain ⟨w1, g1, g2, g3, g4⟩ := addL_lay l s.N.length ⟨s.N ++ [⟨a, b, c, l⟩], s.P ++ [p], s.Z ++ [0], s.K ++ [[]]⟩ h0 (by simp)
    have hlen := addL_len l s.N.length ⟨s.N ++ [⟨a, b, c, l⟩], s.P ++ [p], s.Z ++ [0], s.K ++ [[]]⟩
    simp only [List.length_append, List.length_cons, List.length_nil, Nat.zero_add] at g1 g2 g3 g4 hlen
    have hp := h.p; have hz := h.z; have hk := h.k
    refine ⟨⟨w1.p, by simp only [addN, List.length_set]; exact w1.z, w1.k⟩, fun i _ hi => ⟨?_, ?_, ?_⟩, ?_⟩
    · exact ((g1 i (by omega)).1).trans (List.getElem?_append_left (by omega))
    · simp only [addN]; rw [List.getElem?_set_ne (by omega)]; exact ((g1 i (by omega)).2).trans (List.getElem?_append_left (by omega))
    · exact (g2 i (by omega) (by omega)).trans (List.getElem?_append_left (by omega))
    · have hK : (addL l s.N.length ⟨s.N ++ [⟨a, b, c, l⟩], s.P ++ [p], s.Z ++ [0], s.K ++ [[]]⟩).K[s.N.length]? = some (places l (s.N.length + 1)) := by
        have hlt : s.N.length < (addL l s.N.length ⟨s.N ++ [⟨a, b, c, l⟩], s.P ++ [p], s.Z ++ [0], s.K ++ [[]]⟩).K.length := by rw [w1.k, hlen]; omega
        have hK0 : (s.K ++ [[]]).getD s.N.length [] = [] := by rw [← hk]; simp
        rw [hK0, List.nil_append] at g3
        rw [← g3, List.getD_eq_getElem?_getD, List.getElem?_eq_getElem hlt]; rfl
      refine ⟨?_, ?_, hK, ?_⟩
      · refine ((g1 _ (by omega)).1).trans ?_
        rw [← hp]; simp
      · simp only [addN]
        rw [List.getElem?_set_self (by rw [w1.z, hlen]; omega), hlen]
        congr 1; push_cast; omega
      · refine LayL.mono l _ _ g4 (fun i hi _ => ⟨rfl, ?_, rfl⟩)
        simp only [addN]; rw [List.getElem?_set_ne (by omega)]
theorem addL_lay : ∀ (l : List S24) (a : Nat) (s : PS), Wf s → a < s.N.length → Wf (addL l a s) ∧ (∀ i, i < s.N.length → (addL l a s).P[i]? = s.P[i]? ∧ (addL l a s).Z[i]? = s.Z[i]?) ∧ (∀ i, i < s.N.length → i ≠ a → (addL l a s).K[i]? = s.K[i]?) ∧ (addL l a s).K.getD a [] = s.K.getD a [] ++ places l s.N.length ∧ LayL (addL l a s) l s.N.length a
  | [], a, s, h, ha => ⟨h, fun _ _ => ⟨rfl, rfl⟩, fun _ _ _ => rfl, by simp [addL, places], trivial⟩
  | k :: r, a, s, h, ha => by
    obtain ⟨w1, ag, lay⟩ := addN_lay k a s h
    have hl := addN_len k a s
    have w2 : Wf { (addN k a s) with K := (addN k a s).K.set a ((addN k a s).K.getD a [] ++ [(s.N.length : Int)]) } := ⟨w1.p, w1.z, by simp only [List.length_set]; exact w1.k⟩
    obtain ⟨w3, g1, g2, g3, g4⟩ := addL_lay r a _ w2 (by simp only []; omega)
    simp only [] at g1 g2 g3 g4
    have hka : a < (addN k a s).K.length := by rw [w1.k]; omega
    have hsk : (addN k a s).K.getD a [] = s.K.getD a [] := by rw [List.getD_eq_getElem?_getD, List.getD_eq_getElem?_getD, (ag a (Nat.zero_le _) ha).2.2]
    refine ⟨w3, fun i hi => ⟨(g1 i (by omega)).1.trans (ag i (Nat.zero_le _) hi).1, (g1 i (by omega)).2.trans (ag i (Nat.zero_le _) hi).2.1⟩, fun i hi hne => ?_, ?_, ?_, ?_⟩
    · exact (g2 i (by omega) hne).trans ((List.getElem?_set_ne (Ne.symm hne)).trans (ag i (Nat.zero_le _) hi).2.2)
    · simp only [addL]
      rw [g3, List.getD_eq_getElem?_getD, List.getElem?_set_self hka, Option.getD_some, hsk, hl]
      simp [places]
    · refine Lay.mono k _ _ lay (fun i hi hj => ⟨(g1 i (by omega)).1, (g1 i (by omega)).2, ?_⟩)
      exact (g2 i (by omega) (by omega)).trans (List.getElem?_set_ne (by omega))
    · rw [hl] at g4; exact g4
end
end Go.Proofs.Ytfmlpkeaiohknaa.Q
/-! The reference's Nodes, Few and Size answer for every tree; what `true` tells of the tree. -/
set_option linter.unusedVariables false
set_option linter.unusedSimpArgs false
namespace Go.Proofs.Ytfmlpkeaiohknaa.Q
open Go.RowKit Go.Proofs.YtfmlpkeaiohknaaW.PrintWords Go.Proofs.YtfmlpkeaiohknaaW.PrintLast Go.Proofs.YtfmlpkeaiohknaaW.PrintMore
/-- From some fuel on, it answers v. -/
def Ev {α : Type} (g : Nat → Option α) (v : α) : Prop := ∃ n, ∀ k, n ≤ k → g k = some v
theorem Ev.pure {α : Type} (v : α) : Ev (fun _ => some v) v := ⟨0, fun _ _ => rfl⟩
theorem Ev.of {α : Type} {g : Nat → Option α} {v : α} (h : ∀ k, g k = some v) : Ev g v := ⟨0, fun k _ => h k⟩
theorem Ev.up {α : Type} {f : Nat → Option α} (h : ∀ k, LeO (f k) (f (k + 1))) {a : Nat} {r : α} (hr : f a = some r) : Ev f r := ⟨a, fun _ hk => LeO.up h hk hr⟩
theorem Ev.bind {α β : Type} {g : Nat → Option α} {v : α} {f : Nat → α → Option β} {u : β} (h : Ev g v) (hf : Ev (fun k => f k v) u) : Ev (fun k => (g k).bind (f k)) u := by
  obtain ⟨n, hn⟩ := h
  obtain ⟨m, hm⟩ := hf
  exact ⟨max n m, fun k hk => by show (g k).bind (f k) = _; rw [hn k (by omega)]; exact hm k (by omega)⟩
theorem Ev.step {α : Type} {g : Nat → Option α} {v : α} (h : Ev (fun k => g (k + 1)) v) : Ev g v := by
  obtain ⟨n, hn⟩ := h
  refine ⟨n + 1, fun k hk => ?_⟩
  obtain ⟨j, rfl⟩ : ∃ j, k = j + 1 := ⟨k - 1, by omega⟩
  exact hn j (by omega)
theorem Ev.congr {α : Type} {g g' : Nat → Option α} {v : α} (h : Ev g v) (e : ∀ k, g' k = g k) : Ev g' v := by
  obtain ⟨n, hn⟩ := h
  exact ⟨n, fun k hk => (e k).trans (hn k hk)⟩
theorem Ev.has {α : Type} {g : Nat → Option α} {v : α} (h : Ev g v) : ∃ k, g k = some v := by
  obtain ⟨n, hn⟩ := h
  exact ⟨n, hn n (Nat.le_refl _)⟩
theorem w64 {n : Int} (h0 : -9223372036854775808 ≤ n) (h1 : n ≤ 9223372036854775807) : wrap64 n = n := by unfold wrap64; omega
mutual
/-- A node, and all below it. -/
def pre : S24 → List S24
  | ⟨a, b, c, l⟩ => ⟨a, b, c, l⟩ :: preL l
def preL : List S24 → List S24
  | [] => []
  | k :: r => pre k ++ preL r
end
mutual
theorem pre_len : ∀ (x : S24), (pre x).length = nsz x
  | ⟨a, b, c, l⟩ => by simp only [pre, nsz, List.length_cons, preL_len l]; omega
theorem preL_len : ∀ (l : List S24), (preL l).length = nszL l
  | [] => rfl
  | k :: r => by simp only [preL, nszL, List.length_append, pre_len k, preL_len r]
end
theorem pre_pos (x : S24) : 0 < (pre x).length := by cases x; simp [pre]
mutual
theorem addN_N : ∀ (x : S24) (p : Int) (s : PS), (addN x p s).N = s.N ++ pre x
  | ⟨a, b, c, l⟩, p, s => by
    simp only [addN, pre]
    rw [addL_N l]
    simp
theorem addL_N : ∀ (l : List S24) (a : Nat) (s : PS), (addL l a s).N = s.N ++ preL l
  | [], a, s => by simp [addL, preL]
  | k :: r, a, s => by
    simp only [addL, preL]
    rw [addL_N r]
    simp only []
    rw [addN_N k]
    simp
end
theorem ofP_N (x : S24) : (ofP x).N = pre x := by
  unfold ofP
  rw [addN_N]
  rfl
theorem rdT_at {done : List S24} {k : S24} {r : List S24} : rd_T24 (done ++ k :: r) (done.length : Int) = k := by
  unfold rd_T24
  simp
mutual
theorem nodes_ev : ∀ (x : S24) (m : Int), 1 ≤ m → m ≤ 1000000 → Ev (fun k => scarfref05_Nodes.f k x.f0 x.f1 x.f2 x.f3 m) ((pre x).take m.toNat)
  | ⟨a, b, c, l⟩, m, h1, h2 => by
    refine Ev.step ?_
    have h := nodesL_ev l [] [⟨a, b, c, l⟩] m a b c (by simp) (by simp; omega) h2
    simp only [List.nil_append, List.length_nil] at h
    simp only [scarfref05_Nodes.f, pre]
    exact h
theorem nodesL_ev : ∀ (r done : List S24) (x5 : List S24) (m : Int) (a : Int) (b c : ByteArray), done.length < x5.length → (x5.length : Int) ≤ m → m ≤ 1000000 →
    Ev (fun k => scarfref05_Nodes.l0 k m x5 (done.length : Int) a b c (done ++ r)) ((x5 ++ preL r).take m.toNat)
  | [], done, x5, m, a, b, c, h1, h2, h3 => by
    refine Ev.step (Ev.of fun k => ?_)
    rw [scarfref05_Nodes.l0, if_neg (by simp)]
    simp only [preL, List.append_nil]
    rw [List.take_of_length_le (by omega)]
  | y :: r, done, x5, m, a, b, c, h1, h2, h3 => by
    refine Ev.step ?_
    by_cases hm : (x5.length : Int) < m
    · have e1 : wrap64 (m - (x5.length : Int)) = m - (x5.length : Int) := w64 (by omega) (by omega)
      have hy := nodes_ev y (m - (x5.length : Int)) (by omega) (by omega)
      have e2 : ((x5 ++ (pre y).take (m - (x5.length : Int)).toNat) ++ preL r).take m.toNat = (x5 ++ preL (y :: r)).take m.toNat := by
        have ht : (m - (x5.length : Int)).toNat = m.toNat - x5.length := by omega
        rw [ht]
        simp only [preL]
        rw [List.append_assoc, List.take_append, List.take_append (l₁ := x5)]
        congr 1
        rw [List.take_append, List.take_append, List.take_take, Nat.min_self]
        congr 1
        by_cases hl : m.toNat - x5.length ≤ (pre y).length
        · rw [List.length_take, Nat.min_eq_left hl]
          rw [Nat.sub_self, Nat.sub_eq_zero_of_le hl]
        · rw [List.length_take, Nat.min_eq_right (by omega)]
      have hr := nodesL_ev r (done ++ [y]) (x5 ++ (pre y).take (m - (x5.length : Int)).toNat) m a b c (by have := pre_pos y; simp; omega) (by simp; omega) h3
      rw [e2] at hr
      have hr2 : Ev (fun k => if x5.length + ((pre y).take (m - (x5.length : Int)).toNat).length < 2199023255552 then (scarfref05_Nodes.l0 k m (x5 ++ (pre y).take (m - (x5.length : Int)).toNat) (wrap64 ((done.length : Int) + 1)) a b c (done ++ y :: r)) else none) ((x5 ++ preL (y :: r)).take m.toNat) := by
        refine Ev.congr hr (fun k => ?_)
        rw [if_pos (by simp; omega), w64 (by omega) (by omega)]
        simp
      refine Ev.congr (Ev.bind hy (f := fun k t => if x5.length + t.length < 2199023255552 then (scarfref05_Nodes.l0 k m (x5 ++ t) (wrap64 ((done.length : Int) + 1)) a b c (done ++ y :: r)) else none) hr2) (fun k => ?_)
      rw [scarfref05_Nodes.l0, if_pos (by simp; omega), if_pos hm, if_pos (by omega), rdT_at, e1]
    · refine Ev.of fun k => ?_
      rw [scarfref05_Nodes.l0, if_pos (by simp; omega), if_neg hm]
      congr 1
      rw [List.take_append_of_le_length (by omega), List.take_of_length_le (by omega)]
end
theorem mn_le {a b : Int} : mn a b ≤ b := by unfold mn; omega
theorem mn_self {a b : Int} (h : mn a b < b) : mn a b = a := by unfold mn at *; omega
theorem mn_nn {a b : Int} (h0 : 0 ≤ a) (h1 : 0 ≤ b) : 0 ≤ mn a b := by unfold mn; omega
theorem fewL_ev : ∀ (r done : List S24) (tot : Int), 0 ≤ tot → tot ≤ 50000 → done.length + r.length ≤ 1000000 →
    ∃ b, Ev (fun k => scarflaw05_Few.l0 k (done ++ r) tot (done.length : Int)) b ∧ (b = true → ∀ y ∈ r, y.f1.size ≤ 50000 ∧ y.f2.size ≤ 50000)
  | [], done, tot, h0, h1, h2 => by
    refine ⟨decide (((done ++ []).length : Int) ≤ 2000), Ev.step (Ev.of fun k => ?_), fun _ y hy => by cases hy⟩
    rw [scarflaw05_Few.l0, if_neg (by simp)]
  | y :: r, done, tot, h0, h1, h2 => by
    have a1 : mn (y.f1.size : Int) 100000 ≤ 100000 := mn_le
    have a2 : mn (y.f2.size : Int) 100000 ≤ 100000 := mn_le
    have b1 : 0 ≤ mn (y.f1.size : Int) 100000 := mn_nn (by omega) (by omega)
    have b2 : 0 ≤ mn (y.f2.size : Int) 100000 := mn_nn (by omega) (by omega)
    simp only [List.length_cons] at h2
    have e : wrap64 ((wrap64 (tot + mn (y.f1.size : Int) 100000)) + mn (y.f2.size : Int) 100000) = tot + mn (y.f1.size : Int) 100000 + mn (y.f2.size : Int) 100000 := by
      rw [w64 (n := tot + mn (y.f1.size : Int) 100000) (by omega) (by omega), w64 (by omega) (by omega)]
    by_cases hc : tot + mn (y.f1.size : Int) 100000 + mn (y.f2.size : Int) 100000 > 50000
    · refine ⟨false, Ev.step (Ev.of fun k => ?_), fun hb => by cases hb⟩
      rw [scarflaw05_Few.l0, if_pos (by simp; omega), if_pos (by omega), rdT_at, e, if_pos hc]
    · obtain ⟨b, hb, hm⟩ := fewL_ev r (done ++ [y]) (tot + mn (y.f1.size : Int) 100000 + mn (y.f2.size : Int) 100000) (by omega) (by omega) (by simp; omega)
      refine ⟨b, Ev.step (Ev.congr hb fun k => ?_), fun hbt z hz => ?_⟩
      · show scarflaw05_Few.l0 (k + 1) _ _ _ = _
        rw [scarflaw05_Few.l0, if_pos (by simp; omega), if_pos (by omega), rdT_at, e, if_neg hc, w64 (by omega) (by omega)]
        simp
      · rcases List.mem_cons.1 hz with rfl | hz
        · have c1 : mn (z.f1.size : Int) 100000 = z.f1.size := mn_self (by omega)
          have c2 : mn (z.f2.size : Int) 100000 = z.f2.size := mn_self (by omega)
          exact ⟨by omega, by omega⟩
        · exact hm hbt z hz
theorem few_ev (x : S24) (m : Int) (h0 : 1 ≤ m) (h1 : m ≤ 2000) :
    ∃ b, Ev (fun k => scarflaw15_few.f k x.f0 x.f1 x.f2 x.f3 m) b ∧ (b = true → (nsz x : Int) ≤ m ∧ ∀ y ∈ pre x, y.f1.size ≤ 50000 ∧ y.f2.size ≤ 50000) := by
  have hn := nodes_ev x 2001 (by omega) (by omega)
  have hlen : ((pre x).take (Int.toNat 2001)).length ≤ 2001 := by rw [List.length_take]; exact Nat.min_le_left _ _
  obtain ⟨b, hb, hm⟩ := fewL_ev ((pre x).take (Int.toNat 2001)) [] 0 (by omega) (by omega) (by simp; omega)
  simp only [List.nil_append, List.length_nil] at hb
  have hF : Ev (fun k => scarflaw05_Few.f k x.f0 x.f1 x.f2 x.f3) b := Ev.bind hn (f := fun k t => scarflaw05_Few.l0 k t 0 0) hb
  have e1 : wrap64 (m + 1) = m + 1 := w64 (by omega) (by omega)
  have hS : Ev (fun k => scarfref05_Size.f k x.f0 x.f1 x.f2 x.f3 (wrap64 (m + 1))) (((pre x).take (m + 1).toNat).length : Int) := by
    rw [e1]
    exact Ev.bind (nodes_ev x (m + 1) (by omega) (by omega)) (f := fun k t => some (t.length : Int)) (Ev.pure _)
  cases b with
  | false =>
    refine ⟨false, Ev.bind hF (f := fun k t => if t = true then ((scarfref05_Size.f k x.f0 x.f1 x.f2 x.f3 (wrap64 (m + 1))).bind fun t124 => (some (decide (t124 ≤ m)))) else (some false)) (Ev.of fun k => ?_), fun h => by cases h⟩
    rw [if_neg (by simp)]
  | true =>
    refine ⟨decide ((((pre x).take (m + 1).toNat).length : Int) ≤ m), Ev.bind hF (f := fun k t => if t = true then ((scarfref05_Size.f k x.f0 x.f1 x.f2 x.f3 (wrap64 (m + 1))).bind fun t124 => (some (decide (t124 ≤ m)))) else (some false)) (Ev.congr (Ev.bind hS (f := fun k t => some (decide (t ≤ m))) (Ev.pure _)) fun k => ?_), fun h => ?_⟩
    · rw [if_pos rfl]
    · have h2 := of_decide_eq_true h
      rw [List.length_take, pre_len] at h2
      have h3 : (nsz x : Int) ≤ m := by omega
      refine ⟨h3, fun y hy => hm rfl y ?_⟩
      rw [List.take_of_length_le (by rw [pre_len]; omega)]
      exact hy
end Go.Proofs.Ytfmlpkeaiohknaa.Q
/-! An argument that is a tree: read into the printed contracts' form. -/
set_option linter.unusedVariables false
set_option linter.unusedSimpArgs false
namespace Go.Proofs.Ytfmlpkeaiohknaa.Q
open Go.RowKit Go.Proofs.YtfmlpkeaiohknaaW.PrintWords Go.Proofs.YtfmlpkeaiohknaaW.PrintLast Go.Proofs.YtfmlpkeaiohknaaW.PrintMore
def inR (y : S24) : Prop := -9223372036854775808 ≤ y.f0 ∧ y.f0 ≤ 9223372036854775807
theorem list_of {α : Type} {P : Nat → α → Prop} (n : Nat) (h : ∀ i, i < n → ∃ x, P i x) : ∃ l : List α, l.length = n ∧ ∀ i x, l[i]? = some x → P i x := by
  refine ⟨List.ofFn fun i : Fin n => Classical.choose (h i.1 i.2), by simp, fun i x hx => ?_⟩
  rw [List.getElem?_ofFn] at hx
  split at hx
  · rename_i hi
    injection hx with hx
    rw [← hx]
    exact Classical.choose_spec (h i hi)
  · cases hx
theorem mem_preL : ∀ {l : List S24} {y : S24}, y ∈ preL l → ∃ k ∈ l, y ∈ pre k
  | [], y, h => by simp [preL] at h
  | k :: r, y, h => by
    simp only [preL, List.mem_append] at h
    rcases h with h | h
    · exact ⟨k, List.mem_cons_self, h⟩
    · obtain ⟨q, hq, hy⟩ := mem_preL h
      exact ⟨q, List.mem_cons_of_mem _ hq, hy⟩
theorem cells24 : Try.prog.cellsOf 24 = 4 := by kernel_rfl
theorem cells3 : Try.prog.cellsOf 3 = 1 := by kernel_rfl
theorem cells9 : Try.prog.cellsOf 9 = 1 := by kernel_rfl
theorem cells22 : Try.prog.cellsOf 22 = 1 := by kernel_rfl
theorem wf_in {n : Int} (h : (Lit.int .i64 n).wf = true) : -9223372036854775808 ≤ n ∧ n ≤ 9223372036854775807 := by
  have h1 : (decide (IntKind.i64.min ≤ n) && decide (n ≤ IntKind.i64.max)) = true := h
  rw [Bool.and_eq_true, decide_eq_true_eq, decide_eq_true_eq] at h1
  have e1 : IntKind.i64.min = -9223372036854775808 := by decide
  have e2 : IntKind.i64.max = 9223372036854775807 := by decide
  rw [e1, e2] at h1
  exact h1
theorem read24 {H : Type} {enc : TypeId × Value → H} {W : World} {sp : Nat → Bool} {hd : Bool} : ∀ (fuel : Nat) (cs : List Value) (x : DataW H × List MemPlace),
    DataW.trod enc Try.prog W 0 sp hd fuel 24 cs = some x → ∃ s : S24, k24.K W s cs ∧ ∀ y ∈ pre s, inR y := by
  intro fuel
  induction fuel using Nat.strongRecOn with
  | ind fuel ih =>
    intro cs x h
    obtain ⟨xs, n, hfuel, hx, hl, hlen, hf⟩ := DataW.trod_struct Try.underlying24 h
    rw [cells24] at hl
    match cs, hl with
    | [c0, c1, c2, c3], _ =>
      match xs, hlen with
      | [y0, y1, y2, y3], _ =>
        have h0 := hf 0 _ rfl
        have h1 := hf 1 _ rfl
        have h2 := hf 2 _ rfl
        have h3 := hf 3 _ rfl
        simp only [cells3, cells9, cells22, List.drop_succ_cons, List.drop_zero, List.take_succ_cons, List.take_zero, List.getElem?_cons_zero, List.getElem?_cons_succ] at h0 h1 h2 h3
        obtain ⟨a0, e0, _, w0⟩ := DataW.trod_int Try.underlying3 h0
        obtain ⟨a1, e1, _, w1⟩ := DataW.trod_string Try.underlying9 h1
        obtain ⟨a2, e2, _, w2⟩ := DataW.trod_string Try.underlying9 h2
        injection e0 with e0; injection e1 with e1; injection e2 with e2
        subst e0 e1 e2
        have hin := wf_in w0
        rcases DataW.trod_slice Try.underlying22 h3 with ⟨e3, _⟩ | ⟨a, len, cap, elems, rest, m, hm, e3, _, hba, hlc, hcm, hel, hget, _, _⟩
        · injection e3 with e3
          subst e3
          refine ⟨⟨a0, a1, a2, []⟩, k24_mk W ⟨a0, a1, a2, []⟩ (Nat.le_refl 0) ⟨rfl, Nat.zero_le _, fun h => by simp at h⟩, fun y hy => ?_⟩
          simp only [pre, preL, List.mem_singleton] at hy
          subst hy
          exact hin
        · injection e3 with e3
          subst e3
          have hex : ∀ i, i < len → ∃ s : S24, ∃ c, W.cells? 0 (a.add (i * 4)) 4 = some c ∧ k24.K W s c ∧ ∀ y ∈ pre s, inR y := by
            intro i hi
            have hg := hget i hi
            rw [cells24, List.getElem?_eq_getElem (by omega), Option.bind_eq_some_iff] at hg
            obtain ⟨c, hc, ht⟩ := hg
            obtain ⟨s, hs, hp⟩ := ih m (by omega) c _ ht
            exact ⟨s, c, hc, hs, hp⟩
          obtain ⟨l, hll, hl⟩ := list_of len hex
          refine ⟨⟨a0, a1, a2, l⟩, k24_mk W ⟨a0, a1, a2, l⟩ (A3 := some a) (c3 := cap) (by rw [hll]; exact hlc) ⟨rfl, by unfold maxLen at hcm; simp only; omega, fun _ => ⟨a, rfl, fun j p hj => ?_⟩⟩ |> fun h => (by simp only [hll] at h; exact h), fun y hy => ?_⟩
          · obtain ⟨c, hc, hk, _⟩ := hl j p hj
            obtain ⟨_, hcl, hcell⟩ := World.cells?_some hc
            refine ⟨c, hcl, hk, fun i u hu => ?_⟩
            have hi : i < 4 := by have := (List.getElem?_eq_some_iff.1 hu).1; omega
            have hq := hcell i hi
            rw [add_add] at hq
            exact hq.trans hu
          · simp only [pre, List.mem_cons] at hy
            rcases hy with rfl | hy
            · exact hin
            · obtain ⟨q, hq, hy⟩ := mem_preL hy
              obtain ⟨j, hj⟩ := List.getElem?_of_mem hq
              obtain ⟨_, _, _, hp⟩ := hl j q hj
              exact hp y hy
theorem agg4 {v : Value} {c0 c1 c2 c3 : Value} (h : v.cells.toList = [c0, c1, c2, c3]) : v = .agg #[c0, c1, c2, c3] := by
  cases v <;> simp [Value.cells] at h
  rename_i c
  congr 1
  exact Array.toList_inj.1 h
/-- A tree that is handed in: the value's form, the tree, its numbers' range. -/
theorem arg24 {H : Type} {enc : TypeId × Value → H} {W : World} {sp : Nat → Bool} {hd : Bool} {v : Value} {d : DataW H} {ps : List MemPlace} (h : DataW.Trod enc Try.prog W 0 sp hd 24 v d ps) :
    ∃ (x : S24) (A : Option Addr) (c : Nat), v = .agg #[.int .i64 x.f0, .string x.f1, .string x.f2, .slice A x.f3.length c] ∧ x.f3.length ≤ c ∧ k24.C W A x.f3.length x.f3 ∧ ∀ y ∈ pre x, inR y := by
  obtain ⟨fuel, hf⟩ := h
  obtain ⟨x, hk, hp⟩ := read24 fuel _ _ hf
  obtain ⟨A, c, e, hc, hC⟩ := k24_open hk
  exact ⟨x, A, c, agg4 e, hc, hC, hp⟩
end Go.Proofs.Ytfmlpkeaiohknaa.Q
/-! A grove: its knots as they lie; the map that names them. -/
set_option linter.unusedVariables false
set_option linter.unusedSimpArgs false
namespace Go.Proofs.Ytfmlpkeaiohknaa.Q
open Go Go.RowKit Go.Proofs.YtfmlpkeaiohknaaW.PrintWords Go.Proofs.YtfmlpkeaiohknaaW.SL Go.Maps
theorem below_lo {a b : Nat} {w w' : World} (h : Below b w w') (hab : a ≤ b) : Below a w w' := ⟨h.os, h.tape, h.output, h.size, fun k hk => h.block k (Nat.lt_of_lt_of_le hk hab)⟩
/-- A knot, its parent and Kids by their names. -/
structure Kn where
  id : Int
  kind : Int
  text : ByteArray
  trail : ByteArray
  par : Option Int
  kids : List Int
/-- .. and the row of its Kids, as a value. -/
structure Hk where
  k : Kn
  v : Value
def pk (ad : Int → Nat) (i : Int) : Value := .pointer (some ⟨ad i, 0, none⟩)
def pp (ad : Int → Nat) : Option Int → Value
  | none => .pointer none
  | some i => pk ad i
def knB (ad : Int → Nat) (k : Kn) (v : Value) : Array Value := #[.int .i64 k.id, .int .i64 k.kind, .string k.text, .string k.trail, .slice none 0 0, pp ad k.par, v]
def knR (ad : Int → Nat) (k : Kn) (v : Value) : Asr := row v 58 1 k.kids.length (k.kids.map (pk ad))
def hkA (ad : Int → Nat) (h : Hk) : List Asr := [blk (ad h.k.id) 80 (knB ad h.k h.v), knR ad h.k h.v]
def gvA (ad : Int → Nat) (g : List Hk) : List Asr := g.flatMap (hkA ad)
section
variable {ad : Int → Nat}
theorem gvA_len : ∀ g : List Hk, (gvA ad g).length = 2 * g.length
  | [] => rfl
  | h :: r => by
    have ih := gvA_len r
    simp only [gvA, List.flatMap_cons, List.length_append, List.length_cons] at ih ⊢
    rw [ih]; simp [hkA]; omega
theorem gvA_blk : ∀ {g : List Hk} {j : Nat} {h : Hk}, g[j]? = some h → (gvA ad g)[2 * j]? = some (blk (ad h.k.id) 80 (knB ad h.k h.v))
  | [], j, h, hj => by simp at hj
  | a :: r, 0, h, hj => by
    have : a = h := by simpa using hj
    subst this; rfl
  | a :: r, j + 1, h, hj => by
    have ih := gvA_blk (g := r) (j := j) (h := h) (by simpa using hj)
    rw [show 2 * (j + 1) = 2 * j + 1 + 1 by omega]
    exact ih
theorem gvA_row : ∀ {g : List Hk} {j : Nat} {h : Hk}, g[j]? = some h → (gvA ad g)[2 * j + 1]? = some (knR ad h.k h.v)
  | [], j, h, hj => by simp at hj
  | a :: r, 0, h, hj => by
    have : a = h := by simpa using hj
    subst this; rfl
  | a :: r, j + 1, h, hj => by
    have ih := gvA_row (g := r) (j := j) (h := h) (by simpa using hj)
    rw [show 2 * (j + 1) + 1 = 2 * j + 1 + 1 + 1 by omega]
    exact ih
theorem gvA_set : ∀ (g : List Hk) (j : Nat) (h : Hk), j < g.length → gvA ad (g.set j h) = ((gvA ad g).set (2 * j) (blk (ad h.k.id) 80 (knB ad h.k h.v))).set (2 * j + 1) (knR ad h.k h.v)
  | [], j, h, hj => by simp at hj
  | a :: r, 0, h, hj => rfl
  | a :: r, j + 1, h, hj => by
    have ih := gvA_set r j h (by simpa using hj)
    rw [show 2 * (j + 1) = 2 * j + 1 + 1 by omega]
    show hkA ad a ++ gvA ad (r.set j h) = _
    rw [ih]; rfl
theorem gvA_app (g g' : List Hk) : gvA ad (g ++ g') = gvA ad g ++ gvA ad g' := by simp [gvA]
/-- Other names than a new one's are where they were. -/
theorem gvA_ad {ad' : Int → Nat} {g : List Hk} (h : ∀ x ∈ g, ad' x.k.id = ad x.k.id ∧ (∀ p, x.k.par = some p → ad' p = ad p) ∧ ∀ i ∈ x.k.kids, ad' i = ad i) : gvA ad' g = gvA ad g := by
  induction g with
  | nil => rfl
  | cons x r ih =>
    obtain ⟨h1, h2, h3⟩ := h x List.mem_cons_self
    have ih2 := ih (fun y hy => h y (List.mem_cons_of_mem _ hy))
    have e1 : hkA ad' x = hkA ad x := by
      unfold hkA knB knR
      have e2 : pp ad' x.k.par = pp ad x.k.par := by
        cases hp : x.k.par with
        | none => rfl
        | some p => show pk ad' p = pk ad p; unfold pk; rw [h2 p hp]
      have e3 : x.k.kids.map (pk ad') = x.k.kids.map (pk ad) := List.map_congr_left (fun i hi => by unfold pk; rw [h3 i hi])
      rw [h1, e2, e3]
    show hkA ad' x ++ gvA ad' r = hkA ad x ++ gvA ad r
    rw [e1, ih2]
end
/-- How a pointer to a knot reads in the map. -/
def kpE : Value → Option (DataW Unit × List MemPlace)
  | .pointer none => some (.nil, [])
  | .pointer (some ⟨a, 0, none⟩) => some (.lit (.int .i64 (a : Int)), [])
  | _ => none
theorem kpE_nil {v : Value} {ps : List MemPlace} (h : kpE v = some (.nil, ps)) : v = .pointer none := by
  unfold kpE at h
  split at h
  · rfl
  · simp at h
  · cases h
theorem kpE_at {v : Value} {ps : List MemPlace} {a : Nat} (h : kpE v = some (.lit (.int .i64 (a : Int)), ps)) : v = .pointer (some ⟨a, 0, none⟩) := by
  unfold kpE at h
  split at h
  · simp at h
  · simp at h; obtain ⟨h, _⟩ := h; have h2 := Int.ofNat.inj h; subst h2; rfl
  · cases h
theorem keyed3 : Keyed Try.prog 3 := int_keyed Try.underlying3
abbrev LI (i : Int) : Lit := .int .i64 i
def in64 (i : Int) : Prop := -9223372036854775808 ≤ i ∧ i ≤ 9223372036854775807
theorem wfI {i : Int} (h : in64 i) : (Lit.int .i64 i).wf = true := by
  unfold in64 at h
  simp [Lit.wf, IntKind.min, IntKind.max, IntKind.signed, IntKind.bits]
  omega
theorem keyI {i : Int} (h : in64 i) : keyOf Try.prog 3 (.int .i64 i) = some (LI i) := keyOf_int_mk Try.underlying3 (wfI h)
theorem isKeyI (i : Int) : WideAt.IsKeyLit (LI i) := trivial
/-- The map says of each name where its knot lies. -/
structure Named (D : DataW Unit) (ad : Int → Nat) (ids : List Int) : Prop where
  tidy : Tidy D
  has : ∀ i, Maps.has D (LI i) = decide (i ∈ ids)
  at_ : ∀ i, i ∈ ids → D.atKey (LI i) .nil = .lit (.int .i64 (ad i : Int))
theorem Named.nil (ad : Int → Nat) : Named (.map []) ad [] := ⟨tidy_empty, fun i => by simp [Maps.has], fun i h => by simp at h⟩
theorem Named.none_ {D : DataW Unit} {ad : Int → Nat} {ids : List Int} (h : Named D ad ids) {i : Int} (hi : i ∉ ids) : D.atKey (LI i) .nil = .nil :=
  atKey_of_not_has (by rw [h.has]; simp [hi]) _
theorem Named.put {D : DataW Unit} {ad : Int → Nat} {ids : List Int} (h : Named D ad ids) {x : Int} {a : Nat} (hx : x ∉ ids) : Named (D.put (LI x) (.lit (.int .i64 (a : Int)))) (fun i => if i = x then a else ad i) (ids ++ [x]) := by
  refine ⟨h.tidy.put (isKeyI x) _, fun i => ?_, fun i hi => ?_⟩
  · by_cases hix : i = x
    · subst hix; rw [has_put_same h.tidy.isMap (isKeyI i)]; simp
    · rw [has_put_other (fun e => hix (by injection e)), h.has]; simp [hix]
  · by_cases hix : i = x
    · subst hix; rw [atKey_put_same h.tidy.isMap (isKeyI i)]; simp
    · have hi2 : i ∈ ids := by simpa [hix] using hi
      rw [atKey_put_other (fun e => hix (by injection e)), h.at_ i hi2]; simp [hix]
theorem Named.del {D : DataW Unit} {ad : Int → Nat} {ids : List Int} (h : Named D ad ids) (x : Int) : Named (D.del (LI x)) ad (ids.filter (· ≠ x)) := by
  refine ⟨h.tidy.del _, fun i => ?_, fun i hi => ?_⟩
  · by_cases hix : i = x
    · subst hix; rw [has_del_same]; simp
    · rw [has_del_other (fun e => hix (by injection e)), h.has]; simp [hix]
  · have hi2 := List.mem_filter.1 hi
    have hix : i ≠ x := by simpa using hi2.2
    rw [atKey_del_other (fun e => hix (by injection e)), h.at_ i hi2.1]
/-- Block b is the map of a grove, of at most m entries. -/
def mpK (b m : Nat) (ad : Int → Nat) (ids : List Int) : Asr :=
  ⟨fun w f => (∀ j, f j ↔ j = b) ∧ ∃ D, w.ownsMap Try.prog 3 kpE b m D ∧ Named D ad ids,
   fun h hs => ⟨h.1, by obtain ⟨D, ⟨es, clock, hb, r⟩, q⟩ := h.2; exact ⟨D, ⟨es, clock, (hs _ ((h.1 _).2 rfl)).trans hb, r⟩, q⟩⟩,
   fun h j hj => by rw [(h.1 j).1 hj]; obtain ⟨D, hm, _⟩ := h.2; exact hm.lt⟩
section
variable {w0 w w' : World} {Z : Nat → Prop} {L : List Asr} {F : List FA} {i b m : Nat} {ad : Int → Nat} {ids : List Int}
theorem Stt.at_map (S : Stt w0 Z L F w) (hi : L[i]? = some (mpK b m ad ids)) : ∃ D, w.ownsMap Try.prog 3 kpE b m D ∧ Named D ad ids := by
  obtain ⟨f, hf, _⟩ := S.st.hs
  obtain ⟨fa, ha, _⟩ := hf.at hi
  exact ha.2
theorem ptr0 (w : World) : (zeroValue 58).run Try.prog w = .ok (.pointer none) w := by
  simp
/-- m[k], and whether it is there. -/
theorem map_ok (S : Stt w0 Z L F w) (i : Nat) (hi : L[i]? = some (mpK b m ad ids)) {x : Int} (hx : in64 x) :
    (Instr.lookup 59 (.map (some b)) (.int .i64 x) true).run Try.prog w = .ok (.tuple #[if x ∈ ids then pk ad x else .pointer none, .bool (decide (x ∈ ids))]) w := by
  obtain ⟨D, hm, hN⟩ := Stt.at_map S hi
  obtain ⟨v, ps, hr, hv⟩ := hm.look_ok keyed3 Try.underlying59 (ptr0 w) (zd := .nil) (zp := []) rfl (keyI hx)
  rw [hr, hN.has x]
  by_cases h : x ∈ ids
  · rw [hN.at_ x h] at hv
    rw [kpE_at hv, if_pos h]; rfl
  · rw [hN.none_ h] at hv
    rw [kpE_nil hv, if_neg h]
/-- m[k] -/
theorem map_at (S : Stt w0 Z L F w) (i : Nat) (hi : L[i]? = some (mpK b m ad ids)) {x : Int} (hx : in64 x) :
    (Instr.lookup 59 (.map (some b)) (.int .i64 x) false).run Try.prog w = .ok (if x ∈ ids then pk ad x else .pointer none) w := by
  obtain ⟨D, hm, hN⟩ := Stt.at_map S hi
  obtain ⟨v, ps, hr, hv⟩ := hm.lookup keyed3 Try.underlying59 (ptr0 w) (zd := .nil) (zp := []) rfl (keyI hx)
  rw [hr]
  by_cases h : x ∈ ids
  · rw [hN.at_ x h] at hv
    rw [kpE_at hv, if_pos h]; rfl
  · rw [hN.none_ h] at hv
    rw [kpE_nil hv, if_neg h]
/-- m[k] = p, a new name. -/
theorem map_put (S : Stt w0 Z L F w) (i : Nat) (hi : L[i]? = some (mpK b m ad ids)) {x : Int} (hx : in64 x) (hn : x ∉ ids) (hm2 : m < maxLen) (a : Nat) :
    ∃ w', (Instr.mapUpdate 59 (.map (some b)) (.int .i64 x) (.pointer (some ⟨a, 0, none⟩))).run Try.prog w = .ok () w' ∧ Stt w0 Z (L.set i (mpK b (m + 1) (fun j => if j = x then a else ad j) (ids ++ [x]))) F w' ∧ w.mapTurned w' b := by
  obtain ⟨D, hm, hN⟩ := Stt.at_map S hi
  obtain ⟨w', hr, ho, ht⟩ := hm.store keyed3 Try.underlying59 hm2 (keyI hx) (val := .pointer (some ⟨a, 0, none⟩)) rfl
  refine ⟨w', hr, S.of (S.st.upd hi (fun f hf => ⟨f, ⟨hf.1, _, ho, hN.put hn⟩, fun j hj => .inl hj, (Chg.of_grown ht.grown).mono (fun j hj => (hf.1 j).2 (by injection hj with hj; exact hj.symm))⟩)), ht⟩
/-- delete(m, k) -/
theorem map_del (S : Stt w0 Z L F w) (i : Nat) (hi : L[i]? = some (mpK b m ad ids)) {x : Int} (hx : in64 x) (ty : TypeId) :
    ∃ w', (Builtin.delete_ #[59, 3] ty #[.map (some b), .int .i64 x]).run Try.prog w = .ok (.tuple #[]) w' ∧ Stt w0 Z (L.set i (mpK b m ad (ids.filter (· ≠ x)))) F w' ∧ w.mapTurned w' b := by
  obtain ⟨D, hm, hN⟩ := Stt.at_map S hi
  obtain ⟨w', hr, ho, ht⟩ := hm.drop keyed3 Try.underlying59 (keyI hx) ty
  refine ⟨w', hr, S.of (S.st.upd hi (fun f hf => ⟨f, ⟨hf.1, _, ho, hN.del x⟩, fun j hj => .inl hj, (Chg.of_grown ht.grown).mono (fun j hj => (hf.1 j).2 (by injection hj with hj; exact hj.symm))⟩)), ht⟩
theorem map_new (S : Stt w0 Z L F w) (ad : Int → Nat) : Stt w0 Z (mpK w.heap.size 0 ad [] :: L) F (w.alloc (.map #[] 0)) :=
  S.more (a := mpK w.heap.size 0 ad []) (f := fun j => j = w.heap.size) (below_alloc (Below.refl _ _) _) ⟨fun _ => Iff.rfl, _, World.ownsMap_made w Try.prog 3 kpE, Named.nil ad⟩ (fun j hj => Nat.le_of_eq hj.symm)
end
end Go.Proofs.Ytfmlpkeaiohknaa.Q
/-
  DERIVED: THE SHELF's CONTRACTS AT THIS DUMP, IN PLAIN WORDS (tools/lay-plain.mjs out of 'YtfmlpkeaiohknaaXShelf.lean', which tools/lay-shelf.mjs wrote): THE SAME DECLARATIONS UNDER THE SAME NAMES: 'import', 'namespace', 'open', 'def', 'theorem' AND NOTHING ELSE: no command of the shelf's: FOR A HAND-IN. Each laying: the table of numbers ('.._ren') and one theorem, a field a fact of the dump's own or the kernel's comparison; each contract: ONE APPLICATION.
-/
namespace Go.Proofs
open Go.Shelf
def Try.lay6_ren : Go.Shelf.Ren := ⟨fun | 6 => 42 | n => n, fun | 22 => 78 | 23 => 58 | 25 => 83 | 3 => 3 | 0 => 0 | 4 => 4 | n => n, fun | n => n⟩
theorem Try.lay6 : Go.Proofs.SlLaysH.n6 Try.prog Try.lay6_ren := {
  mixed := by kernel_rfl
  f6 := ⟨Try.f42.name, by decide, Try.func42.trans (congrArg some (by kernel_rfl))⟩
  t0 := Try.underlying0
  a0 := Try.isAgg0
  z0 := Try.sizeOf0
  v0 := Try.zeroValue0
  t3 := Try.underlying3
  a3 := Try.isAgg3
  z3 := Try.sizeOf3
  v3 := Try.zeroValue3
  t4 := Try.underlying4
  a4 := Try.isAgg4
  z4 := Try.sizeOf4
  v4 := Try.zeroValue4
  t22 := Try.underlying78
  a22 := Try.isAgg78
  z22 := Try.sizeOf78
  v22 := Try.zeroValue78
  a23 := Try.isAgg58
  z23 := Try.sizeOf58
  t25 := Try.underlying83
  a25 := Try.isAgg83
  z25 := Try.sizeOf83
  v25 := Try.zeroValue83 }
def Try.lay10_ren : Go.Shelf.Ren := ⟨fun | 10 => 45 | 6 => 42 | n => n, fun | 22 => 78 | 23 => 58 | 25 => 83 | 3 => 3 | 4 => 4 | 0 => 0 | n => n, fun | n => n⟩
theorem Try.lay10 : Go.Proofs.SlLaysH.n10 Try.prog Try.lay10_ren := {
  mixed := by kernel_rfl
  f6 := ⟨Try.f42.name, by decide, Try.func42.trans (congrArg some (by kernel_rfl))⟩
  f10 := ⟨Try.f45.name, by decide, Try.func45.trans (congrArg some (by kernel_rfl))⟩
  t0 := Try.underlying0
  a0 := Try.isAgg0
  z0 := Try.sizeOf0
  v0 := Try.zeroValue0
  t3 := Try.underlying3
  a3 := Try.isAgg3
  z3 := Try.sizeOf3
  v3 := Try.zeroValue3
  t4 := Try.underlying4
  a4 := Try.isAgg4
  z4 := Try.sizeOf4
  v4 := Try.zeroValue4
  t22 := Try.underlying78
  a22 := Try.isAgg78
  z22 := Try.sizeOf78
  v22 := Try.zeroValue78
  a23 := Try.isAgg58
  z23 := Try.sizeOf58
  t25 := Try.underlying83
  a25 := Try.isAgg83
  z25 := Try.sizeOf83
  v25 := Try.zeroValue83 }
end Go.Proofs
-- Written by a program of this session (wip/gen_g1.py) for this claim; Lean checks it.
/-! The closures that place and out hand to the library; slices.IndexFunc and slices.DeleteFunc at knots. -/
set_option linter.unusedVariables false
set_option linter.unusedSimpArgs false
namespace Go.Proofs.Ytfmlpkeaiohknaa.Q
open Go Go.RowKit Go.Lib Go.Sort Go.Proofs.YtfmlpkeaiohknaaW.PrintWords Go.Proofs.YtfmlpkeaiohknaaW.PrintLast Go.Proofs.YtfmlpkeaiohknaaW.PrintMore Go.Proofs.YtfmlpkeaiohknaaW.SL
attribute [local go_sem] max2_int min2_int max_two min_two max_three min_three max_four min_four
def gc43.T1 : Bool × List (List Nat × List Nat) := (true, [([], []), ([0], [0]), ([1], [1]), ([2], [2]), ([], []), ([3, 4], [3, 4]), ([5, 0, 1, 2, 3, 4, 5], [5])])
def gc43.B1 : List Nat := [0, 1, 3, 7, 0, 31, 63]
theorem gc43.tab1 : rtab .any (opsOf Try.f43 1) = gc43.T1 := by kernel_rfl
theorem gc43.bits1 : waitsOk gc43.T1.2 gc43.B1 = true := by kernel_rfl
/-- The place of a name in a list; -1: it isn't there. -/
def placeF (i : Int) : List Int → Nat → Int
  | [], _ => -1
  | x :: r, n => if x = i then (n : Int) else placeF i r (n + 1)
def placeOf (l : List Int) (i : Int) : Int := placeF i l 0
theorem placeF_bound (i : Int) : ∀ (l : List Int) (n : Nat), -1 ≤ placeF i l n ∧ placeF i l n < ((n + l.length : Nat) : Int)
  | [], n => by simp [placeF]; omega
  | x :: r, n => by
    have ih := placeF_bound i r (n + 1)
    unfold placeF
    split
    · simp only [List.length_cons]; omega
    · simp only [List.length_cons]; omega
theorem placeF_nn (i : Int) : ∀ (l : List Int) (n : Nat), 0 ≤ placeF i l n ↔ i ∈ l
  | [], n => by simp [placeF]
  | x :: r, n => by
    have ih := placeF_nn i r (n + 1)
    unfold placeF
    split
    · rename_i h; subst h; simp
    · rename_i h; rw [ih]; simp [Ne.symm h]
theorem placeOf_bound (l : List Int) (i : Int) : -1 ≤ placeOf l i ∧ placeOf l i < (l.length : Int) := by have := placeF_bound i l 0; unfold placeOf; omega
theorem placeOf_nn (l : List Int) (i : Int) : 0 ≤ placeOf l i ↔ i ∈ l := placeF_nn i l 0
set_option maxHeartbeats 4000000 in
set_option maxRecDepth 100000 in
theorem gives43 (x i : Int) (ax bx : Nat) (W : World) (hx0 : W.cell? ⟨ax, 0, none⟩ = some (.int .i64 x)) (hx1 : W.cell? ⟨bx, 0, none⟩ = some (.int .i64 i)) :
    FnGives Try.prog 43 #[.pointer (some ⟨bx, 0, none⟩)] #[.pointer (some ⟨ax, 0, none⟩)] (.bool (decide (x = i))) W := by
  show Calls Try.prog 43 #[.pointer (some ⟨ax, 0, none⟩), .pointer (some ⟨bx, 0, none⟩)] W _
  have HX := Aside0.mk (⟨hx0, hx1⟩ : _ ∧ _)
  by_cases hxi : x = i
  · have hb0 : (x == i) = true := by rw [beq_iff_eq]; exact hxi
    rw [decide_eq_true hxi]
    replace hxi := Aside0.mk hxi
    go_enter Try.func43, Try.ntmps43
    go_upto_region 1 with (fail)
    replace hx0 : W.drew.cell? ⟨ax, 0, none⟩ = some (.int .i64 x) := hx0
    replace hx1 : W.drew.cell? ⟨bx, 0, none⟩ = some (.int .i64 i) := hx1
    try go_wp2
    have E := trivial
    refine start_ (n := 7) (S := fun w' => True) (ds := []) #[false, false, false, false, false, false, false] (by kernel_rfl) rfl rfl trivial (fun hHeld => ?_)
    refine with_tabW gc43.tab1 gc43.bits1 (fun HT_ HW_ => ?_)
    have E := trivial
    generalize hwd : W.drew = wd at hx0 hx1 hHeld ⊢
    refine pure_ (i := 0) (N := some 4) (v := ?_) (a' := ?_) #[true, false, false, false, false, false, false] rfl rfl (any_of HT_.out (by kernel_rfl)) (fun _ _ _ h => h) (Or.inl ⟨by rfl, ?_⟩) ?_ ?_
    rotate_left
    · intro w'
      go_simp
      with_reducible rfl
    rotate_left
    · simp only [Act.put, List.setIfInBounds_toArray, List.set_cons_zero, List.set_cons_succ, i64_w, i32_w]
      rfl
    refine pure_ (i := 1) (N := some 5) (v := ?_) (a' := ?_) #[true, true, false, false, false, false, false] rfl rfl (any_of HT_.out (by kernel_rfl)) (fun _ _ _ h => h) (Or.inl ⟨by rfl, ?_⟩) ?_ ?_
    rotate_left
    · intro w'
      go_simp
      with_reducible rfl
    rotate_left
    · simp only [Act.put, List.setIfInBounds_toArray, List.set_cons_zero, List.set_cons_succ, i64_w, i32_w]
      rfl
    refine pure_ (i := 2) (N := some 6) (v := ?_) (a' := ?_) #[true, true, true, false, false, false, false] rfl rfl (any_of HT_.out (by kernel_rfl)) (fun _ _ _ h => h) (Or.inl ⟨by rfl, ?_⟩) ?_ ?_
    rotate_left
    · intro w'
      go_simp
      with_reducible rfl
    rotate_left
    · simp only [Act.put, List.setIfInBounds_toArray, List.set_cons_zero, List.set_cons_succ, i64_w, i32_w]
      rfl
    refine inv_at [3, 4, 5, 6] (fun a0_ b a w' => a = putSel a0_ b [(3, 7, .int .i64 x), (4, 8, .int .i64 i), (5, 9, .bool true), (6, 3, .bool true)] ∧ (w' = wd)) HT_.out HW_.out (by kernel_rfl) (by kernel_rfl) ?_ ?_ ?_
    · exact ⟨by simp only [putSel, Bool.false_eq_true, if_false], rfl⟩
    · skip
      clear E
      refine steps_cons ?_ ?_
      · rintro b a w' ⟨ha, Q_E⟩ hb_ hon hoff
        refine ⟨_, rfl, fun K hK => ?_⟩
        have e6 : a.tmps[6]? = some (.pointer (some ⟨ax, 0, none⟩)) := by rw [ha]; exact (putSel_off rfl).trans rfl
        replace ha := Aside0.mk ha
        have E := Aside0.mk Q_E
        have hw_ := E.out
        have hc_ := hx0
        rw [← hw_] at hc_
        refine value_ (w1 := w') (v := .int .i64 x) (by rfl) rfl ?_ ?_
        · go_simp
          (try simp only [i64_w])
          try rfl
        refine hK.out _ _ ⟨(by rw [ha.out]; exact putSel_upk 0 hb_ rfl rfl rfl), Q_E⟩
      refine steps_cons ?_ ?_
      · rintro b a w' ⟨ha, Q_E⟩ hb_ hon hoff
        refine ⟨_, rfl, fun K hK => ?_⟩
        have e1 : a.tmps[1]? = some (.pointer (some ⟨bx, 0, none⟩)) := by rw [ha]; exact (putSel_off rfl).trans rfl
        replace ha := Aside0.mk ha
        have E := Aside0.mk Q_E
        have hw_ := E.out
        have hc_ := hx1
        rw [← hw_] at hc_
        refine value_ (w1 := w') (v := .int .i64 i) (by rfl) rfl ?_ ?_
        · go_simp
          (try simp only [i64_w])
          try rfl
        refine hK.out _ _ ⟨(by rw [ha.out]; exact putSel_upk 1 hb_ rfl rfl rfl), Q_E⟩
      refine steps_cons ?_ ?_
      · rintro b a w' ⟨ha, Q_E⟩ hb_ hon hoff
        refine ⟨_, rfl, fun K hK => ?_⟩
        have e7 : a.tmps[7]? = some (.int .i64 x) := by rw [ha]; exact putSel_on (e := (3, 7, .int .i64 x)) 0 rfl rfl (hon 3 (by kernel_rfl)) rfl
        have e8 : a.tmps[8]? = some (.int .i64 i) := by rw [ha]; exact putSel_on (e := (4, 8, .int .i64 i)) 1 rfl rfl (hon 4 (by kernel_rfl)) rfl
        replace ha := Aside0.mk ha
        have E := Aside0.mk Q_E
        refine value_ (w1 := w') (v := .bool true) (by rfl) rfl ?_ ?_
        · go_simp
          (try simp only [i64_w])
          try rfl
        refine hK.out _ _ ⟨(by rw [ha.out]; exact putSel_upk 2 hb_ rfl rfl rfl), Q_E⟩
      refine steps_cons ?_ ?_
      · rintro b a w' ⟨ha, Q_E⟩ hb_ hon hoff
        refine ⟨_, rfl, fun K hK => ?_⟩
        have e9 : a.tmps[9]? = some (.bool true) := by rw [ha]; exact putSel_on (e := (5, 9, .bool true)) 2 rfl rfl (hon 5 (by kernel_rfl)) rfl
        replace ha := Aside0.mk ha
        have E := Aside0.mk Q_E
        refine value_ (w1 := w') (v := .bool true) (by rfl) rfl ?_ ?_
        · go_simp
          (try simp only [i64_w])
          try rfl
        refine hK.out _ _ ⟨(by rw [ha.out]; exact putSel_upk 3 hb_ rfl rfl rfl), Q_E⟩
      exact steps_nil
    · rintro b a w' hall ⟨ha, Q_E⟩
      clear E
      have hb3_ := hall 3 (by kernel_rfl)
      have hb4_ := hall 4 (by kernel_rfl)
      have hb5_ := hall 5 (by kernel_rfl)
      have hb6_ := hall 6 (by kernel_rfl)
      subst ha
      simp only [putSel, hb3_, hb4_, hb5_, hb6_, if_true, Act.put, List.setIfInBounds_toArray, List.set_cons_zero, List.set_cons_succ]
      have E := Aside0.mk Q_E
      clear Q_E
      clear hall hb3_ hb4_ hb5_ hb6_
      have hw_ := E.out
      subst hw_
      go_wp2
      go_ret
      exact ⟨rfl, 1, by first | rfl | (rw [← hwd]; rfl)⟩
  · have hb0 : (x == i) = false := by rw [beq_eq_false_iff_ne]; exact hxi
    rw [decide_eq_false hxi]
    replace hxi := Aside0.mk hxi
    go_enter Try.func43, Try.ntmps43
    go_upto_region 1 with (fail)
    replace hx0 : W.drew.cell? ⟨ax, 0, none⟩ = some (.int .i64 x) := hx0
    replace hx1 : W.drew.cell? ⟨bx, 0, none⟩ = some (.int .i64 i) := hx1
    try go_wp2
    have E := trivial
    refine start_ (n := 7) (S := fun w' => True) (ds := []) #[false, false, false, false, false, false, false] (by kernel_rfl) rfl rfl trivial (fun hHeld => ?_)
    refine with_tabW gc43.tab1 gc43.bits1 (fun HT_ HW_ => ?_)
    have E := trivial
    generalize hwd : W.drew = wd at hx0 hx1 hHeld ⊢
    refine pure_ (i := 0) (N := some 4) (v := ?_) (a' := ?_) #[true, false, false, false, false, false, false] rfl rfl (any_of HT_.out (by kernel_rfl)) (fun _ _ _ h => h) (Or.inl ⟨by rfl, ?_⟩) ?_ ?_
    rotate_left
    · intro w'
      go_simp
      with_reducible rfl
    rotate_left
    · simp only [Act.put, List.setIfInBounds_toArray, List.set_cons_zero, List.set_cons_succ, i64_w, i32_w]
      rfl
    refine pure_ (i := 1) (N := some 5) (v := ?_) (a' := ?_) #[true, true, false, false, false, false, false] rfl rfl (any_of HT_.out (by kernel_rfl)) (fun _ _ _ h => h) (Or.inl ⟨by rfl, ?_⟩) ?_ ?_
    rotate_left
    · intro w'
      go_simp
      with_reducible rfl
    rotate_left
    · simp only [Act.put, List.setIfInBounds_toArray, List.set_cons_zero, List.set_cons_succ, i64_w, i32_w]
      rfl
    refine pure_ (i := 2) (N := some 6) (v := ?_) (a' := ?_) #[true, true, true, false, false, false, false] rfl rfl (any_of HT_.out (by kernel_rfl)) (fun _ _ _ h => h) (Or.inl ⟨by rfl, ?_⟩) ?_ ?_
    rotate_left
    · intro w'
      go_simp
      with_reducible rfl
    rotate_left
    · simp only [Act.put, List.setIfInBounds_toArray, List.set_cons_zero, List.set_cons_succ, i64_w, i32_w]
      rfl
    refine inv_at [3, 4, 5, 6] (fun a0_ b a w' => a = putSel a0_ b [(3, 7, .int .i64 x), (4, 8, .int .i64 i), (5, 9, .bool false), (6, 3, .bool false)] ∧ (w' = wd)) HT_.out HW_.out (by kernel_rfl) (by kernel_rfl) ?_ ?_ ?_
    · exact ⟨by simp only [putSel, Bool.false_eq_true, if_false], rfl⟩
    · skip
      clear E
      refine steps_cons ?_ ?_
      · rintro b a w' ⟨ha, Q_E⟩ hb_ hon hoff
        refine ⟨_, rfl, fun K hK => ?_⟩
        have e6 : a.tmps[6]? = some (.pointer (some ⟨ax, 0, none⟩)) := by rw [ha]; exact (putSel_off rfl).trans rfl
        replace ha := Aside0.mk ha
        have E := Aside0.mk Q_E
        have hw_ := E.out
        have hc_ := hx0
        rw [← hw_] at hc_
        refine value_ (w1 := w') (v := .int .i64 x) (by rfl) rfl ?_ ?_
        · go_simp
          (try simp only [i64_w])
          try rfl
        refine hK.out _ _ ⟨(by rw [ha.out]; exact putSel_upk 0 hb_ rfl rfl rfl), Q_E⟩
      refine steps_cons ?_ ?_
      · rintro b a w' ⟨ha, Q_E⟩ hb_ hon hoff
        refine ⟨_, rfl, fun K hK => ?_⟩
        have e1 : a.tmps[1]? = some (.pointer (some ⟨bx, 0, none⟩)) := by rw [ha]; exact (putSel_off rfl).trans rfl
        replace ha := Aside0.mk ha
        have E := Aside0.mk Q_E
        have hw_ := E.out
        have hc_ := hx1
        rw [← hw_] at hc_
        refine value_ (w1 := w') (v := .int .i64 i) (by rfl) rfl ?_ ?_
        · go_simp
          (try simp only [i64_w])
          try rfl
        refine hK.out _ _ ⟨(by rw [ha.out]; exact putSel_upk 1 hb_ rfl rfl rfl), Q_E⟩
      refine steps_cons ?_ ?_
      · rintro b a w' ⟨ha, Q_E⟩ hb_ hon hoff
        refine ⟨_, rfl, fun K hK => ?_⟩
        have e7 : a.tmps[7]? = some (.int .i64 x) := by rw [ha]; exact putSel_on (e := (3, 7, .int .i64 x)) 0 rfl rfl (hon 3 (by kernel_rfl)) rfl
        have e8 : a.tmps[8]? = some (.int .i64 i) := by rw [ha]; exact putSel_on (e := (4, 8, .int .i64 i)) 1 rfl rfl (hon 4 (by kernel_rfl)) rfl
        replace ha := Aside0.mk ha
        have E := Aside0.mk Q_E
        refine value_ (w1 := w') (v := .bool false) (by rfl) rfl ?_ ?_
        · go_simp
          (try simp only [i64_w])
          try rfl
        refine hK.out _ _ ⟨(by rw [ha.out]; exact putSel_upk 2 hb_ rfl rfl rfl), Q_E⟩
      refine steps_cons ?_ ?_
      · rintro b a w' ⟨ha, Q_E⟩ hb_ hon hoff
        refine ⟨_, rfl, fun K hK => ?_⟩
        have e9 : a.tmps[9]? = some (.bool false) := by rw [ha]; exact putSel_on (e := (5, 9, .bool false)) 2 rfl rfl (hon 5 (by kernel_rfl)) rfl
        replace ha := Aside0.mk ha
        have E := Aside0.mk Q_E
        refine value_ (w1 := w') (v := .bool false) (by rfl) rfl ?_ ?_
        · go_simp
          (try simp only [i64_w])
          try rfl
        refine hK.out _ _ ⟨(by rw [ha.out]; exact putSel_upk 3 hb_ rfl rfl rfl), Q_E⟩
      exact steps_nil
    · rintro b a w' hall ⟨ha, Q_E⟩
      clear E
      have hb3_ := hall 3 (by kernel_rfl)
      have hb4_ := hall 4 (by kernel_rfl)
      have hb5_ := hall 5 (by kernel_rfl)
      have hb6_ := hall 6 (by kernel_rfl)
      subst ha
      simp only [putSel, hb3_, hb4_, hb5_, hb6_, if_true, Act.put, List.setIfInBounds_toArray, List.set_cons_zero, List.set_cons_succ]
      have E := Aside0.mk Q_E
      clear Q_E
      clear hall hb3_ hb4_ hb5_ hb6_
      have hw_ := E.out
      subst hw_
      go_wp2
      go_ret
      exact ⟨rfl, 1, by first | rfl | (rw [← hwd]; rfl)⟩
theorem idx_place {α : Type} (f : α → Int) (i : Int) (d : α) : ∀ (l : List α) (n : Nat), Lib.idxByFrom (fun _ y => decide (f y = i)) d l n = placeF i (l.map f) n
  | [], n => rfl
  | x :: r, n => by
    have ih := idx_place f i d r (n + 1)
    unfold Lib.idxByFrom
    rw [List.map_cons]
    unfold placeF
    rw [ih]
    by_cases h : f x = i <;> simp [h]
theorem eg43 : ∀ args w, (callFunc 43 args).run Try.prog w = .ok (.enter 43 args) w := enters_of Try.func43 (by kernel_rfl) rfl
theorem eg46 : ∀ args w, (callFunc 46 args).run Try.prog w = .ok (.enter 46 args) w := enters_of Try.func46 (by kernel_rfl) rfl
theorem below_ahead (w : World) (q : Nat) : Below w.heap.size w (w.drewN q) := ⟨rfl, rfl, rfl, Nat.le_refl _, fun _ _ => rfl⟩
/-- slices.IndexFunc of a knot's Kids by their name. -/
theorem idxf_calls (ad : Int → Nat) (l : List Int) (v : Value) (i : Int) (bx : Nat) (w : World) (hr : w.ownsRow 0 58 1 v l.length (l.map (pk ad))) (hk : ∀ x ∈ l, w.cell? ⟨ad x, 0, none⟩ = some (.int .i64 x)) (hb : w.cell? ⟨bx, 0, none⟩ = some (.int .i64 i)) :
    Calls Try.prog 42 #[v, .func (.func 43) #[] #[.pointer (some ⟨bx, 0, none⟩)]] w fun e w' => e = .returned (.int .i64 (placeOf l i)) ∧ ∃ q, w' = w.drewN q := by
  rcases hr.2 with ⟨rfl, h0⟩ | ⟨g, cap, cur, rfl, _, hg, hnc, hcm, hcs, ht⟩
  · have hl : l = [] := List.length_eq_zero_iff.1 h0
    subst hl
    exact (AnyE.slices_IndexFunc_empty Try.lay6 none 0 _ w).mono (fun e w' ⟨h1, h2⟩ => ⟨h1, 0, h2⟩)
  · by_cases hl : l = []
    · subst hl
      exact (AnyE.slices_IndexFunc_empty Try.lay6 _ cap _ w).mono (fun e w' ⟨h1, h2⟩ => ⟨h1, 0, h2⟩)
    · obtain ⟨x0, hx0⟩ := List.exists_mem_of_ne_nil l hl
      haveI : Inhabited {x : Int // x ∈ l} := ⟨⟨x0, hx0⟩⟩
      have hcap : l.length ≤ 9223372036854775807 := by simp only [maxLen] at hcm; omega
      have h := AnyE.slices_IndexFunc Try.lay6 (fun x : {x : Int // x ∈ l} => pk ad x.1) (fun y => decide (y.1 = i)) 43 #[.pointer (some ⟨bx, 0, none⟩)] eg43 g 0 l.length cap l.attach w
        (fun W x hB => gives43 x.1 i (ad x.1) bx W ((hB.cell (World.block_lt_of_cell? _ _ (hk x.1 x.2))).trans (hk x.1 x.2)) ((hB.cell (World.block_lt_of_cell? _ _ hb)).trans hb))
        (by simp) hcap (fun j hj => by
          have hj2 : j < l.length := by simpa using hj
          have e1 : (l.attach[j]!).1 = l[j] := by rw [getElem!_pos l.attach j hj]; simp
          rw [Nat.zero_add, blk_cell hg j]
          have hc : (l.map (pk ad))[j]? = some (pk ad l[j]) := by rw [List.getElem?_map, List.getElem?_eq_getElem hj2]; rfl
          rw [← ht, List.getElem?_take, if_pos (by omega)] at hc
          have hc2 : cur[j]? = some (pk ad l[j]) := by simpa using hc
          rw [hc2, ← e1])
      refine h.mono ?_
      rintro e w' ⟨rfl, hq⟩
      refine ⟨?_, hq⟩
      have e2 : l.attach.take l.length = l.attach := List.take_of_length_le (by simp)
      rw [e2]
      unfold Lib.idxBy placeOf
      rw [idx_place (fun y : {x : Int // x ∈ l} => y.1)]
      simp
set_option maxHeartbeats 4000000 in
set_option maxRecDepth 100000 in
/-- (*knot).place -/
theorem place_calls (ad : Int → Nat) (k : Kn) (v : Value) (i : Int) (w : World) (hb : w.heap[ad k.id]? = some (.cells (knB ad k v) 80 (0, 0))) (hr : w.ownsRow 0 58 1 v k.kids.length (k.kids.map (pk ad))) (hk : ∀ x ∈ k.kids, w.cell? ⟨ad x, 0, none⟩ = some (.int .i64 x)) :
    Calls Try.prog 29 #[pk ad k.id, .int .i64 i] w fun e w' => e = .returned (.int .i64 (placeOf k.kids i)) ∧ Below w.heap.size w w' := by
  have BA : Below w.heap.size w (w.alloc (.cells #[.int .i64 i] 3)) := below_alloc (Below.refl _ _) _
  have h6 : (w.alloc (.cells #[.int .i64 i] 3)).cell? ⟨ad k.id, 6, none⟩ = some v := by
    rw [blk_cell (show (w.alloc (.cells #[.int .i64 i] 3)).heap[ad k.id]? = some (.cells (knB ad k v) 80 (0, 0)) from (BA.block _ (blk_lt hb)).trans hb) 6]; rfl
  have hI := idxf_calls ad k.kids v i w.heap.size (w.alloc (.cells #[.int .i64 i] 3)) (own_move hr (fun j hj => BA.block j (own_lt hr j hj))) (fun x hx => (BA.cell (World.block_lt_of_cell? _ _ (hk x hx))).trans (hk x hx)) (by rw [blk_cell (heap_alloc_new w _) 0]; rfl)
  have HA := Aside0.mk (⟨hI, BA⟩ : _ ∧ _)
  obtain ⟨R, hR⟩ : ∃ R, placeOf k.kids i = R := ⟨_, rfl⟩
  rw [hR] at HA ⊢
  clear hb hr hk BA hI
  unfold pk
  obtain ⟨a, ha⟩ : ∃ a, ad k.id = a := ⟨_, rfl⟩
  rw [ha] at h6 ⊢
  clear ha hR
  go_enter Try.func29, Try.ntmps29
  go_wp2_with (go_at_call 42; refine HA.out.1.mono ?_; rintro e_ w_ ⟨rfl, q, rfl⟩)
  go_ret
  exact ⟨rfl, HA.out.2.trans (below_lo (below_ahead _ q) (by simp))⟩
end Go.Proofs.Ytfmlpkeaiohknaa.Q
/-! slices.DeleteFunc at knots; (*knot).out. -/
set_option linter.unusedVariables false
set_option linter.unusedSimpArgs false
namespace Go.Proofs.Ytfmlpkeaiohknaa.Q
open Go Go.RowKit Go.Lib Go.Sort Go.Proofs.YtfmlpkeaiohknaaW.PrintWords Go.Proofs.YtfmlpkeaiohknaaW.PrintLast Go.Proofs.YtfmlpkeaiohknaaW.PrintMore Go.Proofs.YtfmlpkeaiohknaaW.SL
attribute [local go_sem] max2_int min2_int max_two min_two max_three min_three max_four min_four
theorem putRow_heap {α : Type} [Inhabited α] {enc : α → Value} {w : World} {g e : Nat} {cur : Array Value} (hg : w.heap[g]? = some (.cells cur e (0, 0))) (d : Array α) :
    (putRow enc w g 0 d).heap[g]? = some (.cells (putCells enc 0 d cur) e (0, 0)) ∧ ∀ k, k ≠ g → (putRow enc w g 0 d).heap[k]? = w.heap[k]? := by
  unfold putRow mapBlock
  refine ⟨?_, fun k hk => ?_⟩
  · simp only [Array.getElem?_modify, if_true, hg]; rfl
  · simp only [Array.getElem?_modify]; rw [if_neg (Ne.symm hk)]
theorem putCells_take {α : Type} [Inhabited α] {enc : α → Value} (d : Array α) (cur : Array Value) (m : Nat) (h1 : m ≤ d.size) (h2 : d.size ≤ cur.size) : (putCells enc 0 d cur).toList.take m = (d.toList.take m).map enc := by
  apply List.ext_getElem?
  intro k
  rw [List.getElem?_map, List.getElem?_take, List.getElem?_take]
  split
  · rename_i hk
    have hkd : k < d.size := by omega
    have hkc : k < cur.size := by omega
    unfold putCells
    simp only [Array.getElem?_toList, Array.getElem?_mapIdx]
    rw [Array.getElem?_eq_getElem hkc, Array.getElem?_eq_getElem hkd]
    simp only [Option.map_some]
    rw [if_pos (by omega)]
    congr 2
    rw [Nat.sub_zero, getElem!_pos d k hkd]
  · rfl
theorem putCells_size {α : Type} [Inhabited α] {enc : α → Value} (d : Array α) (cur : Array Value) : (putCells enc 0 d cur).size = cur.size := by unfold putCells; simp
theorem info80 : (Try.prog.info? 80).map (fun i => i.size) = some 7 := by kernel_rfl
/-- Pointers to knots, compared. -/
theorem eql_kn {W : World} {a b : Nat} {ca cb : Array Value} {ta tb : TypeId} (ha : W.heap[a]? = some (.cells ca ta (0, 0))) (hb : W.heap[b]? = some (.cells cb tb (0, 0))) :
    (binOp .eql 58 (.pointer (some ⟨a, 0, none⟩)) (.pointer (some ⟨b, 0, none⟩))).run Try.prog W = .ok (.bool (decide (a = b))) W := by
  obtain ⟨j, hj, hs⟩ := Option.map_eq_some_iff.1 info80
  by_cases h : a = b
  · subst h
    rw [decide_eq_true rfl]
    exact run_eql_ptr_same W _ Try.underlying58 hj
  · rw [decide_eq_false h]
    exact run_eql_ptr_other W Try.underlying58 hj (by rw [hs]; decide) (fun e => h (by injection e)) ha hb
theorem eql_nil {W : World} (b : Addr) : (binOp .eql 58 (.pointer none) (.pointer (some b))).run Try.prog W = .ok (.bool false) W := by
  have h : ∀ d : Nat, (Op.equalIn (d + 1) 58 (.pointer none) (.pointer (some b))).run Try.prog W = .ok false W := fun d => by
    simp [Op.equalIn, run_underlying Try.underlying58]
  simp only [binOp]
  simp [Op.equal, Op.maxDepth, h 9999]
def oP : Option Nat → Value
  | none => .pointer none
  | some a => .pointer (some ⟨a, 0, none⟩)
/-- A block of plain cells lies there. -/
def Plain (W : World) (a : Nat) : Prop := ∃ c t, W.heap[a]? = some (.cells c t (0, 0))
set_option maxHeartbeats 4000000 in
set_option maxRecDepth 100000 in
theorem gives46 (y : Option Nat) (a : Nat) (bx : Nat) (W : World) (hx1 : W.cell? ⟨bx, 0, none⟩ = some (.pointer (some ⟨a, 0, none⟩))) (ha : Plain W a) (hy : ∀ b, y = some b → Plain W b) :
    FnGives Try.prog 46 #[.pointer (some ⟨bx, 0, none⟩)] #[oP y] (.bool (decide (y = some a))) W := by
  show Calls Try.prog 46 #[oP y, .pointer (some ⟨bx, 0, none⟩)] W _
  obtain ⟨ca, ta, ha⟩ := ha
  cases y with
  | none =>
    show Calls Try.prog 46 #[.pointer none, .pointer (some ⟨bx, 0, none⟩)] W _
    have hq := eql_nil (W := W) ⟨a, 0, none⟩
    clear ha hy
    go_enter Try.func46, Try.ntmps46
    go_wp2
    go_ret
    exact ⟨rfl, 0, rfl⟩
  | some b =>
    show Calls Try.prog 46 #[.pointer (some ⟨b, 0, none⟩), .pointer (some ⟨bx, 0, none⟩)] W _
    obtain ⟨cb, tb, hb⟩ := hy b rfl
    have hq := eql_kn hb ha
    have e : decide (some b = some a) = decide (b = a) := by simp
    rw [e]
    obtain ⟨r, hr⟩ : ∃ r, decide (b = a) = r := ⟨_, rfl⟩
    rw [hr] at hq ⊢
    clear e hr ha hb hy
    go_enter Try.func46, Try.ntmps46
    go_wp2
    go_ret
    exact ⟨rfl, 0, rfl⟩
theorem filter_att {α : Type} (l : List α) (q : α → Bool) : (l.attach.filter (fun y => q y.1)).map (·.1) = l.filter q := by
  have h : l.filter q = (l.attach.map (·.1)).filter q := by rw [List.attach_map_subtype_val]
  rw [h, List.filter_map]; rfl
theorem sortW_heap {α : Type} [Inhabited α] {enc : α → Value} {w : World} {g n : Nat} {dk : Array α} {os : Array Obj} {cur : Array Value} {e : Nat} (hg : w.heap[g]? = some (.cells cur e (0, 0))) {k : Nat} (hk : k ≠ g) (hl : k < w.heap.size) : (sortWorld enc w g 0 n dk os).heap[k]? = w.heap[k]? := by
  unfold sortWorld
  have hs : k < (putRow enc (Sort.ahead w n) g 0 dk).heap.size := by rw [size_putRow]; exact hl
  rw [Sort.heap_grow_old _ os hs]
  exact (putRow_heap (w := Sort.ahead w n) hg dk).2 k hk
/-- slices.DeleteFunc of a knot's Kids: that knot is left out. -/
theorem delf_calls {ad : Int → Nat} {w0 w : World} {Z : Nat → Prop} {L : List Asr} {F : List FA} {v : Value} {l : List Int} (S : Stt w0 Z L F w) (i : Nat) (hi : L[i]? = some (row v 58 1 l.length (l.map (pk ad)))) (x : Int) (hx : x ∈ l) (bx : Nat)
    (hb : w.cell? ⟨bx, 0, none⟩ = some (pk ad x)) (hne : ∀ k, v.ownBlock = some k → bx ≠ k ∧ ∀ y ∈ l, ad y ≠ k) (hpl : ∀ y ∈ l, Plain w (ad y)) :
    Calls Try.prog 45 #[v, .func (.func 46) #[] #[.pointer (some ⟨bx, 0, none⟩)]] w fun e w' => ∃ v', e = .returned v' ∧ Stt w0 Z (L.set i (row v' 58 1 (l.filter fun y => !decide (ad y = ad x)).length ((l.filter fun y => !decide (ad y = ad x)).map (pk ad)))) F w' := by
  have ho : w.ownsRow 0 58 1 v l.length (l.map (pk ad)) := S.rowAt i hi
  rcases ho.2 with ⟨rfl, h0⟩ | ⟨g, cap, cur, rfl, _, hg, hnc, hcm, hcs, ht⟩
  · have hl : l = [] := List.length_eq_zero_iff.1 h0
    subst hl; simp at hx
  · have hbg : bx ≠ g := (hne g rfl).1
    have hag := (hne g rfl).2
    have hbs : bx < w.heap.size := World.block_lt_of_cell? _ _ hb
    have hcap : l.length ≤ 9223372036854775807 := by simp only [maxLen] at hcm; omega
    have hlt : ∀ y ∈ l, ad y < w.heap.size := fun y hy => by obtain ⟨c, t, h⟩ := hpl y hy; exact blk_lt h
    let enc : Option {y : Int // y ∈ l} → Value := fun o => oP (o.map fun y => ad y.1)
    have hone : OneCell enc := by intro o; cases o <;> rfl
    let p : Option {y : Int // y ∈ l} → Bool := fun o => decide (o.map (fun y => ad y.1) = some (ad x))
    have hH : Holds enc w g 0 (l.attach.map some).toArray := by
      intro j hj
      have hj2 : j < l.length := by simpa using hj
      refine ⟨?_, blk_frozen hg _⟩
      rw [Nat.zero_add, blk_cell hg j]
      have hc : (l.map (pk ad))[j]? = some (pk ad l[j]) := by rw [List.getElem?_map, List.getElem?_eq_getElem hj2]; rfl
      rw [← ht, List.getElem?_take, if_pos (by omega)] at hc
      have hc2 : cur[j]? = some (pk ad l[j]) := by simpa using hc
      rw [hc2, getElem!_pos _ j hj]
      simp [enc]; rfl
    have h := AnyE.slices_DeleteFunc Try.lay10 enc hone p 46 #[.pointer (some ⟨bx, 0, none⟩)] eg46 none ptr0 g 0 cap (l.attach.map some).toArray w
      (fun W o hB => gives46 (o.map fun y => ad y.1) (ad x) bx W ((hB.cell (p := ⟨bx, 0, none⟩) hbs).trans hb) (by obtain ⟨c, t, h⟩ := hpl x hx; exact ⟨c, t, (hB.block _ (blk_lt h)).trans h⟩)
        (fun b hob => by
          obtain ⟨y, rfl, rfl⟩ := Option.map_eq_some_iff.1 hob
          obtain ⟨c, t, h⟩ := hpl y.1 y.2; exact ⟨c, t, (hB.block _ (blk_lt h)).trans h⟩))
      (fun n os dk o _ => gives46 (o.map fun y => ad y.1) (ad x) bx _ (by
        unfold sortWorld
        rw [cell?_grow _ _ _ (by show bx < (putRow _ _ _ _ _).heap.size; rw [size_putRow]; exact hbs), cell?_putRow_other _ _ g 0 _ _ (Or.inl hbg)]
        exact hb) (by obtain ⟨c, t, h⟩ := hpl x hx; exact ⟨c, t, (sortW_heap hg (hag x hx) (blk_lt h)).trans h⟩)
        (fun b hob => by
          obtain ⟨y, rfl, rfl⟩ := Option.map_eq_some_iff.1 hob
          obtain ⟨c, t, h⟩ := hpl y.1 y.2; exact ⟨c, t, (sortW_heap hg (hag y.1 y.2) (blk_lt h)).trans h⟩))
      hH (by simpa using hcap) (by simpa using hnc)
    have he : (((l.attach.map some).toArray).toList.filter fun o => !p o) = (l.attach.filter fun y => !decide (ad y.1 = ad x)).map some := by
      simp only [List.filter_map]
      congr 1
      apply List.filter_congr
      intro y _
      simp [p]
    have hsz : ((l.attach.map some).toArray).size = l.length := by simp
    rw [he, hsz] at h
    have hfa := filter_att l (fun y => !decide (ad y = ad x))
    have hfl : (l.filter fun y => !decide (ad y = ad x)).length ≤ l.length := List.length_filter_le _ _
    generalize (l.filter fun y => !decide (ad y = ad x)) = m at hfa hfl ⊢
    generalize (l.attach.filter fun y => !decide (ad y.1 = ad x)) = m2 at h hfa
    have hm2 : m2.length = m.length := by rw [← hfa, List.length_map]
    refine h.mono ?_
    rintro e w' ⟨rfl, q, rfl⟩
    rw [List.length_map, hm2]
    refine ⟨_, rfl, ?_⟩
    have hg2 : (Sort.ahead w q).heap[g]? = some (.cells cur 58 (0, 0)) := hg
    obtain ⟨p1, p2⟩ := putRow_heap (enc := enc) hg2 (m2.map some ++ List.replicate (l.length - m.length) none).toArray
    have hds : ((m2.map some ++ List.replicate (l.length - m.length) none).toArray : Array (Option {y : Int // y ∈ l})).size = l.length := by simp; omega
    refine S.updRow i hi ⟨by simp, .inr ⟨g, cap, _, rfl, Nat.zero_le _, p1, by omega, hcm, by rw [putCells_size]; exact hcs, ?_⟩⟩ ⟨rfl, rfl, rfl, by rw [size_putRow]; exact Nat.le_refl _, fun k hk hn => ?_⟩ (.inl rfl)
    · rw [putCells_take _ _ _ (by rw [hds]; omega) (by rw [hds]; omega)]
      rw [Nat.mul_one]
      simp only []
      rw [List.take_left' (by rw [List.length_map]; exact hm2), List.map_map, ← hfa, List.map_map]
      rfl
    · refine (p2 k (fun e => hn (by rw [e]; rfl))).trans rfl
end Go.Proofs.Ytfmlpkeaiohknaa.Q
/-! A grove inside a list of assertions: its knots read and turned; (*knot).out walked. -/
set_option linter.unusedVariables false
set_option linter.unusedSimpArgs false
namespace Go.Proofs.Ytfmlpkeaiohknaa.Q
open Go Go.RowKit Go.Lib Go.Sort Go.Proofs.YtfmlpkeaiohknaaW.PrintWords Go.Proofs.YtfmlpkeaiohknaaW.PrintLast Go.Proofs.YtfmlpkeaiohknaaW.PrintMore Go.Proofs.YtfmlpkeaiohknaaW.SL
attribute [local go_sem] max2_int min2_int max_two min_two max_three min_three max_four min_four
theorem own_form {w : World} {v : Value} {base e size n : Nat} {xs : List Value} (h : w.ownsRow base e size v n xs) : ∃ A c, v = .slice A n c ∧ n ≤ c := by
  obtain ⟨_, ⟨rfl, rfl⟩ | ⟨g, cap, cur, rfl, _, _, hnc, _⟩⟩ := h
  · exact ⟨none, 0, rfl, Nat.le_refl _⟩
  · exact ⟨_, cap, rfl, hnc⟩
def Kn.wPar (k : Kn) (q : Option Int) : Kn := ⟨k.id, k.kind, k.text, k.trail, q, k.kids⟩
def Kn.wKids (k : Kn) (l : List Int) : Kn := ⟨k.id, k.kind, k.text, k.trail, k.par, l⟩
def Kn.wText (k : Kn) (a b : ByteArray) : Kn := ⟨k.id, k.kind, a, b, k.par, k.kids⟩
def GL (pre : List Asr) (ad : Int → Nat) (g : List Hk) (X : List Asr) : List Asr := pre ++ (gvA ad g ++ X)
section
variable {pre X : List Asr} {ad : Int → Nat} {g : List Hk} {j : Nat} {h h' : Hk}
theorem GL_at {i : Nat} {a : Asr} (hi : (gvA ad g)[i]? = some a) : (GL pre ad g X)[pre.length + i]? = some a := by
  unfold GL
  rw [List.getElem?_append_right (by omega), Nat.add_sub_cancel_left, List.getElem?_append_left (List.getElem?_eq_some_iff.1 hi).1]
  exact hi
theorem GL_blk (hj : g[j]? = some h) : (GL pre ad g X)[pre.length + 2 * j]? = some (blk (ad h.k.id) 80 (knB ad h.k h.v)) := GL_at (gvA_blk hj)
theorem GL_row (hj : g[j]? = some h) : (GL pre ad g X)[pre.length + (2 * j + 1)]? = some (row h.v 58 1 h.k.kids.length (h.k.kids.map (pk ad))) := GL_at (gvA_row hj)
theorem GL_set2 (hj : g[j]? = some h) : ((GL pre ad g X).set (pre.length + 2 * j) (blk (ad h'.k.id) 80 (knB ad h'.k h'.v))).set (pre.length + (2 * j + 1)) (row h'.v 58 1 h'.k.kids.length (h'.k.kids.map (pk ad))) = GL pre ad (g.set j h') X := by
  have hl := (List.getElem?_eq_some_iff.1 hj).1
  have hlen := gvA_len (ad := ad) g
  unfold GL
  rw [gvA_set g j h' hl, List.set_append_right _ _ (by omega), List.set_append_right _ _ (by simp), Nat.add_sub_cancel_left, Nat.add_sub_cancel_left, List.set_append_left _ _ (by rw [hlen]; omega), List.set_append_left _ _ (by rw [List.length_set, hlen]; omega)]
  rfl
theorem GL_set1 (hj : g[j]? = some h) (hv : h'.v = h.v) (hk : h'.k.kids = h.k.kids) : (GL pre ad g X).set (pre.length + 2 * j) (blk (ad h'.k.id) 80 (knB ad h'.k h'.v)) = GL pre ad (g.set j h') X := by
  have h2 := GL_set2 (pre := pre) (X := X) (ad := ad) (h' := h') hj
  rw [← h2]
  have hl := (List.getElem?_eq_some_iff.1 hj).1
  have h3 := GL_row (pre := pre) (X := X) (ad := ad) hj
  have e : ((GL pre ad g X).set (pre.length + 2 * j) (blk (ad h'.k.id) 80 (knB ad h'.k h'.v)))[pre.length + (2 * j + 1)]? = some (row h'.v 58 1 h'.k.kids.length (h'.k.kids.map (pk ad))) := by
    rw [List.getElem?_set_ne (by omega), h3, hv, hk]
  obtain ⟨hlt, he⟩ := List.getElem?_eq_some_iff.1 e
  rw [← he]
  exact (List.set_getElem_self hlt).symm
end
section
variable {w0 w : World} {Z : Nat → Prop} {pre X : List Asr} {F : List FA} {ad : Int → Nat} {g : List Hk} {j i : Nat} {h : Hk} {L : List Asr}
/-- Two blocks lie apart. -/
theorem blk_ne (S : Stt w0 Z L F w) {i j a b t t' : Nat} {cs cs' : Array Value} (hi : L[i]? = some (blk a t cs)) (hj : L[j]? = some (blk b t' cs')) (hij : i ≠ j) : a ≠ b := by
  obtain ⟨f, hf, _⟩ := S.st.hs
  obtain ⟨fa, fb, ha, hb, hd⟩ := hf.apart hi hj hij
  intro e
  exact hd a ((ha.1 a).2 rfl) (by rw [e]; exact (hb.1 b).2 rfl)
theorem kn_blk (S : Stt w0 Z (GL pre ad g X) F w) (hj : g[j]? = some h) : w.heap[ad h.k.id]? = some (.cells (knB ad h.k h.v) 80 (0, 0)) := S.at_blk _ (GL_blk hj)
theorem kn_row (S : Stt w0 Z (GL pre ad g X) F w) (hj : g[j]? = some h) : w.ownsRow 0 58 1 h.v h.k.kids.length (h.k.kids.map (pk ad)) := S.rowAt _ (GL_row hj)
theorem kn_inj (S : Stt w0 Z (GL pre ad g X) F w) {i : Nat} {h2 : Hk} (hi : g[i]? = some h2) (hj : g[j]? = some h) (e : ad h2.k.id = ad h.k.id) : i = j := by
  by_cases hij : i = j
  · exact hij
  · exact absurd e (blk_ne S (GL_blk hi) (GL_blk hj) (by omega))
/-- A knot's row lies apart from every knot. -/
theorem kn_rowne (S : Stt w0 Z (GL pre ad g X) F w) {i : Nat} {h2 : Hk} (hi : g[i]? = some h2) (hj : g[j]? = some h) : ∀ k, h.v.ownBlock = some k → ad h2.k.id ≠ k := by
  intro k hk e
  exact S.st.row_ne_blk (GL_row hj) (GL_blk hi) (by omega) (by rw [hk, e])
/-- Another parent. -/
theorem kn_setPar (S : Stt w0 Z (GL pre ad g X) F w) (hj : g[j]? = some h) (q : Option Int) : Stt w0 Z (GL pre ad (g.set j ⟨h.k.wPar q, h.v⟩) X) F (w.setCell ⟨ad h.k.id, 5, none⟩ (pp ad q)) := by
  have h1 := S.of (S.st.set (GL_blk hj) 5 (pp ad q))
  have e := GL_set1 (pre := pre) (X := X) (ad := ad) (h' := ⟨h.k.wPar q, h.v⟩) hj rfl rfl
  rw [← e]; exact h1
/-- Other words. -/
theorem kn_setText (S : Stt w0 Z (GL pre ad g X) F w) (hj : g[j]? = some h) (a b : ByteArray) : Stt w0 Z (GL pre ad (g.set j ⟨h.k.wText a b, h.v⟩) X) F ((w.setCell ⟨ad h.k.id, 2, none⟩ (.string a)).setCell ⟨ad h.k.id, 3, none⟩ (.string b)) := by
  have h1 := S.of (S.st.set (GL_blk hj) 2 (.string a))
  have hl := (List.getElem?_eq_some_iff.1 (GL_blk (pre := pre) (X := X) (ad := ad) hj)).1
  have h2 := h1.of (h1.st.set (i := pre.length + 2 * j) (List.getElem?_set_self hl) 3 (.string b))
  rw [List.set_set] at h2
  have e := GL_set1 (pre := pre) (X := X) (ad := ad) (h' := ⟨h.k.wText a b, h.v⟩) hj rfl rfl
  rw [← e]; exact h2
/-- Other Kids: their row first, then the knot's own word of it. -/
theorem kn_setKids {v' : Value} {l : List Int} (hj : g[j]? = some h) (S : Stt w0 Z ((GL pre ad g X).set (pre.length + (2 * j + 1)) (row v' 58 1 l.length (l.map (pk ad)))) F w) : Stt w0 Z (GL pre ad (g.set j ⟨h.k.wKids l, v'⟩) X) F (w.setCell ⟨ad h.k.id, 6, none⟩ v') ∧ w.cell? ⟨ad h.k.id, 6, none⟩ = some h.v ∧ w.frozen? ⟨ad h.k.id, 6, none⟩ = false := by
  have hb : ((GL pre ad g X).set (pre.length + (2 * j + 1)) (row v' 58 1 l.length (l.map (pk ad))))[pre.length + 2 * j]? = some (blk (ad h.k.id) 80 (knB ad h.k h.v)) := by
    rw [List.getElem?_set_ne (by omega)]; exact GL_blk hj
  have h1 := S.of (S.st.set hb 6 v')
  have e := GL_set2 (pre := pre) (X := X) (ad := ad) (h' := ⟨h.k.wKids l, v'⟩) hj
  have hc := S.at_blk _ hb
  refine ⟨?_, by rw [blk_cell hc 6]; rfl, blk_frozen hc 6⟩
  rw [← e, List.set_comm _ _ (by omega)]
  exact h1
end
theorem set_comm2 {g : List Hk} {i j : Nat} {h h2 : Hk} (hij : i ≠ j) (hi : g[i]? = some h) : (g.set j h2)[i]? = some h := by rw [List.getElem?_set_ne (Ne.symm hij)]; exact hi
set_option maxHeartbeats 4000000 in
set_option maxRecDepth 100000 in
/-- (*knot).out -/
theorem out_calls {w0 w : World} {Z : Nat → Prop} {pre X : List Asr} {F : List FA} {ad : Int → Nat} {g : List Hk} {jx jp : Nat} {hx hp : Hk} (S : Stt w0 Z (GL pre ad g X) F w) (ex : g[jx]? = some hx) (ep : g[jp]? = some hp) (hne : jx ≠ jp)
    (hpar : hx.k.par = some hp.k.id) (hin : hx.k.id ∈ hp.k.kids) (hids : ∀ y ∈ hp.k.kids, ∃ (j : Nat) (h : Hk), g[j]? = some h ∧ h.k.id = y) :
    Calls Try.prog 32 #[pk ad hx.k.id] w fun e w' => ∃ v', e = .returned (.tuple #[]) ∧ Stt w0 Z (GL pre ad ((g.set jp ⟨hp.k.wKids (hp.k.kids.filter fun y => !decide (ad y = ad hx.k.id)), v'⟩).set jx ⟨hx.k.wPar none, hx.v⟩) X) F w' := by
  have S1 : Stt w0 Z (GL (blk w.heap.size 58 #[pk ad hx.k.id] :: pre) ad g X) F (w.alloc (.cells #[pk ad hx.k.id] 58)) := S.box rfl (heap_alloc_new w _) (below_alloc (Below.refl _ _) _)
  have hx5 : (w.alloc (.cells #[pk ad hx.k.id] 58)).cell? ⟨ad hx.k.id, 5, none⟩ = some (pk ad hp.k.id) := by rw [blk_cell (kn_blk S1 ex) 5]; show some (pp ad hx.k.par) = _; rw [hpar]; rfl
  have hp6 : (w.alloc (.cells #[pk ad hx.k.id] 58)).cell? ⟨ad hp.k.id, 6, none⟩ = some hp.v := by rw [blk_cell (kn_blk S1 ep) 6]; rfl
  have hbx : (w.alloc (.cells #[pk ad hx.k.id] 58)).cell? ⟨w.heap.size, 0, none⟩ = some (pk ad hx.k.id) := by rw [blk_cell (S1.at_blk 0 rfl) 0]; rfl
  have hD := delf_calls S1 _ (GL_row ep) hx.k.id hin w.heap.size hbx (fun k hk => ⟨fun e => S1.st.row_ne_blk (GL_row ep) (j := 0) rfl (by simp) (by rw [hk, e]), fun y hy => by obtain ⟨jy, hy', e1, e2⟩ := hids y hy; rw [← e2]; exact kn_rowne S1 e1 ep k hk⟩)
    (fun y hy => by obtain ⟨jy, hy', e1, e2⟩ := hids y hy; rw [← e2]; exact ⟨_, _, kn_blk S1 e1⟩)
  generalize hp.k.kids.filter (fun y => !decide (ad y = ad hx.k.id)) = l at hD ⊢
  have hpar' := Aside0.mk (show pp ad hx.k.par = pk ad hp.k.id by rw [hpar]; rfl)
  have HD := Aside0.mk (⟨hD, S1⟩ : _ ∧ _)
  clear hD S1 S
  obtain ⟨a, ha⟩ : ∃ a, ad hx.k.id = a := ⟨_, rfl⟩
  obtain ⟨b, hb⟩ : ∃ b, ad hp.k.id = b := ⟨_, rfl⟩
  have HN := Aside0.mk (⟨trivial, ha, hb, ex, ep, hne⟩ : True ∧ _ ∧ _ ∧ _ ∧ _ ∧ _)
  simp only [pk, ha, hb] at hx5 hp6 hbx HD hpar' ⊢
  clear ha hb ex ep hne hpar hin hids
  go_enter Try.func32, Try.ntmps32
  go_wp2_with (go_at_call 45; refine HD.out.1.mono ?_; rintro e_ w2 ⟨v', rfl, S2⟩; obtain ⟨A2, c2, rfl, _⟩ := own_form (S2.rowAt _ (List.getElem?_set_self (List.getElem?_eq_some_iff.1 (GL_row HN.out.2.2.2.2.1)).1)); obtain ⟨S3, hc6, hf6⟩ := kn_setKids HN.out.2.2.2.2.1 S2; rw [HN.out.2.2.1] at S3 hc6 hf6; have ex3 := set_comm2 (h2 := ⟨hp.k.wKids l, .slice A2 l.length c2⟩) HN.out.2.2.2.2.2 HN.out.2.2.2.1; have hb3 := kn_blk S3 ex3; rw [HN.out.2.1] at hb3; have hx5b := blk_cell hb3 5; have hx5f := blk_frozen hb3 5; have hx5c := hx5b.trans (show (knB ad hx.k hx.v)[5]? = some (pp ad hx.k.par) from rfl); rw [hpar'.out] at hx5c; have hbx3 := (blk_cell (S3.at_blk 0 rfl) 0).trans (show (#[Value.pointer (some ⟨a, 0, none⟩)] : Array Value)[0]? = some (.pointer (some ⟨a, 0, none⟩)) from rfl); have S4 := kn_setPar S3 ex3 none; rw [HN.out.2.1] at S4; replace S4 := Aside0.mk S4; clear hb3 hx5b S3 S2 ex3)
  refine bodyPost_end (results_none rfl _ _ _) rfl ?_
  exact ⟨_, rfl, Stt.drop (a := blk w.heap.size 58 #[.pointer (some ⟨a, 0, none⟩)]) (l := GL pre ad _ X) S4.out⟩
end Go.Proofs.Ytfmlpkeaiohknaa.Q
/-! A grove in plain Lean: what holds of it; (*knot).below walked. -/
set_option linter.unusedVariables false
set_option linter.unusedSimpArgs false
namespace Go.Proofs.Ytfmlpkeaiohknaa.Q
open Go Go.RowKit Go.Lib Go.Sort Go.Proofs.YtfmlpkeaiohknaaW.PrintWords Go.Proofs.YtfmlpkeaiohknaaW.PrintLast Go.Proofs.YtfmlpkeaiohknaaW.PrintMore Go.Proofs.YtfmlpkeaiohknaaW.SL
attribute [local go_sem] max2_int min2_int max_two min_two max_three min_three max_four min_four
def gAt (g : List Kn) (i : Int) : Option Kn := g.find? fun k => decide (k.id = i)
/-- What holds of a grove: one knot a name; Kids and parents say the same; a rank that falls towards the root. -/
structure Inv (g : List Kn) : Prop where
  nodup : (g.map (·.id)).Nodup
  kids : ∀ k ∈ g, ∀ i ∈ k.kids, ∃ y ∈ g, y.id = i ∧ y.par = some k.id
  par : ∀ k ∈ g, ∀ p, k.par = some p → ∃ q ∈ g, q.id = p ∧ k.id ∈ q.kids
  kdup : ∀ k ∈ g, k.kids.Nodup
  rank : ∃ d : Int → Nat, ∀ k ∈ g, ∀ p, k.par = some p → d p < d k.id
  root : ∀ k ∈ g, k.par = none ↔ k.id = 0
  in64 : ∀ k ∈ g, 0 ≤ k.id ∧ in64 k.id
theorem gAt_mem {g : List Kn} {i : Int} {k : Kn} (h : gAt g i = some k) : k ∈ g ∧ k.id = i := ⟨List.mem_of_find?_eq_some h, by simpa using List.find?_some h⟩
theorem nodup_id {g : List Kn} (h : (g.map (·.id)).Nodup) {a b : Kn} (ha : a ∈ g) (hb : b ∈ g) (e : a.id = b.id) : a = b := by
  induction g with
  | nil => cases ha
  | cons x r ih =>
    rw [List.map_cons, List.nodup_cons] at h
    rcases List.mem_cons.1 ha with ha2 | ha2
    · rcases List.mem_cons.1 hb with hb2 | hb2
      · rw [ha2, hb2]
      · exact (h.1 (List.mem_map.2 ⟨b, hb2, by rw [← e, ha2]⟩)).elim
    · rcases List.mem_cons.1 hb with hb2 | hb2
      · exact (h.1 (List.mem_map.2 ⟨a, ha2, by rw [e, hb2]⟩)).elim
      · exact ih h.2 ha2 hb2
theorem gAt_of {g : List Kn} (h : (g.map (·.id)).Nodup) {k : Kn} (hk : k ∈ g) : gAt g k.id = some k := by
  cases he : gAt g k.id with
  | none =>
    have := List.find?_eq_none.1 he k hk
    simp at this
  | some k' =>
    obtain ⟨h1, h2⟩ := gAt_mem he
    rw [nodup_id h h1 hk h2]
theorem gAt_none {g : List Kn} {i : Int} : gAt g i = none ↔ i ∉ g.map (·.id) := by
  unfold gAt
  rw [List.find?_eq_none]
  constructor
  · intro h hm
    obtain ⟨k, hk, e⟩ := List.mem_map.1 hm
    exact h k hk (by simpa using e)
  · intro h k hk
    simp only [decide_eq_true_eq]
    exact fun e => h (List.mem_map.2 ⟨k, hk, e⟩)
def belowP (g : List Kn) : Nat → Int → Int → Bool
  | 0, _, _ => false
  | n + 1, i, t => if i = t then true else match (gAt g i).bind (·.par) with | none => false | some p => belowP g n p t
abbrev kns (g : List Hk) : List Kn := g.map (·.k)
theorem kns_mem {g : List Hk} {j : Nat} {h : Hk} (hj : g[j]? = some h) : h.k ∈ kns g := List.mem_map.2 ⟨h, List.mem_of_getElem? hj, rfl⟩
theorem kns_at {g : List Hk} {k : Kn} (hk : k ∈ kns g) : ∃ (j : Nat) (h : Hk), g[j]? = some h ∧ h.k = k := by
  obtain ⟨h, hh, rfl⟩ := List.mem_map.1 hk
  obtain ⟨j, hj⟩ := List.getElem?_of_mem hh
  exact ⟨j, h, hj, rfl⟩
set_option maxHeartbeats 4000000 in
set_option maxRecDepth 100000 in
/-- (*knot).below -/
theorem below_calls {w0 w : World} {Z : Nat → Prop} {pre X : List Asr} {F : List FA} {ad : Int → Nat} {g : List Hk} {jx jt : Nat} {hx ht : Hk} (S : Stt w0 Z (GL pre ad g X) F w) (ex : g[jx]? = some hx) (et : g[jt]? = some ht)
    (I : Inv (kns g)) : ∃ n0, ∀ n, n0 ≤ n → Calls Try.prog 33 #[pk ad hx.k.id, pk ad ht.k.id] w fun e w' => e = .returned (.bool (belowP (kns g) n hx.k.id ht.k.id)) ∧ w' = w := by
  obtain ⟨d, hd⟩ := I.rank
  refine ⟨d hx.k.id + 1, fun n hn => ?_⟩
  obtain ⟨R, hR⟩ : ∃ R, belowP (kns g) n hx.k.id ht.k.id = R := ⟨_, rfl⟩
  rw [hR]
  have HS := Aside0.mk S
  obtain ⟨t, htt⟩ : ∃ t, ad ht.k.id = t := ⟨_, rfl⟩
  obtain ⟨x, hxx⟩ : ∃ x, ad hx.k.id = x := ⟨_, rfl⟩
  have HX := Aside0.mk (⟨htt, hxx, hR, hn, ex, et⟩ : _ ∧ _ ∧ _ ∧ _ ∧ _ ∧ _)
  replace hd := Aside0.mk hd
  replace I := Aside0.mk I
  unfold pk
  rw [htt, hxx]
  clear S ex et hR hn htt hxx
  go_enter Try.func33, Try.ntmps33
  go_wp2
  go_loopg [5] (n + 1) (fun kq v5 W => Aside0 (W = w) ∧ ((∃ (b m : Nat) (j : Nat) (h : Hk), v5 = .pointer (some ⟨b, 0, none⟩) ∧ Aside0 (g[j]? = some h ∧ ad h.k.id = b) ∧ kq = m + 1 ∧ Aside0 (belowP (kns g) m h.k.id ht.k.id = R ∧ d h.k.id + 1 ≤ m)) ∨ (v5 = .pointer none ∧ Aside0 (R = false))))
  case atStart => exact ⟨⟨rfl⟩, .inl ⟨x, n, jx, hx, rfl, ⟨HX.out.2.2.2.2.1, HX.out.2.1⟩, rfl, ⟨HX.out.2.2.1, HX.out.2.2.2.1⟩⟩⟩
  case round =>
    obtain ⟨hw, ⟨b, m, j, h, rfl, hj, hgk, hb⟩ | ⟨rfl, hb⟩⟩ := hrel
    · obtain rfl := hw.out
      have hq := eql_kn (W := wr) (hj.out.2 ▸ kn_blk HS.out hj.out.1) (HX.out.1 ▸ kn_blk HS.out HX.out.2.2.2.2.2)
      have h5 : wr.cell? ⟨b, 5, none⟩ = some (pp ad h.k.par) := by
        have := blk_cell (kn_blk HS.out hj.out.1) 5
        rw [hj.out.2] at this; exact this
      obtain ⟨m', rfl⟩ : ∃ m', m = m' + 1 := ⟨m - 1, by have := hb.out.2; omega⟩
      have hb1 := hb.out.1
      unfold belowP at hb1
      by_cases hbt : b = t
      · have e : h.k.id = ht.k.id := by
          have := kn_inj HS.out hj.out.1 HX.out.2.2.2.2.2 (hj.out.2.trans (hbt.trans HX.out.1.symm))
          subst this
          have := hj.out.1.symm.trans HX.out.2.2.2.2.2
          injection this with this; rw [this]
        rw [if_pos e] at hb1
        subst hb1
        rw [decide_eq_true hbt] at hq
        clear hbt e h5
        go_wp2
        go_ret
        exact ⟨rfl, rfl⟩
      · have e : h.k.id ≠ ht.k.id := fun e => hbt (by rw [← hj.out.2, ← HX.out.1, e])
        rw [if_neg e, gAt_of I.out.nodup (kns_mem hj.out.1), Option.bind_some] at hb1
        rw [decide_eq_false hbt] at hq
        have HM := Aside0.mk hgk
        cases hp : h.k.par with
        | none =>
          rw [hp] at hb1 h5
          replace hb1 : false = R := hb1
          replace h5 : wr.cell? ⟨b, 5, none⟩ = some (.pointer none) := h5
          have hb2 := Aside0.mk hb1.symm
          clear hb1 hbt e hb hgk
          go_wp2
          go_roundg 0
          case rel => exact ⟨⟨rfl⟩, .inr ⟨rfl, hb2⟩⟩
          case measure => have := HM.out; omega
        | some p =>
          rw [hp] at hb1 h5
          obtain ⟨q, hq1, hq2, _⟩ := I.out.par h.k (kns_mem hj.out.1) p hp
          obtain ⟨jq, hq', eq1, eq2⟩ := kns_at hq1
          have hrk := hd.out h.k (kns_mem hj.out.1) p hp
          have hm := hb.out.2
          replace h5 : wr.cell? ⟨b, 5, none⟩ = some (.pointer (some ⟨ad p, 0, none⟩)) := h5
          have hb2 : Aside0 (belowP (kns g) m' hq'.k.id ht.k.id = R ∧ d hq'.k.id + 1 ≤ m') := ⟨by rw [eq2, hq2]; exact hb1, by rw [eq2, hq2]; omega⟩
          have hj2 : Aside0 (g[jq]? = some hq' ∧ ad hq'.k.id = ad p) := ⟨eq1, by rw [eq2, hq2]⟩
          clear hb1 hbt e hb hgk hq1 hq2 eq1 eq2 hrk hm hp
          go_wp2
          go_roundg (m' + 1)
          case rel => exact ⟨⟨rfl⟩, .inl ⟨ad p, m', jq, hq', rfl, hj2, rfl, hb2⟩⟩
          case measure => have := HM.out; omega
    · obtain rfl := hw.out
      obtain rfl := hb.out
      go_wp2
      go_ret
      exact ⟨rfl, rfl⟩
end Go.Proofs.Ytfmlpkeaiohknaa.Q
/-! slices.Insert of one knot. -/
set_option linter.unusedVariables false
set_option linter.unusedSimpArgs false
namespace Go.Proofs.Ytfmlpkeaiohknaa.Q
open Go Go.RowKit Go.Lib Go.Sort Go.Proofs.YtfmlpkeaiohknaaW.PrintWords Go.Proofs.YtfmlpkeaiohknaaW.PrintLast Go.Proofs.YtfmlpkeaiohknaaW.PrintMore Go.Proofs.YtfmlpkeaiohknaaW.SL
attribute [local go_sem] max2_int min2_int max_two min_two max_three min_three max_four min_four
def insAt (l : List Int) (i : Nat) (x : Int) : List Int := l.take i ++ x :: l.drop i
theorem insAt_len (l : List Int) {i : Nat} (h : i ≤ l.length) (x : Int) : (insAt l i x).length = l.length + 1 := by unfold insAt; simp; omega
theorem info58 : (Try.prog.info? 58).map (fun i => (i.zero, i.size, i.bytes)) = some (some (.pointer none), 1, 8) := by kernel_rfl
theorem wpl {P : Program} {ops : Array Oper} {o : Oper} {rest : List Oper} {a : Act} {Q : Exit → Act → World → Prop} {W : World} (hgd : o.guard = none)
    (h : ∀ K : Act → World → Prop, (∀ a' w', wpList P ops Q rest a' w' → K a' w') → (if Region.wanted o (yielded ops a.tmps) = true then Oper.wp P o a W K Q else K (a.put o.dst undef) W)) : wpList P ops Q (o :: rest) a W := by
  refine wpList_plain hgd fun K hK => ?_
  have hw : Region.wanted o (yielded ops a.tmps) = true := by simp [Region.wanted, hgd]
  have := h K hK
  rwa [if_pos hw] at this
theorem lit_own {w : World} {gx e : Nat} {u : Value} (h : w.heap[gx]? = some (.cells #[u] e (0, 0))) : w.ownsRow 0 e 1 (.slice (some ⟨gx, 0, none⟩) 1 1) 1 [u] :=
  ⟨rfl, .inr ⟨gx, 1, #[u], rfl, Nat.zero_le _, h, Nat.le_refl _, by simp [maxLen], rfl, rfl⟩⟩
theorem own_at {w : World} {g e n : Nat} {cur : Array Value} {xs : List Value} (hg : w.heap[g]? = some (.cells cur e (0, 0))) (ht : cur.toList.take (n * 1) = xs) (j : Nat) (v : Value) (hj : xs[j]? = some v) : w.cell? ⟨g, j, none⟩ = some v := by
  rw [← ht, List.getElem?_take] at hj
  split at hj
  · rw [blk_cell hg j]; simpa using hj
  · cases hj
set_option maxHeartbeats 4000000 in
set_option maxRecDepth 100000 in
/-- .. at the end. -/
theorem ins_end {ad : Int → Nat} {w0 w : World} {Z : Nat → Prop} {L : List Asr} {F : List FA} {v : Value} {l : List Int} (S : Stt w0 Z L F w) (i : Nat) (hi : L[i]? = some (row v 58 1 l.length (l.map (pk ad)))) (x : Int) (gx : Nat) (hg : w.heap[gx]? = some (.cells #[pk ad x] 58 (0, 0))) (hlen : l.length ≤ 1000000) :
    Calls Try.prog 44 #[v, .int .i64 (l.length : Int), .slice (some ⟨gx, 0, none⟩) 1 1] w fun e w' => ∃ v', e = .returned v' ∧ Stt w0 Z (L.set i (row v' 58 1 (insAt l l.length x).length ((insAt l l.length x).map (pk ad)))) F w' := by
  have ho : w.ownsRow 0 58 1 v l.length (l.map (pk ad)) := S.rowAt i hi
  obtain ⟨A, c, rfl, hlc⟩ := own_form ho
  have hcm : c ≤ 9223372036854775807 := by
    rcases ho.2 with ⟨h1, _⟩ | ⟨g, cap, cur, h1, _, _, _, hm, _⟩
    · injection h1 with _ _ h1; omega
    · injection h1 with _ _ h1; simp only [maxLen] at hm; omega
  have HS := Aside0.mk (⟨S, hi, ho, lit_own hg, hlen⟩ : _ ∧ _ ∧ _ ∧ _ ∧ _)
  have hlc2 := eq_true hlc
  have e : insAt l l.length x = l ++ [x] := by unfold insAt; simp
  rw [e]
  clear S hi ho hg hlen e
  go_enter Try.func44, Try.ntmps44
  go_wp2_with (((with_reducible refine gate_builtin (b := .append) (xs := #[.tmp 23, .tmp 24]) rfl ?_); at_builtin; refine wpl rfl (fun K hK => app_step (by rfl) (.tmp 23) (.tmp 24) 78 58 (.pointer none) 1 8 rfl Try.underlying78 info58 rfl (by decide) (by decide) (.slice A l.length c) (.slice (some ⟨gx, 0, none⟩) 1 1) l.length (l.map (pk ad)) [pk ad x] rfl rfl (by intro u hu; rw [List.mem_singleton] at hu; subst hu; rfl) HS.out.2.2.1 HS.out.2.2.2.1 (by have := HS.out.2.2.2.2; omega) ?_); intro v_ w_ ho_ hg_ hat_; refine hK _ _ ?_; have S2 := HS.out.1.updRow (w' := w_) (v' := v_) i HS.out.2.1 ho_ hg_ hat_; replace S2 := Aside0.mk S2; obtain ⟨A2, c2, rfl, _⟩ := own_form ho_; clear ho_ hg_ hat_))
  all_goals (go_ret; refine ⟨_, rfl, ?_⟩; have hS_ := S2.out; first | exact hS_ | (rw [List.length_append, List.map_append]; exact hS_))
theorem shift_list {α : Type} (C M : List α) (k n : Nat) (u : α) (hk : k < n) (hC : n + 1 ≤ C.length) (hM : C.take n = M) (T : List α) (hT : T = C.take (k + 1) ++ M.drop k ++ C.drop (k + 1 + (M.drop k).length)) :
    (T.take k ++ [u] ++ T.drop (k + 1)).take (n + 1) = M.take k ++ u :: M.drop k := by
  have hMl : M.length = n := by rw [← hM, List.length_take]; omega
  have hA : (C.take (k + 1)).length = k + 1 := by rw [List.length_take]; omega
  have hB : (M.drop k).length = n - k := by rw [List.length_drop]; omega
  have h1 : T.take k = M.take k := by
    rw [hT, List.append_assoc, List.take_append_of_le_length (by omega), List.take_take, Nat.min_eq_left (by omega), ← hM, List.take_take, Nat.min_eq_left (by omega)]
  have h2 : T.drop (k + 1) = M.drop k ++ C.drop (k + 1 + (M.drop k).length) := by
    rw [hT, List.append_assoc, List.drop_left' hA]
  rw [h1, h2, ← List.append_assoc, List.take_left' (by simp only [List.length_append, List.length_singleton, List.length_take, hB]; omega)]
  simp
theorem size58 : (Try.prog.info? 58).map (·.size) = some 1 := by kernel_rfl
theorem pk_one (ad : Int → Nat) (l : List Int) : ∀ v ∈ l.map (pk ad), v.oneCell' = true := by
  intro v hv
  obtain ⟨i, _, rfl⟩ := List.mem_map.1 hv
  rfl
theorem shape_of {w : World} {g e : Nat} {cur : Array Value} (hg : w.heap[g]? = some (.cells cur e (0, 0))) : w.shape? g = some (e, cur.size) := by
  unfold World.shape?; rw [hg]
theorem find47 : Extern.find Try.f47 = some (Extern.SlicesOverlaps.overlaps #[78, 78] #[4]) := by kernel_rfl
theorem ov_run {w : World} {gx g k : Nat} {cur : Array Value} {u : Value} (hg : w.heap[gx]? = some (.cells #[u] 58 (0, 0))) (hgr : w.heap[g]? = some (.cells cur 58 (0, 0))) (hne : gx ≠ g) (hcs : cur.size ≠ 0) (lb cb : Nat) :
    (callFunc 47 #[.slice (some ⟨gx, 0, none⟩) 1 1, .slice (some ⟨g, k + 1, none⟩) lb cb]).run Try.prog w = .ok (.value (.bool false)) w := by
  rw [run_callFunc_extern Try.func47 (by kernel_rfl) (by kernel_rfl) (by kernel_rfl) find47,
      Lib.run_overlaps_apart w 78 4 58 Try.underlying78 1 Try.sizeOf58 ⟨gx, 0, none⟩ ⟨g, k + 1, none⟩ 1 1 lb cb hne 58 58 1 cur.size (shape_of hg) (shape_of hgr) hcs (blk_frozen hg 0) (blk_frozen hg 1)]
  rfl
set_option maxHeartbeats 4000000 in
set_option maxRecDepth 100000 in
/-- .. in the midst, where there is room. -/
theorem ins_room {ad : Int → Nat} {w0 w : World} {Z : Nat → Prop} {L : List Asr} {F : List FA} {l : List Int} {g cap : Nat} {cur : Array Value} (S : Stt w0 Z L F w) (i : Nat) (hi : L[i]? = some (row (.slice (some ⟨g, 0, none⟩) l.length cap) 58 1 l.length (l.map (pk ad))))
    (hgr : w.heap[g]? = some (.cells cur 58 (0, 0))) (hcm : cap ≤ maxLen) (hcs : cur.size = cap * 1) (ht : cur.toList.take (l.length * 1) = l.map (pk ad))
    (x : Int) (gx : Nat) (hg : w.heap[gx]? = some (.cells #[pk ad x] 58 (0, 0))) (hne : gx ≠ g) (hlen : l.length ≤ 1000000) (k : Nat) (hk : k < l.length) (hroom : l.length + 1 ≤ cap) :
    Calls Try.prog 44 #[.slice (some ⟨g, 0, none⟩) l.length cap, .int .i64 (k : Int), .slice (some ⟨gx, 0, none⟩) 1 1] w fun e w' => ∃ v', e = .returned v' ∧ Stt w0 Z (L.set i (row v' 58 1 (insAt l k x).length ((insAt l k x).map (pk ad)))) F w' := by
  have hcap : cap ≤ 9223372036854775807 := by simp only [maxLen] at hcm; omega
  obtain ⟨n, hn⟩ : ∃ n, l.length = n := ⟨_, rfl⟩
  have hw1 : wrap64 ((n : Int) + 1) = (n : Int) + 1 := by unfold wrap64; omega
  have hw2 : wrap64 ((k : Int) + 1) = (k : Int) + 1 := by unfold wrap64; omega
  have hi1 : IntKind.i64.wrap ((n : Int) + 1) = (n : Int) + 1 := by rw [IntKind.wrap_i64]; omega
  have hi2 : IntKind.i64.wrap ((k : Int) + 1) = (k : Int) + 1 := by rw [IntKind.wrap_i64]; omega
  have hz2 : ¬ ((k : Int) = (n : Int)) := by omega
  have hz3 : ¬ (k = n) := by omega
  have hz4 : ((k : Int) == (n : Int)) = false := by rw [beq_eq_false_iff_ne]; exact hz2
  have hb0 : ¬ (cap : Int) < (n : Int) + 1 := by omega
  have hb1 : (0 : Int) ≤ (k : Int) + 1 := by omega
  have hb2 : ¬ (cap = k + 1) := by omega
  have hb3 : (k : Int) ≤ (n : Int) + 1 := by omega
  have hb4 : ¬ (cap = k) := by omega
  have hb5 : k ≤ n := by omega
  have hb6 : (k : Int) ≤ (n : Int) := by omega
  have hb7 : ((k : Int) + 1).toNat = k + 1 := by omega
  have hb8 : (n : Int) + 1 ≤ (cap : Int) := by omega
  have hb9 : (k : Int) + 1 ≤ (n : Int) + 1 := by omega
  have hb10 : ((n : Int) + 1).toNat = n + 1 := by omega
  have NUM := Aside0.mk (⟨hw1, hw2, hi1, hi2, hz2, hz3, hz4, hb0, hb1, hb2, hb3, hb4, hb5, hb6, hb7, hb8, hb9, hb10⟩ : _ ∧ _ ∧ _ ∧ _ ∧ _ ∧ _ ∧ _ ∧ _ ∧ _ ∧ _ ∧ _ ∧ _ ∧ _ ∧ _ ∧ _ ∧ _ ∧ _ ∧ _)
  clear hw1 hw2 hi1 hi2 hz2 hz3 hz4 hb0 hb1 hb2 hb3 hb4 hb5 hb6 hb7 hb8 hb9 hb10
  have hml : (l.map (pk ad)).length = n := by simp [hn]
  have hdl : ((l.drop k).map (pk ad)).length = n - k := by simp [hn]
  obtain ⟨c1, hc1⟩ : ∃ c1, c1 = (cur.toList.take (k + 1) ++ (l.drop k).map (pk ad) ++ cur.toList.drop (k + 1 + ((l.drop k).map (pk ad)).length)).toArray := ⟨_, rfl⟩
  have hc1s : c1.size = cap := by rw [hc1]; simp; omega
  obtain ⟨c2, hc2⟩ : ∃ c2, c2 = (c1.toList.take k ++ [pk ad x] ++ c1.toList.drop (k + [pk ad x].length)).toArray := ⟨_, rfl⟩
  have hc2s : c2.size = cap := by rw [hc2]; simp; omega
  have hov : ∀ lb cb, (callFunc 47 #[.slice (some ⟨gx, 0, none⟩) 1 1, .slice (some ⟨g, k + 1, none⟩) lb cb]).run Try.prog w = .ok (.value (.bool false)) w := fun lb cb => ov_run hg hgr hne (by omega) lb cb
  have hcp1 : ∀ ty dc sc, (Builtin.copy_ #[78, 78] ty #[.slice (some ⟨g, k + 1, none⟩) (n + 1 - (k + 1)) dc, .slice (some ⟨g, k, none⟩) (n + 1 - k) sc]).run Try.prog w.drew = .ok (goInt ((l.drop k).map (pk ad)).length) (w.drew.setRow g c1) := fun ty dc sc => by
    rw [hc1]
    exact run_copy_row Try.prog w.drew 78 78 ty 58 g (k + 1) (n + 1 - (k + 1)) dc ⟨g, k, none⟩ (n + 1 - k) sc cur 58 ((l.drop k).map (pk ad)) Try.underlying78 size58 hgr (by rw [hdl]; simp only [Nat.min_def]; split <;> omega)
      (fun j v hj => by
        rw [show (⟨g, k, none⟩ : Addr).add j = ⟨g, k + j, none⟩ from Addr.add_lit ..]
        exact own_at (w := w.drew) hgr ht (k + j) v (by rw [List.getElem?_map] at hj ⊢; rwa [List.getElem?_drop] at hj)) (by rw [hdl]; omega) (pk_one ad _)
  obtain ⟨W1, hW1⟩ : ∃ W1, W1 = w.drew.setRow g c1 := ⟨_, rfl⟩
  have hg1 : W1.heap[g]? = some (.cells c1 58 (0, 0)) := by rw [hW1]; exact setRow_heap w.drew g cur c1 58 (0, 0) hgr
  have hgx1 : W1.heap[gx]? = some (.cells #[pk ad x] 58 (0, 0)) := by rw [hW1, setRow_other _ _ _ _ hne]; exact hg
  have hcp2 : ∀ (W : World), W.heap = W1.heap → ∀ ty dc, (Builtin.copy_ #[78, 78] ty #[.slice (some ⟨g, k, none⟩) (n + 1 - k) dc, .slice (some ⟨gx, 0, none⟩) 1 1]).run Try.prog W = .ok (goInt [pk ad x].length) (W.setRow g c2) := fun W hW ty dc => by
    rw [hc2]
    exact run_copy_row Try.prog W 78 78 ty 58 g k (n + 1 - k) dc ⟨gx, 0, none⟩ 1 1 c1 58 [pk ad x] Try.underlying78 size58 (by rw [hW]; exact hg1) (by simp only [List.length_singleton, Nat.min_def]; split <;> omega)
      (fun j v hj => by
        cases j with
        | zero => rw [show (⟨gx, 0, none⟩ : Addr).add 0 = ⟨gx, 0, none⟩ from rfl, blk_cell (by rw [hW]; exact hgx1) 0]; simpa using hj
        | succ j => simp at hj) (by simp; omega) (by intro u hu; rw [List.mem_singleton] at hu; subst hu; rfl)
  have hfin : ∀ W : World, W.heap = W1.heap → W.os = w.os → W.tape = w.tape → W.output = w.output → Stt w0 Z (L.set i (row (.slice (some ⟨g, 0, none⟩) (n + 1) cap) 58 1 (insAt l k x).length ((insAt l k x).map (pk ad)))) F (W.setRow g c2) := fun W hW h1 h2 h3 => by
    have hgW : W.heap[g]? = some (.cells c1 58 (0, 0)) := by rw [hW]; exact hg1
    have hil := insAt_len l (Nat.le_of_lt hk) x
    rw [hn] at hil
    rw [hil]
    refine S.updRow i hi ⟨by rw [List.length_map, hil]; omega, .inr ⟨g, cap, c2, rfl, Nat.zero_le _, setRow_heap W g c1 c2 58 (0, 0) hgW, hn ▸ hroom, hcm, by omega, ?_⟩⟩ ⟨by rw [setRow_os]; exact h1, by rw [setRow_tape]; exact h2, by rw [setRow_output]; exact h3, by rw [size_setRow, hW, hW1, size_setRow]; exact Nat.le_refl _, fun j hj hjn => ?_⟩ (.inl rfl)
    · have hs := shift_list cur.toList (l.map (pk ad)) k n (pk ad x) (by omega) (by simp; omega) (by rw [← ht, hn, Nat.mul_one]) c1.toList (by rw [hc1, ← List.map_drop])
      rw [hc2]
      show ((c1.toList.take k ++ [pk ad x] ++ c1.toList.drop (k + 1))).take ((n + 1) * 1) = _
      rw [Nat.mul_one, hs]
      unfold insAt
      rw [List.map_append, List.map_cons, List.map_take, List.map_drop]
    · have hjg : j ≠ g := fun e => hjn (by rw [e]; rfl)
      rw [setRow_other _ _ _ _ hjg, hW, hW1, setRow_other _ _ _ _ hjg]; rfl
  rw [← hW1] at hcp1
  obtain ⟨W2, hW2⟩ : ∃ W2, W2 = W1.setRow g c2 := ⟨_, rfl⟩
  replace hcp2 := hcp2 W1 rfl
  replace hfin := hfin W1 rfl (by rw [hW1, setRow_os]; rfl) (by rw [hW1, setRow_tape]; rfl) (by rw [hW1, setRow_output]; rfl)
  rw [← hW2] at hcp2 hfin
  rw [hn]
  have HF := Aside0.mk (⟨hcp1, hcp2, hfin⟩ : _ ∧ _ ∧ _)
  clear S hi hgr hcm hcs ht hg hne hlen hk hroom hn hml hdl hc1 hc1s hc2 hc2s hcp1 hcp2 hW1 hW2 hg1 hgx1 hfin hcap
  obtain ⟨hw1, hw2, hi1, hi2, hz2, hz3, hz4, hb0, hb1, hb2, hb3, hb4, hb5, hb6, hb7, hb8, hb9, hb10⟩ := NUM.out
  clear NUM
  have mixed : Try.prog.follows .mixedOrders = true := by kernel_rfl
  go_enter Try.func44, Try.ntmps44
  go_wp2_with (simp only [hov])
  go_region_law_o (refine step_copy_runI rfl _ _ 78 78 rfl (.slice (some ⟨g, k + 1, none⟩) (n + 1 - (k + 1)) (cap - (k + 1))) (.slice (some ⟨g, k, none⟩) (n + 1 - k) (cap - k)) (by simp [Act.eval, Act.put]) (by simp [Act.eval, Act.put]) (HF.out.1 _ _ _) ?_)
  go_wp2_with ((with_reducible refine gate_builtin (b := .copy) (xs := #[.tmp 80, .tmp 81]) rfl ?_); refine wpList_copy_runI W1 rfl (.tmp 80) (.tmp 81) 78 78 rfl (.slice (some ⟨g, k, none⟩) (n + 1 - k) (cap - k)) (.slice (some ⟨gx, 0, none⟩) 1 1) (by simp [Act.eval, Act.put]) (by simp [Act.eval, Act.put]) (HF.out.2.1 3 (cap - k)) ?_)
  go_ret
  exact ⟨_, rfl, HF.out.2.2⟩
end Go.Proofs.Ytfmlpkeaiohknaa.Q
/-! slices.Insert of one knot: a new row; and joined. -/
set_option linter.unusedVariables false
set_option linter.unusedSimpArgs false
namespace Go.Proofs.Ytfmlpkeaiohknaa.Q
open Go Go.RowKit Go.Lib Go.Sort Go.Proofs.YtfmlpkeaiohknaaW.PrintWords Go.Proofs.YtfmlpkeaiohknaaW.PrintLast Go.Proofs.YtfmlpkeaiohknaaW.PrintMore Go.Proofs.YtfmlpkeaiohknaaW.SL
attribute [local go_sem] max2_int min2_int max_two min_two max_three min_three max_four min_four
theorem grow_list {α : Type} (R M : List α) (k n : Nat) (u : α) (hk : k < n) (hM : M.length = n) (hR : R.take k = M.take k) (hRl : n + 1 ≤ R.length) (C : List α) (hC : C = R.take k ++ [u] ++ R.drop (k + 1)) :
    (C.take (k + 1) ++ M.drop k ++ C.drop (k + 1 + (M.drop k).length)).take (n + 1) = M.take k ++ u :: M.drop k := by
  have hA : C.take (k + 1) = M.take k ++ [u] := by
    rw [hC, hR, List.take_left' (by simp; omega)]
  rw [hA, List.take_left' (by simp; omega)]
  simp
set_option maxHeartbeats 4000000 in
set_option maxRecDepth 100000 in
/-- .. in the midst, where there is no room. -/
theorem ins_grow {ad : Int → Nat} {w0 w : World} {Z : Nat → Prop} {L : List Asr} {F : List FA} {l : List Int} {g cap : Nat} {cur : Array Value} (S : Stt w0 Z L F w) (i : Nat) (hi : L[i]? = some (row (.slice (some ⟨g, 0, none⟩) l.length cap) 58 1 l.length (l.map (pk ad))))
    (hgr : w.heap[g]? = some (.cells cur 58 (0, 0))) (hcm : cap ≤ maxLen) (hcs : cur.size = cap * 1) (ht : cur.toList.take (l.length * 1) = l.map (pk ad))
    (x : Int) (gx : Nat) (hg : w.heap[gx]? = some (.cells #[pk ad x] 58 (0, 0))) (hlen : l.length ≤ 1000000) (k : Nat) (hk : k < l.length) (hnc : l.length ≤ cap) (hroom : cap < l.length + 1) :
    Calls Try.prog 44 #[.slice (some ⟨g, 0, none⟩) l.length cap, .int .i64 (k : Int), .slice (some ⟨gx, 0, none⟩) 1 1] w fun e w' => ∃ v', e = .returned v' ∧ Stt w0 Z (L.set i (row v' 58 1 (insAt l k x).length ((insAt l k x).map (pk ad)))) F w' := by
  obtain ⟨i0, hi0, hz⟩ := Option.map_eq_some_iff.1 info58
  simp only [Prod.mk.injEq] at hz
  obtain ⟨hz0, hzs, hzb⟩ := hz
  obtain ⟨n, hn⟩ : ∃ n, l.length = n := ⟨_, rfl⟩
  have hcn : cap = n := by omega
  subst hcn
  rw [hn] at hi ht
  have hw1 : wrap64 ((cap : Int) + 1) = (cap : Int) + 1 := by unfold wrap64; omega
  have hw2 : wrap64 ((k : Int) + 1) = (k : Int) + 1 := by unfold wrap64; omega
  have hw3 : wrap64 ((cap : Int) + 1 - (k : Int)) = (cap : Int) + 1 - (k : Int) := by unfold wrap64; omega
  have hi1 : IntKind.i64.wrap ((cap : Int) + 1) = (cap : Int) + 1 := by rw [IntKind.wrap_i64]; omega
  have hi2 : IntKind.i64.wrap ((k : Int) + 1) = (k : Int) + 1 := by rw [IntKind.wrap_i64]; omega
  have hz2 : ¬ ((k : Int) = (cap : Int)) := by omega
  have hz3 : ¬ (k = cap) := by omega
  have hz4 : ((k : Int) == (cap : Int)) = false := by rw [beq_eq_false_iff_ne]; exact hz2
  have hb0 : (cap : Int) < (cap : Int) + 1 := by omega
  have hb1 : (0 : Int) ≤ (k : Int) + 1 := by omega
  have hb3 : (k : Int) ≤ (cap : Int) + 1 := by omega
  have hb5 : k ≤ cap := by omega
  have hb6 : (k : Int) ≤ (cap : Int) := by omega
  have hb7 : ((k : Int) + 1).toNat = k + 1 := by omega
  have hb8 : ¬ (cap = k) := by omega
  have hb9 : (k : Int) + 1 ≤ (cap : Int) + 1 := by omega
  have hb10 : ((cap : Int) + 1).toNat = cap + 1 := by omega
  have NUM := Aside0.mk (⟨hw1, hw2, hw3, hi1, hi2, hz2, hz3, hz4, hb0, hb1, hb3, hb5, hb6, hb7, hb8, hb9, hb10⟩ : _ ∧ _ ∧ _ ∧ _ ∧ _ ∧ _ ∧ _ ∧ _ ∧ _ ∧ _ ∧ _ ∧ _ ∧ _ ∧ _ ∧ _ ∧ _ ∧ _)
  clear hw1 hw2 hw3 hi1 hi2 hz2 hz3 hz4 hb0 hb1 hb3 hb5 hb6 hb7 hb8 hb9 hb10
  have hgw : g < w.heap.size := (Array.getElem?_eq_some_iff.1 hgr).1
  have hxw : gx < w.heap.size := (Array.getElem?_eq_some_iff.1 hg).1
  obtain ⟨N, hN⟩ : ∃ N, N = w.heap.size := ⟨_, rfl⟩
  have hml : (l.map (pk ad)).length = cap := by simp [hn]
  have hdl : ((l.drop k).map (pk ad)).length = cap - k := by simp [hn]
  have hold : (Builtin.firstCells i0.size k (.slice (some ⟨g, 0, none⟩) k cap)).run Try.prog w.drew = .ok ((l.take k).map (pk ad)).toArray w.drew := by
    rw [hzs]
    exact run_firstCells_some w.drew 1 k ⟨g, 0, none⟩ k cap ((l.take k).map (pk ad)) (by simp; omega) (fun j v hj => by
      rw [show (⟨g, 0, none⟩ : Addr).add j = ⟨g, 0 + j, none⟩ from Addr.add_lit .., Nat.zero_add]
      refine own_at (w := w.drew) hgr ht j v ?_
      rw [List.map_take, List.getElem?_take] at hj
      split at hj
      · exact hj
      · cases hj)
  have hik : k + (cap + 1 - k) = cap + 1 := by omega
  have hkk : (cap : Int) + 1 - (k : Int) = ((cap + 1 - k : Nat) : Int) := by omega
  have hrz : ∀ ty, (Builtin.append_ #[78, 3] ty #[.slice (some ⟨g, 0, none⟩) k cap, .int .i64 ((cap : Int) + 1 - (k : Int))]).run Try.prog w =
      .ok (.slice (some ⟨N, 0, none⟩) (cap + 1) (grownCap w (cap + 1) cap 58)) (w.drew.alloc (.cells (((l.take k).map (pk ad)).toArray ++ Builtin.zeroCells (Value.pointer none).cells (cap + 1 - k) ++ Builtin.zeroCells (Value.pointer none).cells (grownCap w (cap + 1) cap 58 - (cap + 1))) 58)) := fun ty => by
    have h := Lib.run_append_grow_zeros w 78 3 ty 58 i0 _ .i64 .i64 Try.underlying78 Try.underlying3 hi0 hz0 (some ⟨g, 0, none⟩) k cap ((l.take k).map (pk ad)) hold (cap + 1 - k) (by omega) (by omega) (by omega) (by omega) (by rw [hzb]; omega) (by rw [hzb, hik]; exact growslice_fits (Nat.lt_succ_self cap) (by omega))
    rw [hik] at h
    rw [hkk, hN]
    exact h
  obtain ⟨G, hG⟩ : ∃ G, G = grownCap w (cap + 1) cap 58 := ⟨_, rfl⟩
  obtain ⟨ROW, hROW⟩ : ∃ ROW : Array Value, ROW = ((l.take k).map (pk ad)).toArray ++ Builtin.zeroCells (Value.pointer none).cells (cap + 1 - k) ++ Builtin.zeroCells (Value.pointer none).cells (G - (cap + 1)) := ⟨_, rfl⟩
  rw [← hG, ← hROW] at hrz
  have hGn : cap + 1 ≤ G := by rw [hG]; exact grownCap_ge w _ _ _
  have hGm : G ≤ maxLen := by rw [hG]; exact grownCap_le_maxLen w _ _ _ (by unfold maxLen; omega)
  have hG63 : G ≤ 9223372036854775807 := by unfold maxLen at hGm; omega
  have hb2 : ¬ (G = k + 1) := by omega
  have hb4 : ¬ (G = k) := by omega
  have NUG := Aside0.mk (⟨hb2, hb4⟩ : _ ∧ _)
  clear hb2 hb4
  have hRl : ROW.size = G := by rw [hROW]; simp [Builtin.zeroCells, Value.cells]; omega
  have hRt : ROW.toList.take k = (l.map (pk ad)).take k := by
    rw [hROW]
    simp only [Array.toList_append, List.append_assoc]
    rw [List.take_left' (by simp; omega), List.map_take]
  obtain ⟨W1, hW1⟩ : ∃ W1, W1 = w.drew.alloc (.cells ROW 58) := ⟨_, rfl⟩
  have hg1 : W1.heap[N]? = some (.cells ROW 58 (0, 0)) := by rw [hW1, hN]; exact heap_alloc_new w.drew _
  have hgx1 : W1.heap[gx]? = some (.cells #[pk ad x] 58 (0, 0)) := by rw [hW1, heap_alloc_old _ _ (show gx < w.drew.heap.size from hxw)]; exact hg
  have hgr1 : W1.heap[g]? = some (.cells cur 58 (0, 0)) := by rw [hW1, heap_alloc_old _ _ (show g < w.drew.heap.size from hgw)]; exact hgr
  rw [← hW1] at hrz
  obtain ⟨c1, hc1⟩ : ∃ c1, c1 = (ROW.toList.take k ++ [pk ad x] ++ ROW.toList.drop (k + [pk ad x].length)).toArray := ⟨_, rfl⟩
  have hc1s : c1.size = G := by rw [hc1]; simp; omega
  obtain ⟨c2, hc2⟩ : ∃ c2, c2 = (c1.toList.take (k + 1) ++ (l.drop k).map (pk ad) ++ c1.toList.drop (k + 1 + ((l.drop k).map (pk ad)).length)).toArray := ⟨_, rfl⟩
  have hc2s : c2.size = G := by rw [hc2]; simp; omega
  obtain ⟨W2, hW2⟩ : ∃ W2, W2 = W1.setRow N c1 := ⟨_, rfl⟩
  have hcpA : ∀ ty dc, (Builtin.copy_ #[78, 78] ty #[.slice (some ⟨N, k, none⟩) (cap + 1 - k) dc, .slice (some ⟨gx, 0, none⟩) 1 1]).run Try.prog W1 = .ok (goInt [pk ad x].length) W2 := fun ty dc => by
    rw [hW2, hc1]
    exact run_copy_row Try.prog W1 78 78 ty 58 N k (cap + 1 - k) dc ⟨gx, 0, none⟩ 1 1 ROW 58 [pk ad x] Try.underlying78 size58 hg1 (by simp only [List.length_singleton, Nat.min_def]; split <;> omega)
      (fun j v hj => by
        cases j with
        | zero => rw [show (⟨gx, 0, none⟩ : Addr).add 0 = ⟨gx, 0, none⟩ from rfl, blk_cell hgx1 0]; simpa using hj
        | succ j => simp at hj) (by simp; omega) (by intro u hu; rw [List.mem_singleton] at hu; subst hu; rfl)
  have hNg : g ≠ N := by omega
  have hg2 : W2.heap[N]? = some (.cells c1 58 (0, 0)) := by rw [hW2]; exact setRow_heap W1 N ROW c1 58 (0, 0) hg1
  have hgr2 : W2.heap[g]? = some (.cells cur 58 (0, 0)) := by rw [hW2, setRow_other _ _ _ _ hNg]; exact hgr1
  obtain ⟨W3, hW3⟩ : ∃ W3, W3 = W2.drew.setRow N c2 := ⟨_, rfl⟩
  have hcpB : ∀ ty dc sc, (Builtin.copy_ #[78, 78] ty #[.slice (some ⟨N, k + 1, none⟩) (cap + 1 - (k + 1)) dc, .slice (some ⟨g, k, none⟩) (cap - k) sc]).run Try.prog W2.drew = .ok (goInt ((l.drop k).map (pk ad)).length) W3 := fun ty dc sc => by
    rw [hW3, hc2]
    exact run_copy_row Try.prog W2.drew 78 78 ty 58 N (k + 1) (cap + 1 - (k + 1)) dc ⟨g, k, none⟩ (cap - k) sc c1 58 ((l.drop k).map (pk ad)) Try.underlying78 size58 hg2 (by rw [hdl]; simp only [Nat.min_def]; split <;> omega)
      (fun j v hj => by
        rw [show (⟨g, k, none⟩ : Addr).add j = ⟨g, k + j, none⟩ from Addr.add_lit ..]
        exact own_at (w := W2.drew) hgr2 ht (k + j) v (by rw [List.getElem?_map] at hj ⊢; rwa [List.getElem?_drop] at hj)) (by rw [hdl]; omega) (pk_one ad _)
  have hfin : Stt w0 Z (L.set i (row (.slice (some ⟨N, 0, none⟩) (cap + 1) G) 58 1 (insAt l k x).length ((insAt l k x).map (pk ad)))) F W3 := by
    have hil := insAt_len l (Nat.le_of_lt hk) x
    rw [hn] at hil
    rw [hil]
    refine S.updRow i hi ⟨by rw [List.length_map, hil]; omega, .inr ⟨N, G, c2, rfl, Nat.zero_le _, by rw [hW3]; exact setRow_heap W2.drew N c1 c2 58 (0, 0) hg2, hGn, hGm, by omega, ?_⟩⟩ ⟨by rw [hW3, setRow_os, hW2]; show (W1.setRow N c1).os = _; rw [setRow_os, hW1]; rfl, by rw [hW3, setRow_tape, hW2]; show (W1.setRow N c1).tape = _; rw [setRow_tape, hW1]; rfl, by rw [hW3, setRow_output, hW2]; show (W1.setRow N c1).output = _; rw [setRow_output, hW1]; rfl, ?_, fun j hj hjn => ?_⟩ (.inr ⟨N, rfl, by omega⟩)
    · have hs := grow_list ROW.toList (l.map (pk ad)) k cap (pk ad x) (by omega) hml hRt (by simp; omega) c1.toList (by rw [hc1]; rfl)
      rw [hc2]
      show (c1.toList.take (k + 1) ++ (l.drop k).map (pk ad) ++ c1.toList.drop (k + 1 + ((l.drop k).map (pk ad)).length)).take ((cap + 1) * 1) = _
      rw [Nat.mul_one, List.map_drop, hs]
      unfold insAt
      rw [List.map_append, List.map_cons, List.map_take, List.map_drop]
    · rw [hW3, size_setRow, hW2]; show _ ≤ (W1.setRow N c1).heap.size; rw [size_setRow, hW1]; show _ ≤ (w.drew.heap.push _).size; rw [Array.size_push]; exact Nat.le_succ _
    · have hjN : j ≠ N := by omega
      rw [hW3, setRow_other _ _ _ _ hjN, hW2]; show (W1.setRow N c1).heap[j]? = _; rw [setRow_other _ _ _ _ hjN, hW1, heap_alloc_old _ _ (show j < w.drew.heap.size from hj)]; rfl
  have HF := Aside0.mk (⟨hrz, hcpA, hcpB, hfin⟩ : _ ∧ _ ∧ _ ∧ _)
  rw [hn]
  clear S hi hgr hcs ht hg hlen hk hroom hn hml hdl hc1 hc1s hc2 hc2s hrz hcpA hcpB hW1 hW2 hW3 hg1 hgx1 hgr1 hg2 hgr2 hfin hold hik hkk hG hGm hRl hRt hROW hNg hgw hxw hN hi0 hz0 hzs hzb hnc hGn hcm
  obtain ⟨hw1, hw2, hw3, hi1, hi2, hz2, hz3, hz4, hb0, hb1, hb3, hb5, hb6, hb7, hb8, hb9, hb10⟩ := NUM.out
  obtain ⟨hb2, hb4⟩ := NUG.out
  clear NUM NUG
  have mixed : Try.prog.follows .mixedOrders = true := by kernel_rfl
  go_enter Try.func44, Try.ntmps44
  go_wp2_with (first
    | ((with_reducible refine gate_builtin (b := .append) (xs := #[.tmp 34, .tmp 39]) rfl ?_); refine Lib.wpList_append_run w rfl (.tmp 34) (.tmp 39) 78 3 rfl (.slice (some ⟨g, 0, none⟩) k cap) (.int .i64 ((cap : Int) + 1 - (k : Int))) (by simp [Act.eval, Act.put]) (by simp [Act.eval, Act.put, hw3]) _ _ (HF.out.1 78) ?_)
    | ((with_reducible refine gate_builtin (b := .copy) (xs := #[.tmp 43, .tmp 44]) rfl ?_); refine wpList_copy_runI W1 rfl (.tmp 43) (.tmp 44) 78 78 rfl (.slice (some ⟨N, k, none⟩) (cap + 1 - k) (G - k)) (.slice (some ⟨gx, 0, none⟩) 1 1) (by simp [Act.eval, Act.put]) (by simp [Act.eval, Act.put]) (HF.out.2.1 3 (G - k)) ?_))
  go_region_law_o (refine step_copy_runI rfl _ _ 78 78 rfl (.slice (some ⟨N, k + 1, none⟩) (cap + 1 - (k + 1)) (G - (k + 1))) (.slice (some ⟨g, k, none⟩) (cap - k) (cap - k)) (by simp [Act.eval, Act.put]) (by simp [Act.eval, Act.put]) (HF.out.2.2.1 _ _ _) ?_)
  go_wp2
  go_ret
  exact ⟨_, rfl, HF.out.2.2.2⟩
/-- slices.Insert of one knot at k. -/
theorem ins_calls {ad : Int → Nat} {w0 w : World} {Z : Nat → Prop} {L : List Asr} {F : List FA} {v : Value} {l : List Int} (S : Stt w0 Z L F w) (i : Nat) (hi : L[i]? = some (row v 58 1 l.length (l.map (pk ad)))) (x : Int) (gx : Nat) (hg : w.heap[gx]? = some (.cells #[pk ad x] 58 (0, 0))) (hne : v.ownBlock ≠ some gx) (hlen : l.length ≤ 1000000) (k : Nat) (hk : k ≤ l.length) :
    Calls Try.prog 44 #[v, .int .i64 (k : Int), .slice (some ⟨gx, 0, none⟩) 1 1] w fun e w' => ∃ v', e = .returned v' ∧ Stt w0 Z (L.set i (row v' 58 1 (insAt l k x).length ((insAt l k x).map (pk ad)))) F w' := by
  rcases Nat.lt_or_ge k l.length with hlt | hge
  · have ho : w.ownsRow 0 58 1 v l.length (l.map (pk ad)) := S.rowAt i hi
    rcases ho.2 with h | ⟨g, cap, cur, rfl, _, hgr, hnc, hcm, hcs, ht⟩
    · have := h.2; omega
    · by_cases hr : l.length + 1 ≤ cap
      · exact ins_room S i hi hgr hcm hcs ht x gx hg (fun e => hne (by rw [e]; rfl)) hlen k hlt hr
      · exact ins_grow S i hi hgr hcm hcs ht x gx hg hlen k hlt hnc (by omega)
  · obtain rfl : k = l.length := by omega
    exact ins_end S i hi x gx hg hlen
end Go.Proofs.Ytfmlpkeaiohknaa.Q
/-! (*knot).put. -/
set_option linter.unusedVariables false
set_option linter.unusedSimpArgs false
namespace Go.Proofs.Ytfmlpkeaiohknaa.Q
open Go Go.RowKit Go.Lib Go.Sort Go.Proofs.YtfmlpkeaiohknaaW.PrintWords Go.Proofs.YtfmlpkeaiohknaaW.PrintLast Go.Proofs.YtfmlpkeaiohknaaW.PrintMore Go.Proofs.YtfmlpkeaiohknaaW.SL
attribute [local go_sem] max2_int min2_int max_two min_two max_three min_three max_four min_four
def putPos (l : List Int) (after : Int) : Int := if 0 ≤ after then placeOf l after + 1 else 0
set_option maxHeartbeats 4000000 in
set_option maxRecDepth 100000 in
theorem put_neg {w0 w : World} {Z : Nat → Prop} {pre X : List Asr} {F : List FA} {ad : Int → Nat} {g : List Hk} {jx jp : Nat} {hx hp : Hk} (S : Stt w0 Z (GL pre ad g X) F w) (ex : g[jx]? = some hx) (ep : g[jp]? = some hp) (hne : jx ≠ jp)
    (hids : ∀ y ∈ hp.k.kids, ∃ (j : Nat) (h : Hk), g[j]? = some h ∧ h.k.id = y) (hlen : hp.k.kids.length ≤ 1000000) (after : Int) (ha0 : ¬ 0 ≤ after) :
    Calls Try.prog 31 #[pk ad hp.k.id, pk ad hx.k.id, .int .i64 after] w fun e w' => ∃ v', e = .returned (.tuple #[]) ∧ Stt w0 Z (GL pre ad ((g.set jp ⟨hp.k.wKids (insAt hp.k.kids 0 hx.k.id), v'⟩).set jx ⟨hx.k.wPar (some hp.k.id), hx.v⟩) X) F w' := by
  have HI : ∀ W, Stt w0 Z (GL pre ad g X) F W → W.cell? ⟨ad hp.k.id, 6, none⟩ = some hp.v ∧ Calls Try.prog 44 #[hp.v, .int .i64 ((0 : Nat) : Int), .slice (some ⟨W.heap.size, 0, none⟩) 1 1] (W.alloc (.cells #[pk ad hx.k.id] 58)) (fun e w' => ∃ v', e = .returned v' ∧ Stt w0 Z ((GL (blk W.heap.size 58 #[pk ad hx.k.id] :: pre) ad g X).set ((blk W.heap.size 58 #[pk ad hx.k.id] :: pre).length + (2 * jp + 1)) (row v' 58 1 (insAt hp.k.kids 0 hx.k.id).length ((insAt hp.k.kids 0 hx.k.id).map (pk ad)))) F w') := fun W SW => by
    have S1 : Stt w0 Z (GL (blk W.heap.size 58 #[pk ad hx.k.id] :: pre) ad g X) F (W.alloc (.cells #[pk ad hx.k.id] 58)) := SW.box rfl (heap_alloc_new W _) (below_alloc (Below.refl _ _) _)
    refine ⟨by rw [blk_cell (kn_blk SW ep) 6]; rfl, ins_calls S1 _ (GL_row ep) hx.k.id W.heap.size (S1.at_blk 0 rfl) (fun e => S1.st.row_ne_blk (GL_row ep) (j := 0) rfl (by simp) e.symm) hlen 0 (Nat.zero_le _)⟩
  have h60 := (HI w S).1
  generalize insAt hp.k.kids 0 hx.k.id = l at HI ⊢
  have HD := Aside0.mk (⟨HI, S⟩ : _ ∧ _)
  clear HI S
  obtain ⟨a, ha⟩ : ∃ a, ad hx.k.id = a := ⟨_, rfl⟩
  obtain ⟨b, hb⟩ : ∃ b, ad hp.k.id = b := ⟨_, rfl⟩
  have HN := Aside0.mk (⟨trivial, ha, hb, ex, ep, hne⟩ : True ∧ _ ∧ _ ∧ _ ∧ _ ∧ _)
  have hpp := Aside0.mk (show pp ad (some hp.k.id) = .pointer (some ⟨b, 0, none⟩) by show pk ad hp.k.id = _; unfold pk; rw [hb])
  simp only [pk, ha, hb] at HD h60 ⊢
  clear ha hb ex ep hne hids hlen
  go_enter Try.func31, Try.ntmps31
  go_wp2_with ((go_at_call 44; refine (HD.out.1 w HD.out.2).2.mono ?_; rintro e_ w2 ⟨v', rfl, S2⟩; obtain ⟨A2, c2, rfl, _⟩ := own_form (S2.rowAt _ (List.getElem?_set_self (List.getElem?_eq_some_iff.1 (GL_row HN.out.2.2.2.2.1)).1)); obtain ⟨S3, hc6, hf6⟩ := kn_setKids HN.out.2.2.2.2.1 S2; rw [HN.out.2.2.1] at S3 hc6 hf6; have ex3 := set_comm2 (h2 := ⟨hp.k.wKids l, .slice A2 l.length c2⟩) HN.out.2.2.2.2.2 HN.out.2.2.2.1; have hb3 := kn_blk S3 ex3; rw [HN.out.2.1] at hb3; have hx5b := blk_cell hb3 5; have hx5f := blk_frozen hb3 5; have hx5c := hx5b.trans (show (knB ad hx.k hx.v)[5]? = some (pp ad hx.k.par) from rfl); have S4 := kn_setPar S3 ex3 (some hp.k.id); rw [HN.out.2.1, hpp.out] at S4; replace S4 := Aside0.mk S4; clear hb3 hx5b S3 S2 ex3))
  refine bodyPost_end (results_none rfl _ _ _) rfl ?_
  exact ⟨_, rfl, Stt.drop (a := blk w.heap.size 58 #[.pointer (some ⟨a, 0, none⟩)]) (l := GL pre ad _ X) S4.out⟩
set_option maxHeartbeats 4000000 in
set_option maxRecDepth 100000 in
theorem put_pos {w0 w : World} {Z : Nat → Prop} {pre X : List Asr} {F : List FA} {ad : Int → Nat} {g : List Hk} {jx jp : Nat} {hx hp : Hk} (S : Stt w0 Z (GL pre ad g X) F w) (ex : g[jx]? = some hx) (ep : g[jp]? = some hp) (hne : jx ≠ jp)
    (hids : ∀ y ∈ hp.k.kids, ∃ (j : Nat) (h : Hk), g[j]? = some h ∧ h.k.id = y) (hlen : hp.k.kids.length ≤ 1000000) (after : Int) (k : Nat) (hkl : k ≤ hp.k.kids.length) (ha0 : 0 ≤ after) (hk : placeOf hp.k.kids after = (k : Int) - 1) :
    Calls Try.prog 31 #[pk ad hp.k.id, pk ad hx.k.id, .int .i64 after] w fun e w' => ∃ v', e = .returned (.tuple #[]) ∧ Stt w0 Z (GL pre ad ((g.set jp ⟨hp.k.wKids (insAt hp.k.kids k hx.k.id), v'⟩).set jx ⟨hx.k.wPar (some hp.k.id), hx.v⟩) X) F w' := by
  have HI : ∀ W, Stt w0 Z (GL pre ad g X) F W → W.cell? ⟨ad hp.k.id, 6, none⟩ = some hp.v ∧ Calls Try.prog 44 #[hp.v, .int .i64 ((k : Nat) : Int), .slice (some ⟨W.heap.size, 0, none⟩) 1 1] (W.alloc (.cells #[pk ad hx.k.id] 58)) (fun e w' => ∃ v', e = .returned v' ∧ Stt w0 Z ((GL (blk W.heap.size 58 #[pk ad hx.k.id] :: pre) ad g X).set ((blk W.heap.size 58 #[pk ad hx.k.id] :: pre).length + (2 * jp + 1)) (row v' 58 1 (insAt hp.k.kids k hx.k.id).length ((insAt hp.k.kids k hx.k.id).map (pk ad)))) F w') := fun W SW => by
    have S1 : Stt w0 Z (GL (blk W.heap.size 58 #[pk ad hx.k.id] :: pre) ad g X) F (W.alloc (.cells #[pk ad hx.k.id] 58)) := SW.box rfl (heap_alloc_new W _) (below_alloc (Below.refl _ _) _)
    refine ⟨by rw [blk_cell (kn_blk SW ep) 6]; rfl, ins_calls S1 _ (GL_row ep) hx.k.id W.heap.size (S1.at_blk 0 rfl) (fun e => S1.st.row_ne_blk (GL_row ep) (j := 0) rfl (by simp) e.symm) hlen k hkl⟩
  have hP := place_calls ad hp.k hp.v after w (kn_blk S ep) (kn_row S ep) (fun y hy => by obtain ⟨jy, hy', e1, e2⟩ := hids y hy; rw [← e2, blk_cell (kn_blk S e1) 0]; rfl)
  rw [hk] at hP
  have hk63 : (k : Int) ≤ 1000000 := by omega
  have hwk : wrap64 (k : Int) = (k : Int) := by unfold wrap64; omega
  have hwk2 : wrap64 ((k : Int) - 1 + 1) = (k : Int) := by unfold wrap64; omega
  have HP := Aside0.mk hP
  clear hP hk hk63 hkl
  generalize insAt hp.k.kids k hx.k.id = l at HI ⊢
  have HD := Aside0.mk (⟨HI, S⟩ : _ ∧ _)
  clear HI S
  obtain ⟨a, ha⟩ : ∃ a, ad hx.k.id = a := ⟨_, rfl⟩
  obtain ⟨b, hb⟩ : ∃ b, ad hp.k.id = b := ⟨_, rfl⟩
  have HN := Aside0.mk (⟨trivial, ha, hb, ex, ep, hne⟩ : True ∧ _ ∧ _ ∧ _ ∧ _ ∧ _)
  have hpp := Aside0.mk (show pp ad (some hp.k.id) = .pointer (some ⟨b, 0, none⟩) by show pk ad hp.k.id = _; unfold pk; rw [hb])
  simp only [pk, ha, hb] at HD HP ⊢
  clear ha hb ex ep hne hids hlen
  go_enter Try.func31, Try.ntmps31
  go_wp2_with (first | (go_at_call 29; refine HP.out.mono ?_; rintro e_ w1 ⟨rfl, hB⟩; have SW := HD.out.2.keep hB; have h60 := (HD.out.1 w1 SW).1; replace SW := Aside0.mk SW; clear hB) | (go_at_call 44; refine (HD.out.1 w1 SW.out).2.mono ?_; rintro e_ w2 ⟨v', rfl, S2⟩; obtain ⟨A2, c2, rfl, _⟩ := own_form (S2.rowAt _ (List.getElem?_set_self (List.getElem?_eq_some_iff.1 (GL_row HN.out.2.2.2.2.1)).1)); obtain ⟨S3, hc6, hf6⟩ := kn_setKids HN.out.2.2.2.2.1 S2; rw [HN.out.2.2.1] at S3 hc6 hf6; have ex3 := set_comm2 (h2 := ⟨hp.k.wKids l, .slice A2 l.length c2⟩) HN.out.2.2.2.2.2 HN.out.2.2.2.1; have hb3 := kn_blk S3 ex3; rw [HN.out.2.1] at hb3; have hx5b := blk_cell hb3 5; have hx5f := blk_frozen hb3 5; have hx5c := hx5b.trans (show (knB ad hx.k hx.v)[5]? = some (pp ad hx.k.par) from rfl); have S4 := kn_setPar S3 ex3 (some hp.k.id); rw [HN.out.2.1, hpp.out] at S4; replace S4 := Aside0.mk S4; clear hb3 hx5b S3 S2 ex3))
  refine bodyPost_end (results_none rfl _ _ _) rfl ?_
  exact ⟨_, rfl, Stt.drop (a := blk w1.heap.size 58 #[.pointer (some ⟨a, 0, none⟩)]) (l := GL pre ad _ X) S4.out⟩
/-- (*knot).put -/
theorem put_calls {w0 w : World} {Z : Nat → Prop} {pre X : List Asr} {F : List FA} {ad : Int → Nat} {g : List Hk} {jx jp : Nat} {hx hp : Hk} (S : Stt w0 Z (GL pre ad g X) F w) (ex : g[jx]? = some hx) (ep : g[jp]? = some hp) (hne : jx ≠ jp)
    (hids : ∀ y ∈ hp.k.kids, ∃ (j : Nat) (h : Hk), g[j]? = some h ∧ h.k.id = y) (hlen : hp.k.kids.length ≤ 1000000) (after : Int) :
    Calls Try.prog 31 #[pk ad hp.k.id, pk ad hx.k.id, .int .i64 after] w fun e w' => ∃ v', e = .returned (.tuple #[]) ∧ Stt w0 Z (GL pre ad ((g.set jp ⟨hp.k.wKids (insAt hp.k.kids (putPos hp.k.kids after).toNat hx.k.id), v'⟩).set jx ⟨hx.k.wPar (some hp.k.id), hx.v⟩) X) F w' := by
  have hB := placeOf_bound hp.k.kids after
  unfold putPos
  by_cases h : 0 ≤ after
  · rw [if_pos h]
    exact put_pos S ex ep hne hids hlen after _ (by omega) h (by omega)
  · rw [if_neg h]
    exact put_neg S ex ep hne hids hlen after h
end Go.Proofs.Ytfmlpkeaiohknaa.Q
/-! (*grove).do: its head. -/
set_option linter.unusedVariables false
set_option linter.unusedSimpArgs false
namespace Go.Proofs.Ytfmlpkeaiohknaa.Q
open Go Go.RowKit Go.Lib Go.Sort Go.Proofs.YtfmlpkeaiohknaaW.PrintWords Go.Proofs.YtfmlpkeaiohknaaW.PrintLast Go.Proofs.YtfmlpkeaiohknaaW.PrintMore Go.Proofs.YtfmlpkeaiohknaaW.SL
attribute [local go_sem] max2_int min2_int max_two min_two max_three min_three max_four min_four
theorem stt_drew {w0 w : World} {Z : Nat → Prop} {L : List Asr} {F : List FA} (S : Stt w0 Z L F w) : Stt w0 Z L F w.drew := S.keep ⟨rfl, rfl, rfl, Nat.le_refl _, fun _ _ => rfl⟩
set_option maxHeartbeats 4000000 in
set_option maxRecDepth 100000 in
/-- Another text, where the parent's name is not in the grove. -/
theorem do_text0 {w0 w : World} {Z : Nat → Prop} {pre X : List Asr} {F : List FA} {ad : Int → Nat} {g : List Hk} {gb bm m : Nat} {ids : List Int} (S : Stt w0 Z (GL (blk gb 61 #[.map (some bm)] :: mpK bm m ad ids :: pre) ad g X) F w)
    (id pa af ki : Int) (tx tr : ByteArray) (h1 : in64 id) (h2 : in64 pa) (hid : id ∈ ids) (hpa : pa ∉ ids) {jx : Nat} {hx : Hk} (ex : g[jx]? = some hx) (hxi : hx.k.id = id) :
    Calls Try.prog 21 #[.pointer (some ⟨gb, 0, none⟩), .agg #[.int .i64 3, .int .i64 id, .int .i64 pa, .int .i64 af, .int .i64 ki, .string tx, .string tr]] w fun e w' => e = .returned (.bool true) ∧ Stt w0 Z (GL (blk gb 61 #[.map (some bm)] :: mpK bm m ad ids :: pre) ad (g.set jx ⟨hx.k.wText tx tr, hx.v⟩) X) F w' := by
  obtain ⟨EC, hEC⟩ : ∃ EC : Array Value, EC = #[.int .i64 3, .int .i64 id, .int .i64 pa, .int .i64 af, .int .i64 ki, .string tx, .string tr] := ⟨_, rfl⟩
  have S1 : Stt w0 Z (GL (blk w.heap.size 54 EC :: blk gb 61 #[.map (some bm)] :: mpK bm m ad ids :: pre) ad g X) F (w.alloc (.cells EC 54)) := S.box rfl (heap_alloc_new w _) (below_alloc (Below.refl _ _) _)
  have l1 := map_ok (stt_drew S1) 2 rfl h1
  have l2 := map_ok (stt_drew (stt_drew S1)) 2 rfl h2
  have hgb1 : (w.alloc (.cells EC 54)).cell? ⟨gb, 0, none⟩ = some (.map (some bm)) := (blk_cell (S1.at_blk 1 rfl) 0).trans rfl
  have hxb := kn_blk S1 ex
  have hx2 := (blk_cell hxb 2).trans (show (knB ad hx.k hx.v)[2]? = some (.string hx.k.text) from rfl)
  have hx3 := (blk_cell hxb 3).trans (show (knB ad hx.k hx.v)[3]? = some (.string hx.k.trail) from rfl)
  have hf2 := blk_frozen hxb 2
  have hf3 := blk_frozen hxb 3
  have SF := Aside0.mk (kn_setText S1 ex tx tr)
  obtain ⟨a, ha⟩ : ∃ a, ad id = a := ⟨_, rfl⟩
  rw [hxi, ha] at hx2 hx3 hf2 hf3 SF
  rw [if_pos hid, decide_eq_true hid] at l1
  rw [if_neg hpa, decide_eq_false hpa] at l2
  simp only [pk, ha] at l1
  rw [hEC] at l1 l2 hgb1 hx2 hx3 hf2 hf3 SF
  clear S S1 hxb h1 h2 hid hpa ex hxi ha hEC EC
  have mixed : Try.prog.follows .mixedOrders = true := by kernel_rfl
  go_enter Try.func21, Try.ntmps21
  go_wp2
  go_region_o
  go_wp2
  go_region_o
  go_wp2
  go_region_o
  go_wp2
  go_ret
  exact ⟨rfl, stt_drew (stt_drew (stt_drew (Stt.drop (l := GL (blk gb 61 #[.map (some bm)] :: mpK bm m ad ids :: pre) ad _ X) SF.out)))⟩
set_option maxHeartbeats 4000000 in
set_option maxRecDepth 100000 in
/-- Another text, where the parent's name is in the grove, at the front. -/
theorem do_text1 {w0 w : World} {Z : Nat → Prop} {pre X : List Asr} {F : List FA} {ad : Int → Nat} {g : List Hk} {gb bm m : Nat} {ids : List Int} (S : Stt w0 Z (GL (blk gb 61 #[.map (some bm)] :: mpK bm m ad ids :: pre) ad g X) F w)
    (id pa af ki : Int) (tx tr : ByteArray) (h1 : in64 id) (h2 : in64 pa) (hid : id ∈ ids) (hpa : pa ∈ ids) (haf : af = -1) {jx : Nat} {hx : Hk} (ex : g[jx]? = some hx) (hxi : hx.k.id = id) :
    Calls Try.prog 21 #[.pointer (some ⟨gb, 0, none⟩), .agg #[.int .i64 3, .int .i64 id, .int .i64 pa, .int .i64 af, .int .i64 ki, .string tx, .string tr]] w fun e w' => e = .returned (.bool true) ∧ Stt w0 Z (GL (blk gb 61 #[.map (some bm)] :: mpK bm m ad ids :: pre) ad (g.set jx ⟨hx.k.wText tx tr, hx.v⟩) X) F w' := by
  obtain ⟨EC, hEC⟩ : ∃ EC : Array Value, EC = #[.int .i64 3, .int .i64 id, .int .i64 pa, .int .i64 af, .int .i64 ki, .string tx, .string tr] := ⟨_, rfl⟩
  have S1 : Stt w0 Z (GL (blk w.heap.size 54 EC :: blk gb 61 #[.map (some bm)] :: mpK bm m ad ids :: pre) ad g X) F (w.alloc (.cells EC 54)) := S.box rfl (heap_alloc_new w _) (below_alloc (Below.refl _ _) _)
  have l1 := map_ok (stt_drew S1) 2 rfl h1
  have l2 := map_ok (stt_drew (stt_drew S1)) 2 rfl h2
  have hgb1 : (w.alloc (.cells EC 54)).cell? ⟨gb, 0, none⟩ = some (.map (some bm)) := (blk_cell (S1.at_blk 1 rfl) 0).trans rfl
  have hxb := kn_blk S1 ex
  have hx2 := (blk_cell hxb 2).trans (show (knB ad hx.k hx.v)[2]? = some (.string hx.k.text) from rfl)
  have hx3 := (blk_cell hxb 3).trans (show (knB ad hx.k hx.v)[3]? = some (.string hx.k.trail) from rfl)
  have hf2 := blk_frozen hxb 2
  have hf3 := blk_frozen hxb 3
  have SF := Aside0.mk (kn_setText S1 ex tx tr)
  obtain ⟨a, ha⟩ : ∃ a, ad id = a := ⟨_, rfl⟩
  rw [hxi, ha] at hx2 hx3 hf2 hf3 SF
  rw [if_pos hid, decide_eq_true hid] at l1
  subst haf
  rw [if_pos hpa, decide_eq_true hpa] at l2
  obtain ⟨c, hc⟩ : ∃ c, ad pa = c := ⟨_, rfl⟩
  simp only [pk, ha] at l1
  simp only [pk, hc] at l2
  rw [hEC] at l1 l2 hgb1 hx2 hx3 hf2 hf3 SF
  clear hc S S1 hxb h1 h2 hid hpa ex hxi ha hEC EC
  have mixed : Try.prog.follows .mixedOrders = true := by kernel_rfl
  go_enter Try.func21, Try.ntmps21
  go_wp2
  go_region_o
  go_wp2
  go_region_o
  go_wp2
  go_region_o
  go_wp2
  go_ret
  exact ⟨rfl, stt_drew (stt_drew (stt_drew (Stt.drop (l := GL (blk gb 61 #[.map (some bm)] :: mpK bm m ad ids :: pre) ad _ X) SF.out)))⟩
set_option maxHeartbeats 4000000 in
set_option maxRecDepth 100000 in
/-- Another text, where the parent's name is in the grove. -/
theorem do_text2 {w0 w : World} {Z : Nat → Prop} {pre X : List Asr} {F : List FA} {ad : Int → Nat} {g : List Hk} {gb bm m : Nat} {ids : List Int} (S : Stt w0 Z (GL (blk gb 61 #[.map (some bm)] :: mpK bm m ad ids :: pre) ad g X) F w)
    (id pa af ki : Int) (tx tr : ByteArray) (h1 : in64 id) (h2 : in64 pa) (hid : id ∈ ids) (hpa : pa ∈ ids) (haf : ¬ af = -1) {jp : Nat} {hp : Hk} (ep : g[jp]? = some hp) (hpi : hp.k.id = pa) (hids : ∀ y ∈ hp.k.kids, ∃ (j : Nat) (h : Hk), g[j]? = some h ∧ h.k.id = y) {jx : Nat} {hx : Hk} (ex : g[jx]? = some hx) (hxi : hx.k.id = id) :
    Calls Try.prog 21 #[.pointer (some ⟨gb, 0, none⟩), .agg #[.int .i64 3, .int .i64 id, .int .i64 pa, .int .i64 af, .int .i64 ki, .string tx, .string tr]] w fun e w' => e = .returned (.bool true) ∧ Stt w0 Z (GL (blk gb 61 #[.map (some bm)] :: mpK bm m ad ids :: pre) ad (g.set jx ⟨hx.k.wText tx tr, hx.v⟩) X) F w' := by
  obtain ⟨EC, hEC⟩ : ∃ EC : Array Value, EC = #[.int .i64 3, .int .i64 id, .int .i64 pa, .int .i64 af, .int .i64 ki, .string tx, .string tr] := ⟨_, rfl⟩
  have S1 : Stt w0 Z (GL (blk w.heap.size 54 EC :: blk gb 61 #[.map (some bm)] :: mpK bm m ad ids :: pre) ad g X) F (w.alloc (.cells EC 54)) := S.box rfl (heap_alloc_new w _) (below_alloc (Below.refl _ _) _)
  have l1 := map_ok (stt_drew S1) 2 rfl h1
  have l2 := map_ok (stt_drew (stt_drew S1)) 2 rfl h2
  have hgb1 : (w.alloc (.cells EC 54)).cell? ⟨gb, 0, none⟩ = some (.map (some bm)) := (blk_cell (S1.at_blk 1 rfl) 0).trans rfl
  have SP := stt_drew (stt_drew S1)
  have HP := place_calls ad hp.k hp.v af _ (kn_blk SP ep) (kn_row SP ep) (fun y hy => by obtain ⟨jy, hy', e1, e2⟩ := hids y hy; rw [← e2, blk_cell (kn_blk SP e1) 0]; rfl)
  obtain ⟨R, hR⟩ : ∃ R, placeOf hp.k.kids af = R := ⟨_, rfl⟩
  rw [hR] at HP
  obtain ⟨a, ha⟩ : ∃ a, ad id = a := ⟨_, rfl⟩
  obtain ⟨c, hc⟩ : ∃ c, ad pa = c := ⟨_, rfl⟩
  have HX := Aside0.mk (⟨hxi, ha, SP, ex, hEC⟩ : _ ∧ _ ∧ _ ∧ _ ∧ _)
  rw [if_pos hid, decide_eq_true hid] at l1
  rw [if_pos hpa, decide_eq_true hpa] at l2
  simp only [pk, ha] at l1
  simp only [pk, hc] at l2
  rw [hpi] at HP
  simp only [pk, hc] at HP
  replace HP := Aside0.mk HP
  rw [hEC] at l1 l2 hgb1 HP HX
  clear hc S S1 SP h1 h2 hid hpa ex ep hids hpi hR hxi ha hEC EC
  have mixed : Try.prog.follows .mixedOrders = true := by kernel_rfl
  go_enter Try.func21, Try.ntmps21
  go_wp2
  go_region_o
  go_wp2
  go_region_o
  go_wp2_with (go_at_call 29; refine HP.out.mono ?_; rintro e_ w1 ⟨rfl, hB⟩; have S2 := HX.out.2.2.1.keep hB; have q0 := (blk_cell (S2.at_blk 0 rfl) 0).trans rfl; have q5 := (blk_cell (S2.at_blk 0 rfl) 5).trans rfl; have q6 := (blk_cell (S2.at_blk 0 rfl) 6).trans rfl; have hxb := kn_blk S2 HX.out.2.2.2.1; rw [HX.out.1, HX.out.2.1] at hxb; have hx2 := (blk_cell hxb 2).trans (show (knB ad hx.k hx.v)[2]? = some (.string hx.k.text) from rfl); have hx3 := (blk_cell hxb 3).trans (show (knB ad hx.k hx.v)[3]? = some (.string hx.k.trail) from rfl); have hf2 := blk_frozen hxb 2; have hf3 := blk_frozen hxb 3; have SF := kn_setText S2 HX.out.2.2.2.1 tx tr; rw [HX.out.1, HX.out.2.1] at SF; replace SF := Aside0.mk SF; clear hxb S2 hB)
  go_region_o
  go_wp2
  go_ret
  exact ⟨rfl, stt_drew (Stt.drop (l := GL (blk gb 61 #[.map (some bm)] :: mpK bm m ad ids :: pre) ad _ X) SF.out)⟩
end Go.Proofs.Ytfmlpkeaiohknaa.Q
/-! (*grove).do: no such knot. -/
set_option linter.unusedVariables false
set_option linter.unusedSimpArgs false
namespace Go.Proofs.Ytfmlpkeaiohknaa.Q
open Go Go.RowKit Go.Lib Go.Sort Go.Proofs.YtfmlpkeaiohknaaW.PrintWords Go.Proofs.YtfmlpkeaiohknaaW.PrintLast Go.Proofs.YtfmlpkeaiohknaaW.PrintMore Go.Proofs.YtfmlpkeaiohknaaW.SL
attribute [local go_sem] max2_int min2_int max_two min_two max_three min_three max_four min_four
set_option maxHeartbeats 4000000 in
set_option maxRecDepth 100000 in
theorem do_none20 {w0 w : World} {Z : Nat → Prop} {pre X : List Asr} {F : List FA} {ad : Int → Nat} {g : List Hk} {gb bm m : Nat} {ids : List Int} (S : Stt w0 Z (GL (blk gb 61 #[.map (some bm)] :: mpK bm m ad ids :: pre) ad g X) F w)
    (id pa af ki : Int) (tx tr : ByteArray) (h1 : in64 id) (h2 : in64 pa) (hid : id ∉ ids) (hpa : pa ∉ ids) :
    Calls Try.prog 21 #[.pointer (some ⟨gb, 0, none⟩), .agg #[.int .i64 2, .int .i64 id, .int .i64 pa, .int .i64 af, .int .i64 ki, .string tx, .string tr]] w fun e w' => e = .returned (.bool false) ∧ Stt w0 Z (GL (blk gb 61 #[.map (some bm)] :: mpK bm m ad ids :: pre) ad g X) F w' := by
  obtain ⟨EC, hEC⟩ : ∃ EC : Array Value, EC = #[.int .i64 2, .int .i64 id, .int .i64 pa, .int .i64 af, .int .i64 ki, .string tx, .string tr] := ⟨_, rfl⟩
  have S1 : Stt w0 Z (GL (blk w.heap.size 54 EC :: blk gb 61 #[.map (some bm)] :: mpK bm m ad ids :: pre) ad g X) F (w.alloc (.cells EC 54)) := S.box rfl (heap_alloc_new w _) (below_alloc (Below.refl _ _) _)
  have l1 := map_ok (stt_drew S1) 2 rfl h1
  have l2 := map_ok (stt_drew (stt_drew S1)) 2 rfl h2
  have hgb1 : (w.alloc (.cells EC 54)).cell? ⟨gb, 0, none⟩ = some (.map (some bm)) := (blk_cell (S1.at_blk 1 rfl) 0).trans rfl
  have SP := stt_drew (stt_drew S1)
  rw [if_neg hid, decide_eq_false hid] at l1
  rw [if_neg hpa, decide_eq_false hpa] at l2
  rw [hEC] at l1 l2 hgb1 SP
  replace SP := Aside0.mk SP
  clear S S1 h1 h2 hid hpa hEC EC
  have mixed : Try.prog.follows .mixedOrders = true := by kernel_rfl
  go_enter Try.func21, Try.ntmps21
  go_wp2
  go_region_o
  go_wp2
  go_region_o
  go_wp2
  go_ret
  exact ⟨rfl, Stt.drop (l := GL (blk gb 61 #[.map (some bm)] :: mpK bm m ad ids :: pre) ad _ X) SP.out⟩
set_option maxHeartbeats 4000000 in
set_option maxRecDepth 100000 in
theorem do_none21 {w0 w : World} {Z : Nat → Prop} {pre X : List Asr} {F : List FA} {ad : Int → Nat} {g : List Hk} {gb bm m : Nat} {ids : List Int} (S : Stt w0 Z (GL (blk gb 61 #[.map (some bm)] :: mpK bm m ad ids :: pre) ad g X) F w)
    (id pa af ki : Int) (tx tr : ByteArray) (h1 : in64 id) (h2 : in64 pa) (hid : id ∉ ids) (hpa : pa ∈ ids) (haf : af = -1) :
    Calls Try.prog 21 #[.pointer (some ⟨gb, 0, none⟩), .agg #[.int .i64 2, .int .i64 id, .int .i64 pa, .int .i64 af, .int .i64 ki, .string tx, .string tr]] w fun e w' => e = .returned (.bool false) ∧ Stt w0 Z (GL (blk gb 61 #[.map (some bm)] :: mpK bm m ad ids :: pre) ad g X) F w' := by
  obtain ⟨EC, hEC⟩ : ∃ EC : Array Value, EC = #[.int .i64 2, .int .i64 id, .int .i64 pa, .int .i64 af, .int .i64 ki, .string tx, .string tr] := ⟨_, rfl⟩
  have S1 : Stt w0 Z (GL (blk w.heap.size 54 EC :: blk gb 61 #[.map (some bm)] :: mpK bm m ad ids :: pre) ad g X) F (w.alloc (.cells EC 54)) := S.box rfl (heap_alloc_new w _) (below_alloc (Below.refl _ _) _)
  have l1 := map_ok (stt_drew S1) 2 rfl h1
  have l2 := map_ok (stt_drew (stt_drew S1)) 2 rfl h2
  have hgb1 : (w.alloc (.cells EC 54)).cell? ⟨gb, 0, none⟩ = some (.map (some bm)) := (blk_cell (S1.at_blk 1 rfl) 0).trans rfl
  have SP := stt_drew (stt_drew S1)
  rw [if_neg hid, decide_eq_false hid] at l1
  subst haf
  rw [if_pos hpa, decide_eq_true hpa] at l2
  obtain ⟨c, hc⟩ : ∃ c, ad pa = c := ⟨_, rfl⟩
  simp only [pk, hc] at l2
  rw [hEC] at l1 l2 hgb1 SP
  replace SP := Aside0.mk SP
  clear hc S S1 h1 h2 hid hpa hEC EC
  have mixed : Try.prog.follows .mixedOrders = true := by kernel_rfl
  go_enter Try.func21, Try.ntmps21
  go_wp2
  go_region_o
  go_wp2
  go_region_o
  go_wp2
  go_ret
  exact ⟨rfl, Stt.drop (l := GL (blk gb 61 #[.map (some bm)] :: mpK bm m ad ids :: pre) ad _ X) SP.out⟩
set_option maxHeartbeats 4000000 in
set_option maxRecDepth 100000 in
theorem do_none22 {w0 w : World} {Z : Nat → Prop} {pre X : List Asr} {F : List FA} {ad : Int → Nat} {g : List Hk} {gb bm m : Nat} {ids : List Int} (S : Stt w0 Z (GL (blk gb 61 #[.map (some bm)] :: mpK bm m ad ids :: pre) ad g X) F w)
    (id pa af ki : Int) (tx tr : ByteArray) (h1 : in64 id) (h2 : in64 pa) (hid : id ∉ ids) (hpa : pa ∈ ids) (haf : ¬ af = -1) {jp : Nat} {hp : Hk} (ep : g[jp]? = some hp) (hpi : hp.k.id = pa) (hids : ∀ y ∈ hp.k.kids, ∃ (j : Nat) (h : Hk), g[j]? = some h ∧ h.k.id = y) :
    Calls Try.prog 21 #[.pointer (some ⟨gb, 0, none⟩), .agg #[.int .i64 2, .int .i64 id, .int .i64 pa, .int .i64 af, .int .i64 ki, .string tx, .string tr]] w fun e w' => e = .returned (.bool false) ∧ Stt w0 Z (GL (blk gb 61 #[.map (some bm)] :: mpK bm m ad ids :: pre) ad g X) F w' := by
  obtain ⟨EC, hEC⟩ : ∃ EC : Array Value, EC = #[.int .i64 2, .int .i64 id, .int .i64 pa, .int .i64 af, .int .i64 ki, .string tx, .string tr] := ⟨_, rfl⟩
  have S1 : Stt w0 Z (GL (blk w.heap.size 54 EC :: blk gb 61 #[.map (some bm)] :: mpK bm m ad ids :: pre) ad g X) F (w.alloc (.cells EC 54)) := S.box rfl (heap_alloc_new w _) (below_alloc (Below.refl _ _) _)
  have l1 := map_ok (stt_drew S1) 2 rfl h1
  have l2 := map_ok (stt_drew (stt_drew S1)) 2 rfl h2
  have hgb1 : (w.alloc (.cells EC 54)).cell? ⟨gb, 0, none⟩ = some (.map (some bm)) := (blk_cell (S1.at_blk 1 rfl) 0).trans rfl
  have SP := stt_drew (stt_drew S1)
  rw [if_neg hid, decide_eq_false hid] at l1
  have HP := place_calls ad hp.k hp.v af _ (kn_blk SP ep) (kn_row SP ep) (fun y hy => by obtain ⟨jy, hy', e1, e2⟩ := hids y hy; rw [← e2, blk_cell (kn_blk SP e1) 0]; rfl)
  obtain ⟨R, hR⟩ : ∃ R, placeOf hp.k.kids af = R := ⟨_, rfl⟩
  rw [hR] at HP
  obtain ⟨c, hc⟩ : ∃ c, ad pa = c := ⟨_, rfl⟩
  rw [if_pos hpa, decide_eq_true hpa] at l2
  simp only [pk, hc] at l2
  rw [hpi] at HP
  simp only [pk, hc] at HP
  replace HP := Aside0.mk HP
  rw [hEC] at l1 l2 hgb1 HP SP
  replace SP := Aside0.mk SP
  clear hc S S1 h1 h2 hid hpa ep hids hpi hR hEC EC
  have mixed : Try.prog.follows .mixedOrders = true := by kernel_rfl
  go_enter Try.func21, Try.ntmps21
  go_wp2
  go_region_o
  go_wp2
  go_region_o
  go_wp2_with (go_at_call 29; refine HP.out.mono ?_; rintro e_ w1 ⟨rfl, hB⟩; have S2 := SP.out.keep hB; have q0 := (blk_cell (S2.at_blk 0 rfl) 0).trans rfl; replace S2 := Aside0.mk S2; clear hB)
  go_ret
  exact ⟨rfl, Stt.drop (l := GL (blk gb 61 #[.map (some bm)] :: mpK bm m ad ids :: pre) ad _ X) S2.out⟩
set_option maxHeartbeats 4000000 in
set_option maxRecDepth 100000 in
theorem do_none30 {w0 w : World} {Z : Nat → Prop} {pre X : List Asr} {F : List FA} {ad : Int → Nat} {g : List Hk} {gb bm m : Nat} {ids : List Int} (S : Stt w0 Z (GL (blk gb 61 #[.map (some bm)] :: mpK bm m ad ids :: pre) ad g X) F w)
    (id pa af ki : Int) (tx tr : ByteArray) (h1 : in64 id) (h2 : in64 pa) (hid : id ∉ ids) (hpa : pa ∉ ids) :
    Calls Try.prog 21 #[.pointer (some ⟨gb, 0, none⟩), .agg #[.int .i64 3, .int .i64 id, .int .i64 pa, .int .i64 af, .int .i64 ki, .string tx, .string tr]] w fun e w' => e = .returned (.bool false) ∧ Stt w0 Z (GL (blk gb 61 #[.map (some bm)] :: mpK bm m ad ids :: pre) ad g X) F w' := by
  obtain ⟨EC, hEC⟩ : ∃ EC : Array Value, EC = #[.int .i64 3, .int .i64 id, .int .i64 pa, .int .i64 af, .int .i64 ki, .string tx, .string tr] := ⟨_, rfl⟩
  have S1 : Stt w0 Z (GL (blk w.heap.size 54 EC :: blk gb 61 #[.map (some bm)] :: mpK bm m ad ids :: pre) ad g X) F (w.alloc (.cells EC 54)) := S.box rfl (heap_alloc_new w _) (below_alloc (Below.refl _ _) _)
  have l1 := map_ok (stt_drew S1) 2 rfl h1
  have l2 := map_ok (stt_drew (stt_drew S1)) 2 rfl h2
  have hgb1 : (w.alloc (.cells EC 54)).cell? ⟨gb, 0, none⟩ = some (.map (some bm)) := (blk_cell (S1.at_blk 1 rfl) 0).trans rfl
  have SP := stt_drew (stt_drew S1)
  rw [if_neg hid, decide_eq_false hid] at l1
  rw [if_neg hpa, decide_eq_false hpa] at l2
  rw [hEC] at l1 l2 hgb1 SP
  replace SP := Aside0.mk SP
  clear S S1 h1 h2 hid hpa hEC EC
  have mixed : Try.prog.follows .mixedOrders = true := by kernel_rfl
  go_enter Try.func21, Try.ntmps21
  go_wp2
  go_region_o
  go_wp2
  go_region_o
  go_wp2
  go_ret
  exact ⟨rfl, Stt.drop (l := GL (blk gb 61 #[.map (some bm)] :: mpK bm m ad ids :: pre) ad _ X) SP.out⟩
set_option maxHeartbeats 4000000 in
set_option maxRecDepth 100000 in
theorem do_none31 {w0 w : World} {Z : Nat → Prop} {pre X : List Asr} {F : List FA} {ad : Int → Nat} {g : List Hk} {gb bm m : Nat} {ids : List Int} (S : Stt w0 Z (GL (blk gb 61 #[.map (some bm)] :: mpK bm m ad ids :: pre) ad g X) F w)
    (id pa af ki : Int) (tx tr : ByteArray) (h1 : in64 id) (h2 : in64 pa) (hid : id ∉ ids) (hpa : pa ∈ ids) (haf : af = -1) :
    Calls Try.prog 21 #[.pointer (some ⟨gb, 0, none⟩), .agg #[.int .i64 3, .int .i64 id, .int .i64 pa, .int .i64 af, .int .i64 ki, .string tx, .string tr]] w fun e w' => e = .returned (.bool false) ∧ Stt w0 Z (GL (blk gb 61 #[.map (some bm)] :: mpK bm m ad ids :: pre) ad g X) F w' := by
  obtain ⟨EC, hEC⟩ : ∃ EC : Array Value, EC = #[.int .i64 3, .int .i64 id, .int .i64 pa, .int .i64 af, .int .i64 ki, .string tx, .string tr] := ⟨_, rfl⟩
  have S1 : Stt w0 Z (GL (blk w.heap.size 54 EC :: blk gb 61 #[.map (some bm)] :: mpK bm m ad ids :: pre) ad g X) F (w.alloc (.cells EC 54)) := S.box rfl (heap_alloc_new w _) (below_alloc (Below.refl _ _) _)
  have l1 := map_ok (stt_drew S1) 2 rfl h1
  have l2 := map_ok (stt_drew (stt_drew S1)) 2 rfl h2
  have hgb1 : (w.alloc (.cells EC 54)).cell? ⟨gb, 0, none⟩ = some (.map (some bm)) := (blk_cell (S1.at_blk 1 rfl) 0).trans rfl
  have SP := stt_drew (stt_drew S1)
  rw [if_neg hid, decide_eq_false hid] at l1
  subst haf
  rw [if_pos hpa, decide_eq_true hpa] at l2
  obtain ⟨c, hc⟩ : ∃ c, ad pa = c := ⟨_, rfl⟩
  simp only [pk, hc] at l2
  rw [hEC] at l1 l2 hgb1 SP
  replace SP := Aside0.mk SP
  clear hc S S1 h1 h2 hid hpa hEC EC
  have mixed : Try.prog.follows .mixedOrders = true := by kernel_rfl
  go_enter Try.func21, Try.ntmps21
  go_wp2
  go_region_o
  go_wp2
  go_region_o
  go_wp2
  go_ret
  exact ⟨rfl, Stt.drop (l := GL (blk gb 61 #[.map (some bm)] :: mpK bm m ad ids :: pre) ad _ X) SP.out⟩
set_option maxHeartbeats 4000000 in
set_option maxRecDepth 100000 in
theorem do_none32 {w0 w : World} {Z : Nat → Prop} {pre X : List Asr} {F : List FA} {ad : Int → Nat} {g : List Hk} {gb bm m : Nat} {ids : List Int} (S : Stt w0 Z (GL (blk gb 61 #[.map (some bm)] :: mpK bm m ad ids :: pre) ad g X) F w)
    (id pa af ki : Int) (tx tr : ByteArray) (h1 : in64 id) (h2 : in64 pa) (hid : id ∉ ids) (hpa : pa ∈ ids) (haf : ¬ af = -1) {jp : Nat} {hp : Hk} (ep : g[jp]? = some hp) (hpi : hp.k.id = pa) (hids : ∀ y ∈ hp.k.kids, ∃ (j : Nat) (h : Hk), g[j]? = some h ∧ h.k.id = y) :
    Calls Try.prog 21 #[.pointer (some ⟨gb, 0, none⟩), .agg #[.int .i64 3, .int .i64 id, .int .i64 pa, .int .i64 af, .int .i64 ki, .string tx, .string tr]] w fun e w' => e = .returned (.bool false) ∧ Stt w0 Z (GL (blk gb 61 #[.map (some bm)] :: mpK bm m ad ids :: pre) ad g X) F w' := by
  obtain ⟨EC, hEC⟩ : ∃ EC : Array Value, EC = #[.int .i64 3, .int .i64 id, .int .i64 pa, .int .i64 af, .int .i64 ki, .string tx, .string tr] := ⟨_, rfl⟩
  have S1 : Stt w0 Z (GL (blk w.heap.size 54 EC :: blk gb 61 #[.map (some bm)] :: mpK bm m ad ids :: pre) ad g X) F (w.alloc (.cells EC 54)) := S.box rfl (heap_alloc_new w _) (below_alloc (Below.refl _ _) _)
  have l1 := map_ok (stt_drew S1) 2 rfl h1
  have l2 := map_ok (stt_drew (stt_drew S1)) 2 rfl h2
  have hgb1 : (w.alloc (.cells EC 54)).cell? ⟨gb, 0, none⟩ = some (.map (some bm)) := (blk_cell (S1.at_blk 1 rfl) 0).trans rfl
  have SP := stt_drew (stt_drew S1)
  rw [if_neg hid, decide_eq_false hid] at l1
  have HP := place_calls ad hp.k hp.v af _ (kn_blk SP ep) (kn_row SP ep) (fun y hy => by obtain ⟨jy, hy', e1, e2⟩ := hids y hy; rw [← e2, blk_cell (kn_blk SP e1) 0]; rfl)
  obtain ⟨R, hR⟩ : ∃ R, placeOf hp.k.kids af = R := ⟨_, rfl⟩
  rw [hR] at HP
  obtain ⟨c, hc⟩ : ∃ c, ad pa = c := ⟨_, rfl⟩
  rw [if_pos hpa, decide_eq_true hpa] at l2
  simp only [pk, hc] at l2
  rw [hpi] at HP
  simp only [pk, hc] at HP
  replace HP := Aside0.mk HP
  rw [hEC] at l1 l2 hgb1 HP SP
  replace SP := Aside0.mk SP
  clear hc S S1 h1 h2 hid hpa ep hids hpi hR hEC EC
  have mixed : Try.prog.follows .mixedOrders = true := by kernel_rfl
  go_enter Try.func21, Try.ntmps21
  go_wp2
  go_region_o
  go_wp2
  go_region_o
  go_wp2_with (go_at_call 29; refine HP.out.mono ?_; rintro e_ w1 ⟨rfl, hB⟩; have S2 := SP.out.keep hB; have q0 := (blk_cell (S2.at_blk 0 rfl) 0).trans rfl; replace S2 := Aside0.mk S2; clear hB)
  go_ret
  exact ⟨rfl, Stt.drop (l := GL (blk gb 61 #[.map (some bm)] :: mpK bm m ad ids :: pre) ad _ X) S2.out⟩
set_option maxHeartbeats 4000000 in
set_option maxRecDepth 100000 in
theorem do_none40 {w0 w : World} {Z : Nat → Prop} {pre X : List Asr} {F : List FA} {ad : Int → Nat} {g : List Hk} {gb bm m : Nat} {ids : List Int} (S : Stt w0 Z (GL (blk gb 61 #[.map (some bm)] :: mpK bm m ad ids :: pre) ad g X) F w)
    (id pa af ki : Int) (tx tr : ByteArray) (h1 : in64 id) (h2 : in64 pa) (hid : id ∉ ids) (hpa : pa ∉ ids) :
    Calls Try.prog 21 #[.pointer (some ⟨gb, 0, none⟩), .agg #[.int .i64 4, .int .i64 id, .int .i64 pa, .int .i64 af, .int .i64 ki, .string tx, .string tr]] w fun e w' => e = .returned (.bool false) ∧ Stt w0 Z (GL (blk gb 61 #[.map (some bm)] :: mpK bm m ad ids :: pre) ad g X) F w' := by
  obtain ⟨EC, hEC⟩ : ∃ EC : Array Value, EC = #[.int .i64 4, .int .i64 id, .int .i64 pa, .int .i64 af, .int .i64 ki, .string tx, .string tr] := ⟨_, rfl⟩
  have S1 : Stt w0 Z (GL (blk w.heap.size 54 EC :: blk gb 61 #[.map (some bm)] :: mpK bm m ad ids :: pre) ad g X) F (w.alloc (.cells EC 54)) := S.box rfl (heap_alloc_new w _) (below_alloc (Below.refl _ _) _)
  have l1 := map_ok (stt_drew S1) 2 rfl h1
  have l2 := map_ok (stt_drew (stt_drew S1)) 2 rfl h2
  have hgb1 : (w.alloc (.cells EC 54)).cell? ⟨gb, 0, none⟩ = some (.map (some bm)) := (blk_cell (S1.at_blk 1 rfl) 0).trans rfl
  have SP := stt_drew (stt_drew S1)
  rw [if_neg hid, decide_eq_false hid] at l1
  rw [if_neg hpa, decide_eq_false hpa] at l2
  rw [hEC] at l1 l2 hgb1 SP
  replace SP := Aside0.mk SP
  clear S S1 h1 h2 hid hpa hEC EC
  have mixed : Try.prog.follows .mixedOrders = true := by kernel_rfl
  go_enter Try.func21, Try.ntmps21
  go_wp2
  go_region_o
  go_wp2
  go_region_o
  go_wp2
  go_ret
  exact ⟨rfl, Stt.drop (l := GL (blk gb 61 #[.map (some bm)] :: mpK bm m ad ids :: pre) ad _ X) SP.out⟩
set_option maxHeartbeats 4000000 in
set_option maxRecDepth 100000 in
theorem do_none41 {w0 w : World} {Z : Nat → Prop} {pre X : List Asr} {F : List FA} {ad : Int → Nat} {g : List Hk} {gb bm m : Nat} {ids : List Int} (S : Stt w0 Z (GL (blk gb 61 #[.map (some bm)] :: mpK bm m ad ids :: pre) ad g X) F w)
    (id pa af ki : Int) (tx tr : ByteArray) (h1 : in64 id) (h2 : in64 pa) (hid : id ∉ ids) (hpa : pa ∈ ids) (haf : af = -1) :
    Calls Try.prog 21 #[.pointer (some ⟨gb, 0, none⟩), .agg #[.int .i64 4, .int .i64 id, .int .i64 pa, .int .i64 af, .int .i64 ki, .string tx, .string tr]] w fun e w' => e = .returned (.bool false) ∧ Stt w0 Z (GL (blk gb 61 #[.map (some bm)] :: mpK bm m ad ids :: pre) ad g X) F w' := by
  obtain ⟨EC, hEC⟩ : ∃ EC : Array Value, EC = #[.int .i64 4, .int .i64 id, .int .i64 pa, .int .i64 af, .int .i64 ki, .string tx, .string tr] := ⟨_, rfl⟩
  have S1 : Stt w0 Z (GL (blk w.heap.size 54 EC :: blk gb 61 #[.map (some bm)] :: mpK bm m ad ids :: pre) ad g X) F (w.alloc (.cells EC 54)) := S.box rfl (heap_alloc_new w _) (below_alloc (Below.refl _ _) _)
  have l1 := map_ok (stt_drew S1) 2 rfl h1
  have l2 := map_ok (stt_drew (stt_drew S1)) 2 rfl h2
  have hgb1 : (w.alloc (.cells EC 54)).cell? ⟨gb, 0, none⟩ = some (.map (some bm)) := (blk_cell (S1.at_blk 1 rfl) 0).trans rfl
  have SP := stt_drew (stt_drew S1)
  rw [if_neg hid, decide_eq_false hid] at l1
  subst haf
  rw [if_pos hpa, decide_eq_true hpa] at l2
  obtain ⟨c, hc⟩ : ∃ c, ad pa = c := ⟨_, rfl⟩
  simp only [pk, hc] at l2
  rw [hEC] at l1 l2 hgb1 SP
  replace SP := Aside0.mk SP
  clear hc S S1 h1 h2 hid hpa hEC EC
  have mixed : Try.prog.follows .mixedOrders = true := by kernel_rfl
  go_enter Try.func21, Try.ntmps21
  go_wp2
  go_region_o
  go_wp2
  go_region_o
  go_wp2
  go_ret
  exact ⟨rfl, Stt.drop (l := GL (blk gb 61 #[.map (some bm)] :: mpK bm m ad ids :: pre) ad _ X) SP.out⟩
set_option maxHeartbeats 4000000 in
set_option maxRecDepth 100000 in
theorem do_none42 {w0 w : World} {Z : Nat → Prop} {pre X : List Asr} {F : List FA} {ad : Int → Nat} {g : List Hk} {gb bm m : Nat} {ids : List Int} (S : Stt w0 Z (GL (blk gb 61 #[.map (some bm)] :: mpK bm m ad ids :: pre) ad g X) F w)
    (id pa af ki : Int) (tx tr : ByteArray) (h1 : in64 id) (h2 : in64 pa) (hid : id ∉ ids) (hpa : pa ∈ ids) (haf : ¬ af = -1) {jp : Nat} {hp : Hk} (ep : g[jp]? = some hp) (hpi : hp.k.id = pa) (hids : ∀ y ∈ hp.k.kids, ∃ (j : Nat) (h : Hk), g[j]? = some h ∧ h.k.id = y) :
    Calls Try.prog 21 #[.pointer (some ⟨gb, 0, none⟩), .agg #[.int .i64 4, .int .i64 id, .int .i64 pa, .int .i64 af, .int .i64 ki, .string tx, .string tr]] w fun e w' => e = .returned (.bool false) ∧ Stt w0 Z (GL (blk gb 61 #[.map (some bm)] :: mpK bm m ad ids :: pre) ad g X) F w' := by
  obtain ⟨EC, hEC⟩ : ∃ EC : Array Value, EC = #[.int .i64 4, .int .i64 id, .int .i64 pa, .int .i64 af, .int .i64 ki, .string tx, .string tr] := ⟨_, rfl⟩
  have S1 : Stt w0 Z (GL (blk w.heap.size 54 EC :: blk gb 61 #[.map (some bm)] :: mpK bm m ad ids :: pre) ad g X) F (w.alloc (.cells EC 54)) := S.box rfl (heap_alloc_new w _) (below_alloc (Below.refl _ _) _)
  have l1 := map_ok (stt_drew S1) 2 rfl h1
  have l2 := map_ok (stt_drew (stt_drew S1)) 2 rfl h2
  have hgb1 : (w.alloc (.cells EC 54)).cell? ⟨gb, 0, none⟩ = some (.map (some bm)) := (blk_cell (S1.at_blk 1 rfl) 0).trans rfl
  have SP := stt_drew (stt_drew S1)
  rw [if_neg hid, decide_eq_false hid] at l1
  have HP := place_calls ad hp.k hp.v af _ (kn_blk SP ep) (kn_row SP ep) (fun y hy => by obtain ⟨jy, hy', e1, e2⟩ := hids y hy; rw [← e2, blk_cell (kn_blk SP e1) 0]; rfl)
  obtain ⟨R, hR⟩ : ∃ R, placeOf hp.k.kids af = R := ⟨_, rfl⟩
  rw [hR] at HP
  obtain ⟨c, hc⟩ : ∃ c, ad pa = c := ⟨_, rfl⟩
  rw [if_pos hpa, decide_eq_true hpa] at l2
  simp only [pk, hc] at l2
  rw [hpi] at HP
  simp only [pk, hc] at HP
  replace HP := Aside0.mk HP
  rw [hEC] at l1 l2 hgb1 HP SP
  replace SP := Aside0.mk SP
  clear hc S S1 h1 h2 hid hpa ep hids hpi hR hEC EC
  have mixed : Try.prog.follows .mixedOrders = true := by kernel_rfl
  go_enter Try.func21, Try.ntmps21
  go_wp2
  go_region_o
  go_wp2
  go_region_o
  go_wp2_with (go_at_call 29; refine HP.out.mono ?_; rintro e_ w1 ⟨rfl, hB⟩; have S2 := SP.out.keep hB; have q0 := (blk_cell (S2.at_blk 0 rfl) 0).trans rfl; replace S2 := Aside0.mk S2; clear hB)
  go_ret
  exact ⟨rfl, Stt.drop (l := GL (blk gb 61 #[.map (some bm)] :: mpK bm m ad ids :: pre) ad _ X) S2.out⟩
end Go.Proofs.Ytfmlpkeaiohknaa.Q
/-! (*grove).do: a knot goes. -/
set_option linter.unusedVariables false
set_option linter.unusedSimpArgs false
namespace Go.Proofs.Ytfmlpkeaiohknaa.Q
open Go Go.RowKit Go.Lib Go.Sort Go.Proofs.YtfmlpkeaiohknaaW.PrintWords Go.Proofs.YtfmlpkeaiohknaaW.PrintLast Go.Proofs.YtfmlpkeaiohknaaW.PrintMore Go.Proofs.YtfmlpkeaiohknaaW.SL
theorem step_delete_run {P : Program} {ops : Array Oper} {o : Oper} {a : Act} {w : World} {K : Act → World → Prop} {Q : Exit → Act → World → Prop} {E : Prop}
    (hg : o.guard = none) (d x : Operand) (dT sT : TypeId) (hop : o.op = Op.call { callee := Callee.builtin Builtin.delete, args := #[d, x], argTypes := #[dT, sT] })
    (v u : Value) (hd : a.eval d = v) (hx : a.eval x = u) {v' : Value} {w' : World} (hr : (Builtin.delete_ #[dT, sT] o.type #[v, u]).run P w = .ok v' w') (hK : K (a.put o.dst v') w') :
    if Region.wanted o (yielded ops a.tmps) = true then Oper.wp P o a w K Q else E := by
  have hw : Region.wanted o (yielded ops a.tmps) = true := by simp [Region.wanted, hg]
  rw [if_pos hw]
  unfold Oper.wp
  simp [execOp, hop, resolve, invoke, builtin, hd, hx, hr, Result.andThen]
  exact hK
set_option maxHeartbeats 4000000 in
set_option maxRecDepth 100000 in
/-- A knot without Kids goes: the parent's name in the edit is not in the grove. -/
theorem do_gone0 {w0 w : World} {Z : Nat → Prop} {pre X : List Asr} {F : List FA} {ad : Int → Nat} {g : List Hk} {gb bm m : Nat} {ids : List Int} (S : Stt w0 Z (GL (blk gb 61 #[.map (some bm)] :: mpK bm m ad ids :: pre) ad g X) F w)
    (id pa af ki : Int) (tx tr : ByteArray) (h1 : in64 id) (h2 : in64 pa) (hid : id ∈ ids) (hpa : pa ∉ ids) {jx jq : Nat} {hx hq : Hk} (ex : g[jx]? = some hx) (eq : g[jq]? = some hq) (hne : jx ≠ jq) (hxi : hx.k.id = id) (hk0 : hx.k.kids = [])
    (hpar : hx.k.par = some hq.k.id) (hin : hx.k.id ∈ hq.k.kids) (hids : ∀ y ∈ hq.k.kids, ∃ (j : Nat) (h : Hk), g[j]? = some h ∧ h.k.id = y) :
    Calls Try.prog 21 #[.pointer (some ⟨gb, 0, none⟩), .agg #[.int .i64 2, .int .i64 id, .int .i64 pa, .int .i64 af, .int .i64 ki, .string tx, .string tr]] w fun e w' => ∃ v', e = .returned (.bool true) ∧ Stt w0 Z (GL (blk gb 61 #[.map (some bm)] :: mpK bm m ad (ids.filter (· ≠ id)) :: pre) ad ((g.set jq ⟨hq.k.wKids (hq.k.kids.filter fun y => !decide (ad y = ad hx.k.id)), v'⟩).set jx ⟨hx.k.wPar none, hx.v⟩) X) F w' := by
  obtain ⟨EC, hEC⟩ : ∃ EC : Array Value, EC = #[.int .i64 2, .int .i64 id, .int .i64 pa, .int .i64 af, .int .i64 ki, .string tx, .string tr] := ⟨_, rfl⟩
  have S1 : Stt w0 Z (GL (blk w.heap.size 54 EC :: blk gb 61 #[.map (some bm)] :: mpK bm m ad ids :: pre) ad g X) F (w.alloc (.cells EC 54)) := S.box rfl (heap_alloc_new w _) (below_alloc (Below.refl _ _) _)
  have l1 := map_ok (stt_drew S1) 2 rfl h1
  have l2 := map_ok (stt_drew (stt_drew S1)) 2 rfl h2
  have hgb1 : (w.alloc (.cells EC 54)).cell? ⟨gb, 0, none⟩ = some (.map (some bm)) := (blk_cell (S1.at_blk 1 rfl) 0).trans rfl
  have SP := stt_drew (stt_drew S1)
  have hO := out_calls SP ex eq hne hpar hin hids
  have hxb := kn_blk S1 ex
  have hx5 := (blk_cell hxb 5).trans (show (knB ad hx.k hx.v)[5]? = some (pk ad hq.k.id) by show some (pp ad hx.k.par) = _; rw [hpar]; rfl)
  have hx6 := (blk_cell hxb 6).trans (show (knB ad hx.k hx.v)[6]? = some hx.v from rfl)
  obtain ⟨A, c0, hA, _⟩ := own_form (kn_row S1 ex)
  rw [hA, hk0] at hx6
  have H1 := Aside0.mk h1
  obtain ⟨a, ha⟩ : ∃ a, ad id = a := ⟨_, rfl⟩
  have HA := Aside0.mk ha
  have hOA := hO
  rw [if_pos hid, decide_eq_true hid] at l1
  rw [if_neg hpa, decide_eq_false hpa] at l2
  rw [hxi] at hx5 hx6 hOA
  simp only [pk, ha] at l1 hx5 hx6 hOA
  rw [hEC] at l1 l2 hgb1 hx5 hx6 hOA
  replace hOA := Aside0.mk hOA
  have HE := Aside0.mk hEC
  rw [hxi]
  clear hO S S1 SP hxb h1 h2 hid hpa ex eq hne hpar hin hids hxi ha hA hk0
  have mixed : Try.prog.follows .mixedOrders = true := by kernel_rfl
  go_enter Try.func21, Try.ntmps21
  go_wp2
  go_region_o
  go_wp2
  go_region_o
  go_wp2_with (go_at_call 32; refine hOA.out.mono ?_; rintro e_ w1 ⟨v', rfl, S2⟩; have q0 := (blk_cell (S2.at_blk 0 rfl) 0).trans rfl; have q1 := (blk_cell (S2.at_blk 0 rfl) 1).trans rfl; have q2 := (blk_cell (S2.at_blk 1 rfl) 0).trans rfl; obtain ⟨w3, hdl, S3, _⟩ := map_del (stt_drew S2) 2 rfl H1.out 0; replace S3 := Aside0.mk S3; replace hdl := Aside0.mk hdl; clear S2)
  go_region_law_o (refine step_delete_run rfl _ _ 59 3 rfl (.map (some bm)) (.int .i64 id) (by simp [Act.eval, Act.put]) (by simp [Act.eval, Act.put]) hdl.out ?_)
  all_goals (try go_wp2)
  all_goals (go_ret; rw [HA.out]; exact ⟨_, rfl, Stt.drop (l := GL (blk gb 61 #[.map (some bm)] :: mpK bm m ad (ids.filter (· ≠ id)) :: pre) ad _ X) S3.out⟩)
set_option maxHeartbeats 4000000 in
set_option maxRecDepth 100000 in
/-- A knot without Kids goes: the parent's name in the edit is, at the front. -/
theorem do_gone1 {w0 w : World} {Z : Nat → Prop} {pre X : List Asr} {F : List FA} {ad : Int → Nat} {g : List Hk} {gb bm m : Nat} {ids : List Int} (S : Stt w0 Z (GL (blk gb 61 #[.map (some bm)] :: mpK bm m ad ids :: pre) ad g X) F w)
    (id pa af ki : Int) (tx tr : ByteArray) (h1 : in64 id) (h2 : in64 pa) (hid : id ∈ ids) (hpa : pa ∈ ids) (haf : af = -1) {jx jq : Nat} {hx hq : Hk} (ex : g[jx]? = some hx) (eq : g[jq]? = some hq) (hne : jx ≠ jq) (hxi : hx.k.id = id) (hk0 : hx.k.kids = [])
    (hpar : hx.k.par = some hq.k.id) (hin : hx.k.id ∈ hq.k.kids) (hids : ∀ y ∈ hq.k.kids, ∃ (j : Nat) (h : Hk), g[j]? = some h ∧ h.k.id = y) :
    Calls Try.prog 21 #[.pointer (some ⟨gb, 0, none⟩), .agg #[.int .i64 2, .int .i64 id, .int .i64 pa, .int .i64 af, .int .i64 ki, .string tx, .string tr]] w fun e w' => ∃ v', e = .returned (.bool true) ∧ Stt w0 Z (GL (blk gb 61 #[.map (some bm)] :: mpK bm m ad (ids.filter (· ≠ id)) :: pre) ad ((g.set jq ⟨hq.k.wKids (hq.k.kids.filter fun y => !decide (ad y = ad hx.k.id)), v'⟩).set jx ⟨hx.k.wPar none, hx.v⟩) X) F w' := by
  obtain ⟨EC, hEC⟩ : ∃ EC : Array Value, EC = #[.int .i64 2, .int .i64 id, .int .i64 pa, .int .i64 af, .int .i64 ki, .string tx, .string tr] := ⟨_, rfl⟩
  have S1 : Stt w0 Z (GL (blk w.heap.size 54 EC :: blk gb 61 #[.map (some bm)] :: mpK bm m ad ids :: pre) ad g X) F (w.alloc (.cells EC 54)) := S.box rfl (heap_alloc_new w _) (below_alloc (Below.refl _ _) _)
  have l1 := map_ok (stt_drew S1) 2 rfl h1
  have l2 := map_ok (stt_drew (stt_drew S1)) 2 rfl h2
  have hgb1 : (w.alloc (.cells EC 54)).cell? ⟨gb, 0, none⟩ = some (.map (some bm)) := (blk_cell (S1.at_blk 1 rfl) 0).trans rfl
  have SP := stt_drew (stt_drew S1)
  have hO := out_calls SP ex eq hne hpar hin hids
  have hxb := kn_blk S1 ex
  have hx5 := (blk_cell hxb 5).trans (show (knB ad hx.k hx.v)[5]? = some (pk ad hq.k.id) by show some (pp ad hx.k.par) = _; rw [hpar]; rfl)
  have hx6 := (blk_cell hxb 6).trans (show (knB ad hx.k hx.v)[6]? = some hx.v from rfl)
  obtain ⟨A, c0, hA, _⟩ := own_form (kn_row S1 ex)
  rw [hA, hk0] at hx6
  have H1 := Aside0.mk h1
  obtain ⟨a, ha⟩ : ∃ a, ad id = a := ⟨_, rfl⟩
  have HA := Aside0.mk ha
  have hOA := hO
  rw [if_pos hid, decide_eq_true hid] at l1
  subst haf
  rw [if_pos hpa, decide_eq_true hpa] at l2
  obtain ⟨c, hc⟩ : ∃ c, ad pa = c := ⟨_, rfl⟩
  simp only [pk, hc] at l2
  rw [hxi] at hx5 hx6 hOA
  simp only [pk, ha] at l1 hx5 hx6 hOA
  rw [hEC] at l1 l2 hgb1 hx5 hx6 hOA
  replace hOA := Aside0.mk hOA
  have HE := Aside0.mk hEC
  rw [hxi]
  clear hc hO S S1 SP hxb h1 h2 hid hpa ex eq hne hpar hin hids hxi ha hA hk0
  have mixed : Try.prog.follows .mixedOrders = true := by kernel_rfl
  go_enter Try.func21, Try.ntmps21
  go_wp2
  go_region_o
  go_wp2
  go_region_o
  go_wp2_with (go_at_call 32; refine hOA.out.mono ?_; rintro e_ w1 ⟨v', rfl, S2⟩; have q0 := (blk_cell (S2.at_blk 0 rfl) 0).trans rfl; have q1 := (blk_cell (S2.at_blk 0 rfl) 1).trans rfl; have q2 := (blk_cell (S2.at_blk 1 rfl) 0).trans rfl; obtain ⟨w3, hdl, S3, _⟩ := map_del (stt_drew S2) 2 rfl H1.out 0; replace S3 := Aside0.mk S3; replace hdl := Aside0.mk hdl; clear S2)
  go_region_law_o (refine step_delete_run rfl _ _ 59 3 rfl (.map (some bm)) (.int .i64 id) (by simp [Act.eval, Act.put]) (by simp [Act.eval, Act.put]) hdl.out ?_)
  all_goals (try go_wp2)
  all_goals (go_ret; rw [HA.out]; exact ⟨_, rfl, Stt.drop (l := GL (blk gb 61 #[.map (some bm)] :: mpK bm m ad (ids.filter (· ≠ id)) :: pre) ad _ X) S3.out⟩)
set_option maxHeartbeats 4000000 in
set_option maxRecDepth 100000 in
/-- A knot without Kids goes: the parent's name in the edit is. -/
theorem do_gone2 {w0 w : World} {Z : Nat → Prop} {pre X : List Asr} {F : List FA} {ad : Int → Nat} {g : List Hk} {gb bm m : Nat} {ids : List Int} (S : Stt w0 Z (GL (blk gb 61 #[.map (some bm)] :: mpK bm m ad ids :: pre) ad g X) F w)
    (id pa af ki : Int) (tx tr : ByteArray) (h1 : in64 id) (h2 : in64 pa) (hid : id ∈ ids) (hpa : pa ∈ ids) (haf : ¬ af = -1) {jp : Nat} {hp : Hk} (ep : g[jp]? = some hp) (hpi : hp.k.id = pa) (hidp : ∀ y ∈ hp.k.kids, ∃ (j : Nat) (h : Hk), g[j]? = some h ∧ h.k.id = y) {jx jq : Nat} {hx hq : Hk} (ex : g[jx]? = some hx) (eq : g[jq]? = some hq) (hne : jx ≠ jq) (hxi : hx.k.id = id) (hk0 : hx.k.kids = [])
    (hpar : hx.k.par = some hq.k.id) (hin : hx.k.id ∈ hq.k.kids) (hids : ∀ y ∈ hq.k.kids, ∃ (j : Nat) (h : Hk), g[j]? = some h ∧ h.k.id = y) :
    Calls Try.prog 21 #[.pointer (some ⟨gb, 0, none⟩), .agg #[.int .i64 2, .int .i64 id, .int .i64 pa, .int .i64 af, .int .i64 ki, .string tx, .string tr]] w fun e w' => ∃ v', e = .returned (.bool true) ∧ Stt w0 Z (GL (blk gb 61 #[.map (some bm)] :: mpK bm m ad (ids.filter (· ≠ id)) :: pre) ad ((g.set jq ⟨hq.k.wKids (hq.k.kids.filter fun y => !decide (ad y = ad hx.k.id)), v'⟩).set jx ⟨hx.k.wPar none, hx.v⟩) X) F w' := by
  obtain ⟨EC, hEC⟩ : ∃ EC : Array Value, EC = #[.int .i64 2, .int .i64 id, .int .i64 pa, .int .i64 af, .int .i64 ki, .string tx, .string tr] := ⟨_, rfl⟩
  have S1 : Stt w0 Z (GL (blk w.heap.size 54 EC :: blk gb 61 #[.map (some bm)] :: mpK bm m ad ids :: pre) ad g X) F (w.alloc (.cells EC 54)) := S.box rfl (heap_alloc_new w _) (below_alloc (Below.refl _ _) _)
  have l1 := map_ok (stt_drew S1) 2 rfl h1
  have l2 := map_ok (stt_drew (stt_drew S1)) 2 rfl h2
  have hgb1 : (w.alloc (.cells EC 54)).cell? ⟨gb, 0, none⟩ = some (.map (some bm)) := (blk_cell (S1.at_blk 1 rfl) 0).trans rfl
  have SP := stt_drew (stt_drew S1)
  have hO := fun W (SW : Stt w0 Z (GL (blk w.heap.size 54 EC :: blk gb 61 #[.map (some bm)] :: mpK bm m ad ids :: pre) ad g X) F W) => out_calls SW ex eq hne hpar hin hids
  have HP := place_calls ad hp.k hp.v af _ (kn_blk SP ep) (kn_row SP ep) (fun y hy => by obtain ⟨jy, hy', e1, e2⟩ := hidp y hy; rw [← e2, blk_cell (kn_blk SP e1) 0]; rfl)
  obtain ⟨R, hR⟩ : ∃ R, placeOf hp.k.kids af = R := ⟨_, rfl⟩
  rw [hR] at HP
  obtain ⟨A, c0, hA, _⟩ := own_form (kn_row S1 ex)
  rw [hk0] at hA
  have hx56 : ∀ W, Stt w0 Z (GL (blk w.heap.size 54 EC :: blk gb 61 #[.map (some bm)] :: mpK bm m ad ids :: pre) ad g X) F W → W.cell? ⟨ad hx.k.id, 5, none⟩ = some (pk ad hq.k.id) ∧ W.cell? ⟨ad hx.k.id, 6, none⟩ = some (.slice A 0 c0) := fun W SW => ⟨(blk_cell (kn_blk SW ex) 5).trans (show (knB ad hx.k hx.v)[5]? = some (pk ad hq.k.id) by show some (pp ad hx.k.par) = _; rw [hpar]; rfl), (blk_cell (kn_blk SW ex) 6).trans (show (knB ad hx.k hx.v)[6]? = _ by show some hx.v = _; rw [hA]; rfl)⟩
  have H1 := Aside0.mk h1
  obtain ⟨a, ha⟩ : ∃ a, ad id = a := ⟨_, rfl⟩
  have HA := Aside0.mk ha
  have hOA := hO
  rw [if_pos hid, decide_eq_true hid] at l1
  rw [if_pos hpa, decide_eq_true hpa] at l2
  obtain ⟨c, hc⟩ : ∃ c, ad pa = c := ⟨_, rfl⟩
  simp only [pk, hc] at l2
  rw [hpi] at HP
  simp only [pk, hc] at HP
  rw [hxi] at hx56 hOA
  simp only [pk, ha] at l1 hx56 hOA
  rw [hEC] at l1 l2 hgb1 HP SP hx56 hOA
  have HX := Aside0.mk (⟨SP, hx56⟩ : _ ∧ _)
  replace HP := Aside0.mk HP
  clear hx56 hR hpi ep hidp hc
  replace hOA := Aside0.mk hOA
  have HE := Aside0.mk hEC
  rw [hxi]
  clear hO S S1 SP h1 h2 hid hpa ex eq hne hpar hin hids hxi ha hA hk0
  have mixed : Try.prog.follows .mixedOrders = true := by kernel_rfl
  go_enter Try.func21, Try.ntmps21
  go_wp2
  go_region_o
  go_wp2
  go_region_o
  go_wp2_with (first | (go_at_call 29; refine HP.out.mono ?_; rintro e_ w1 ⟨rfl, hB⟩; have SW := HX.out.1.keep hB; have p0 := (blk_cell (SW.at_blk 0 rfl) 0).trans rfl; obtain ⟨hx5, hx6⟩ := HX.out.2 w1 SW; replace SW := Aside0.mk SW; clear hB) | (go_at_call 32; refine (hOA.out _ SW.out).mono ?_; rintro e_ w2 ⟨v', rfl, S2⟩; have q0 := (blk_cell (S2.at_blk 0 rfl) 0).trans rfl; have q1 := (blk_cell (S2.at_blk 0 rfl) 1).trans rfl; have q2 := (blk_cell (S2.at_blk 1 rfl) 0).trans rfl; obtain ⟨w3, hdl, S3, _⟩ := map_del (stt_drew S2) 2 rfl H1.out 0; replace S3 := Aside0.mk S3; replace hdl := Aside0.mk hdl; clear S2))
  go_region_law_o (refine step_delete_run rfl _ _ 59 3 rfl (.map (some bm)) (.int .i64 id) (by simp [Act.eval, Act.put]) (by simp [Act.eval, Act.put]) hdl.out ?_)
  all_goals (try go_wp2)
  all_goals (go_ret; rw [HA.out]; exact ⟨_, rfl, Stt.drop (l := GL (blk gb 61 #[.map (some bm)] :: mpK bm m ad (ids.filter (· ≠ id)) :: pre) ad _ X) S3.out⟩)
end Go.Proofs.Ytfmlpkeaiohknaa.Q
