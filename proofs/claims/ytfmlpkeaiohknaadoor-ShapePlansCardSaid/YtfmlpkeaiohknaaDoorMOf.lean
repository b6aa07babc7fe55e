import Derived.Test.YtfmlpkeaiohknaaDoorMOut
import Derived.Test.YtfmlpkeaiohknaaDoorMCopy
set_option linter.unusedVariables false
set_option linter.unusedSimpArgs false
namespace Go.Proofs.YtfmlpkeaiohknaaDoor.Q
open Go.RowKit Go.Proofs.YtfmlpkeaiohknaaDoorW.PrintWords Go.Proofs.YtfmlpkeaiohknaaDoorW.PrintLast Go.Proofs.YtfmlpkeaiohknaaDoorW.PrintMore Go.Proofs.YtfmlpkeaiohknaaDoorW.SL
attribute [local go_sem] max2_int min2_int max_two min_two max_three min_three max_four min_four
theorem LeO.up {α : Type} {f : Nat → Option α} (h : ∀ k, LeO (f k) (f (k + 1))) {a b : Nat} (hab : a ≤ b) {r : α} (hr : f a = some r) : f b = some r := by
  induction hab with
  | refl => exact hr
  | step _ ih => exact h _ _ ih
/-- tree.Copy says the same tree. -/
theorem copy_l (a0 : Int) (a1 a2 : ByteArray) (l l' : List S24) (hl : l.length ≤ 1000000) (ih : ∀ x ∈ l, ∃ k, tree_Copy.f k x.f0 x.f1 x.f2 x.f3 = some (x.f0, x.f1, x.f2, x.f3)) :
    ∀ (d j : Nat), l.length = j + d → ∃ k, tree_Copy.l0 k (l.take j) l (l.length : Int) (j : Int) a0 a1 a2 l' = some (a0, a1, a2, l)
  | 0, j, h => ⟨1, by
      have hj : ¬ (j : Int) < (l.length : Int) := by omega
      rw [tree_Copy.l0, if_neg hj, List.take_of_length_le (by omega)]⟩
  | d + 1, j, h => by
      obtain ⟨k1, h1⟩ := copy_l a0 a1 a2 l l' hl ih d (j + 1) (by omega)
      have hjl : j < l.length := by omega
      obtain ⟨k2, h2⟩ := ih l[j] (List.getElem_mem hjl)
      have hrd : rd_T24 l (j : Int) = l[j] := by simp [rd_T24, List.getD_eq_getElem?_getD, List.getElem?_eq_getElem hjl]
      have hw : wrap64 ((j : Int) + 1) = ((j + 1 : Nat) : Int) := by unfold wrap64; omega
      have h3 := LeO.up (fun k => tree_Copy.mono l[j].f0 l[j].f1 l[j].f2 l[j].f3 k) (Nat.le_max_right k1 k2) h2
      have h4 := LeO.up (f := fun k => tree_Copy.l0 k (l.take (j + 1)) l (l.length : Int) ((j + 1 : Nat) : Int) a0 a1 a2 l') (fun k => (tree_Copy.mono_l k).2 _ _ _ _ _ _ _ _) (Nat.le_max_left k1 k2) h1
      refine ⟨max k1 k2 + 1, ?_⟩
      have hj : (j : Int) < (l.length : Int) := by omega
      have h0 : (0 : Int) ≤ (j : Int) := by omega
      have ht : (l.take j).length < 2199023255552 := by rw [List.length_take]; omega
      rw [tree_Copy.l0, if_pos hj, if_pos h0, if_pos hj, hrd, h3]
      simp only [Option.bind_some]
      rw [if_pos ht, hw]
      have e : l.take j ++ [(⟨l[j].f0, l[j].f1, l[j].f2, l[j].f3⟩ : S24)] = l.take (j + 1) := by rw [List.take_succ_eq_append_getElem hjl, (fun z => by cases z; rfl : ∀ z : S24, (⟨z.f0, z.f1, z.f2, z.f3⟩ : S24) = z)]
      rw [e]
      exact h4
theorem nszL_mem : ∀ {l : List S24} {x : S24}, x ∈ l → nsz x ≤ nszL l
  | a :: r, x, h => by
    rcases List.mem_cons.1 h with rfl | h
    · simp only [nszL]; omega
    · have := nszL_mem h; simp only [nszL]; omega
theorem copy_f : ∀ (n : Nat) (x : S24), nsz x ≤ n → n ≤ 1000000 → ∃ k, tree_Copy.f k x.f0 x.f1 x.f2 x.f3 = some (x.f0, x.f1, x.f2, x.f3)
  | 0, ⟨_, _, _, _⟩, h, _ => by simp [nsz] at h
  | n + 1, ⟨a, b, c, l⟩, h, hn => by
    simp only [nsz] at h
    have hl := len_nszL l
    obtain ⟨k, hk⟩ := copy_l a b c l l (by omega) (fun x hx => copy_f n x (by have := nszL_mem hx; omega) (by omega)) l.length 0 (by omega)
    refine ⟨k + 1, ?_⟩
    have h0 : (0 : Int) ≤ (l.length : Int) := by omega
    have h1 : ((l.length : Int) : Int).toNat ≤ 4398046511104 := by omega
    simp only []
    rw [tree_Copy.f, if_pos h0, if_pos h1]
    simpa using hk
theorem Pl.start {w0 w : World} {Z Φ : Nat → Prop} {g : Nat} {X : List Asr} (h : St w0 Z (blk g 30 #[.slice none 0 0, .slice none 0 0, .slice none 0 0, .slice none 0 0] :: X) w) (hΦ : ∀ k, Φ k → Z k ∨ k < w0.heap.size) :
    Pl w0 Z Φ g ⟨.slice none 0 0, .slice none 0 0, .slice none 0 0, .slice none 0 0, [], []⟩ ⟨[], [], [], []⟩ X w := by
  refine ⟨?_, hΦ, fun j x hj => by simp at hj, rfl, rfl, rfl, rfl, rfl, fun u hu => by simp at hu⟩
  have he : St w0 Z (grp [] :: blk g 30 #[.slice none 0 0, .slice none 0 0, .slice none 0 0, .slice none 0 0] :: X) w := by
    obtain ⟨f, hf, hd⟩ := h.hs
    exact ⟨h.below, h.zlt, f, ⟨fun _ => False, f, fun k => by simp, fun k h1 => h1.elim, fun k h1 => h1, hf⟩, hd⟩
  have h4 := (((he.row_nil 27 1).row_nil 3 1).row_nil 3 1).row_nil 24 4
  exact h4.perm (List.perm_middle (l₁ := [row (.slice none 0 0) 24 4 0 [], row (.slice none 0 0) 3 1 0 [], row (.slice none 0 0) 3 1 0 [], row (.slice none 0 0) 27 1 0 [], grp []]))
def ofP (x : S24) : PS := addN x (-1) ⟨[], [], [], []⟩
def shape_Of.f (a0_0 : Int) (a0_1 : ByteArray) (a0_2 : ByteArray) (l0_3 : List (S24)) : Option ((List (S24)) × List Int × List Int × (List (List Int))) :=
  if nsz ⟨a0_0, a0_1, a0_2, l0_3⟩ ≤ 1000000 then some ((ofP ⟨a0_0, a0_1, a0_2, l0_3⟩).N, (ofP ⟨a0_0, a0_1, a0_2, l0_3⟩).P, (ofP ⟨a0_0, a0_1, a0_2, l0_3⟩).Z, (ofP ⟨a0_0, a0_1, a0_2, l0_3⟩).K) else none
/-- The plan's first node: its own cells; its Kids' row, which the plan alone has. -/
structure OfOwn (w w' : World) (a : Int) (b c : ByteArray) (n m : Nat) (v : Value) : Prop where
  ex : ∃ (gN qN : Nat) (cur : Array Value) (A5 : Option Addr) (c5 : Nat) (inner : List Value), v = .slice (some ⟨gN, 0, none⟩) m qN ∧ w'.heap[gN]? = some (.cells cur 24 (0, 0)) ∧ cur.toList.take 4 = [.int .i64 a, .string b, .string c, .slice A5 n c5] ∧ w'.ownsRow w.heap.size 24 4 (.slice A5 n c5) n inner
set_option maxHeartbeats 8000000 in
set_option maxRecDepth 100000 in
theorem shape_Of.callsK (a0_0 : Int) (a0_1 : ByteArray) (a0_2 : ByteArray) (A0_3 : Option Addr) (c0_3 : Nat) (l0_3 : List (S24)) (r1 : List (S24)) (r2 : List Int) (r3 : List Int) (r4 : List (List Int)) (w : World) (hr0_3 : Kd.C k24 w A0_3 l0_3.length l0_3) (hc0_3 : l0_3.length ≤ c0_3) (h : shape_Of.f a0_0 a0_1 a0_2 l0_3 = some (r1, r2, r3, r4)) :
  Calls Tryd.prog 10 #[.agg #[.int .i64 a0_0, .string a0_1, .string a0_2, .slice A0_3 l0_3.length c0_3]] w fun e w' => ∃ v0_ v1_ v2_ v3_ : Value, e = .returned (.agg #[v0_, v1_, v2_, v3_]) ∧ Kd.N k24 24 w' w.heap.size (fun k_ => (w.heap.size ≤ k_) ∧ some k_ ≠ (v1_ : Value).ownBlock ∧ some k_ ≠ (v2_ : Value).ownBlock ∧ some k_ ≠ (v3_ : Value).ownBlock) v0_ r1 ∧ Kd.R (Kd.int .i64) 3 w' w.heap.size (fun k_ => (w.heap.size ≤ k_) ∧ some k_ ≠ (v2_ : Value).ownBlock) v1_ r2 ∧ Kd.R (Kd.int .i64) 3 w' w.heap.size (fun k_ => (w.heap.size ≤ k_) ∧ some k_ ≠ (v1_ : Value).ownBlock) v2_ r3 ∧ Kd.S (Kd.slice 3 (Kd.int .i64)) 27 w' w.heap.size (fun k_ => (w.heap.size ≤ k_) ∧ some k_ ≠ (v1_ : Value).ownBlock ∧ some k_ ≠ (v2_ : Value).ownBlock) v3_ r4 ∧ Below w.heap.size w w' ∧ OfOwn w w' a0_0 a0_1 a0_2 l0_3.length r1.length v0_ := by
 unfold shape_Of.f at h
 by_cases hsz : nsz ⟨a0_0, a0_1, a0_2, l0_3⟩ ≤ 1000000
 case neg => rw [if_neg hsz] at h; cases h
 rw [if_pos hsz] at h
 simp only [Option.some.injEq, Prod.mk.injEq] at h
 obtain ⟨rfl, rfl, rfl, rfl⟩ := h
 obtain ⟨k, hk⟩ := copy_f _ ⟨a0_0, a0_1, a0_2, l0_3⟩ hsz (Nat.le_refl _)
 simp only [] at hk
 have hu24 := Tryd.underlying24
 have hu30 := Tryd.underlying30
 have s0 := St.start w
 go_enter Tryd.func10, Tryd.ntmps10
 go_wp2_with (first | ((with_reducible refine gate_dst (N := 1) rfl ?_); refine box_event ?hg (N := 1) ?hd (cs := #[.int .i64 a0_0, .string a0_1, .string a0_2, .slice A0_3 l0_3.length c0_3]) (t := 24) ?hr ?_; (case hd => rfl); (case hg => rfl); (case hr => first | (go_simp; done) | (go_simp; rfl)); intro g1 hg_ w1 hbox hb; have s1 := (s0.more hb (a := blk g1 24 #[.int .i64 a0_0, .string a0_1, .string a0_2, .slice A0_3 l0_3.length c0_3]) (f := fun k => k = g1) ⟨fun _ => Iff.rfl, hbox⟩ (fun k hk => by omega)).1; clear hb hbox hg_) | ((with_reducible refine gate_dst (N := 2) rfl ?_); refine box_event ?hg (N := 2) ?hd (cs := #[.slice none 0 0, .slice none 0 0, .slice none 0 0, .slice none 0 0]) (t := 30) ?hr ?_; (case hd => rfl); (case hg => rfl); (case hr => first | (go_simp; done) | (go_simp; rfl)); intro g2 hg_ w2 hbox hb; have s2 := (s1.more hb (a := blk g2 30 #[.slice none 0 0, .slice none 0 0, .slice none 0 0, .slice none 0 0]) (f := fun k => k = g2) ⟨fun _ => Iff.rfl, hbox⟩ (fun k hk => by omega)).1; clear hb hbox hg_) | ((with_reducible refine gate_dst (N := 3) rfl ?_); refine box_event ?hg (N := 3) ?hd (cs := #[.slice none 0 0, .slice none 0 0, .slice none 0 0, .slice none 0 0]) (t := 30) ?hr ?_; (case hd => rfl); (case hg => rfl); (case hr => first | (go_simp; done) | (go_simp; rfl)); intro g3 hg_ w3 hbox hb; have s3 := (s2.more hb (a := blk g3 30 #[.slice none 0 0, .slice none 0 0, .slice none 0 0, .slice none 0 0]) (f := fun k => k = g3) ⟨fun _ => Iff.rfl, hbox⟩ (fun k hk => by omega)).1; clear hb hbox hg_; have hx0 : w3.cell? ⟨g1, 0, none⟩ = some (.int .i64 a0_0) := (blk_cell (s3.at_blk (i := 2) rfl) 0).trans rfl; have hx1 : w3.cell? ⟨g1, 1, none⟩ = some (.string a0_1) := (blk_cell (s3.at_blk (i := 2) rfl) 1).trans rfl; have hx2 : w3.cell? ⟨g1, 2, none⟩ = some (.string a0_2) := (blk_cell (s3.at_blk (i := 2) rfl) 2).trans rfl; have hx3 : w3.cell? ⟨g1, 3, none⟩ = some (.slice A0_3 l0_3.length c0_3) := (blk_cell (s3.at_blk (i := 2) rfl) 3).trans rfl) | ((with_reducible refine gate_callee (f := 24) rfl ?_); refine goesL_ (some 5) rfl rfl Tryd.func24 (by kernel_rfl) rfl #[.agg #[.int .i64 a0_0, .string a0_1, .string a0_2, .slice A0_3 l0_3.length c0_3]] rfl (by (try simp only [List.map_toArray, List.map_cons, List.map_nil]); first | done | rfl) ?_; refine (tree_Copy.calls k a0_0 a0_1 a0_2 A0_3 c0_3 l0_3 _ _ _ _ _ (Kd.C_below hr0_3 s3.below) hc0_3 hk).mono ?_; rintro e w5 ⟨v3, rfl, hR, hB⟩; refine ⟨_, rfl, ?_⟩; obtain ⟨A5, c5, rfl⟩ := Kd.R_slice hR; have s5 := s3.freeze hB; have hf5 := Kd.F_mono (Kd.R_F (Kd.R_bound hR)) (ok' := fun k => w3.heap.size ≤ k ∧ k < w5.heap.size) (fun k hk => ⟨hk.2.1, hk.2.2.1⟩); have hl5 := own_le (Kd.R_own hR).choose_spec; have ho5 := Kd.R_own hR; clear hx0 hx1 hx2 hx3) | ((with_reducible refine gate_callee (f := 23) rfl ?_); refine goesL_ (some 6) rfl rfl Tryd.func23 (by kernel_rfl) rfl #[.pointer (some ⟨g3, 0, none⟩), .agg #[.int .i64 a0_0, .string a0_1, .string a0_2, .slice A5 l0_3.length c5], .int .i64 (-1)] rfl (by (try simp only [List.map_toArray, List.map_cons, List.map_nil]); first | done | rfl) ?_; have HP := Pl.start s5 (Φ := fun k => w3.heap.size ≤ k ∧ k < w5.heap.size) (fun k hk => .inl (.inr hk)); refine (add_calls _ ⟨a0_0, a0_1, a0_2, l0_3⟩ (Nat.le_refl _) w _ _ g3 _ _ _ (-1) A5 c5 _ HP hf5 hl5 (by simpa using hsz) (by simpa [sumK] using hsz)).mono ?_; rintro e w6 ⟨rfl, ⟨⟨nn, pp, zz, kk, cn, us⟩, HP6, hpre⟩, sm6⟩; obtain ⟨An, qn, en⟩ := own_slice (HP6.st.at_row (i := 1) rfl); have fn : nn = .slice An _ qn := en; clear en; subst fn; obtain ⟨Ap, qp, ep⟩ := own_slice (HP6.st.at_row (i := 2) rfl); have fp : pp = .slice Ap _ qp := ep; clear ep; subst fp; obtain ⟨Az, qz, ez⟩ := own_slice (HP6.st.at_row (i := 3) rfl); have fz : zz = .slice Az _ qz := ez; clear ez; subst fz; obtain ⟨Ak, qk, ek⟩ := own_slice (HP6.st.at_row (i := 4) rfl); have fk : kk = .slice Ak _ qk := ek; clear ek; subst fk; refine ⟨_, rfl, ?_⟩; have hq0 := HP6.st.at_blk (i := 0) rfl; have hy0 : w6.cell? ⟨g3, 0, none⟩ = some (.slice An _ qn) := (blk_cell hq0 0).trans rfl; have hy1 : w6.cell? ⟨g3, 1, none⟩ = some (.slice Ap _ qp) := (blk_cell hq0 1).trans rfl; have hy2 : w6.cell? ⟨g3, 2, none⟩ = some (.slice Az _ qz) := (blk_cell hq0 2).trans rfl; have hy3 : w6.cell? ⟨g3, 3, none⟩ = some (.slice Ak _ qk) := (blk_cell hq0 3).trans rfl; have hq2 := HP6.st.at_blk (i := 6) rfl; have hz0 : w6.cell? ⟨g2, 0, none⟩ = some (.slice none 0 0) := (blk_cell hq2 0).trans rfl; have hz1 : w6.cell? ⟨g2, 1, none⟩ = some (.slice none 0 0) := (blk_cell hq2 1).trans rfl; have hz2 : w6.cell? ⟨g2, 2, none⟩ = some (.slice none 0 0) := (blk_cell hq2 2).trans rfl; have hz3 : w6.cell? ⟨g2, 3, none⟩ = some (.slice none 0 0) := (blk_cell hq2 3).trans rfl; have hfz0 := blk_frozen hq2 0; have hfz1 := blk_frozen hq2 1; have hfz2 := blk_frozen hq2 2; have hfz3 := blk_frozen hq2 3; have hne : g2 ≠ g3 := fun e_ => (by obtain ⟨fa, fb, ha, hb_, hd_⟩ := Hs.apart HP6.st.hs.choose_spec.1 (i := 6) (j := 0) rfl rfl (by decide); exact hd_ g2 ((ha.1 g2).2 rfl) ((hb_.1 g2).2 e_)); have hne2 : g3 ≠ g2 := fun e_ => hne e_.symm))
 have t0_ := HP6.st.set (i := 6) rfl 0 (.slice An (addN ⟨a0_0, a0_1, a0_2, l0_3⟩ (-1) ⟨[], [], [], []⟩).N.length qn)
 have t1_ := t0_.1.set (i := 6) rfl 1 (.slice Ap (addN ⟨a0_0, a0_1, a0_2, l0_3⟩ (-1) ⟨[], [], [], []⟩).N.length qp)
 have t2_ := t1_.1.set (i := 6) rfl 2 (.slice Az (addN ⟨a0_0, a0_1, a0_2, l0_3⟩ (-1) ⟨[], [], [], []⟩).N.length qz)
 have t3_ := t2_.1.set (i := 6) rfl 3 (.slice Ak (addN ⟨a0_0, a0_1, a0_2, l0_3⟩ (-1) ⟨[], [], [], []⟩).N.length qk)
 have hbk := t3_.1.at_blk (i := 6) rfl
 have HPf := (HP6.same t3_.1 (t0_.2.trans (t1_.2.trans (t2_.2.trans t3_.2)))).out (fun k hk => ⟨.inr hk, by have := s3.below.size; omega⟩)
 refine bodyPost_ret (results_cell_row rfl _ _ g2 30 _ (0, 0) _ rfl hbk hu30 rfl rfl) rfl ?_
 refine ⟨_, _, _, _, rfl, HPf.1, HPf.2.1, HPf.2.2.1, HPf.2.2.2, t3_.1.below, ?_⟩
 obtain ⟨inner, ho5⟩ := ho5
 have smf := sm6.trans (t0_.2.trans (t1_.2.trans (t2_.2.trans t3_.2)))
 have hown := own_weaken (own_move ho5 (fun k hk => smf.same k (.inl (.inr ⟨own_base ho5 k hk, own_lt ho5 k hk⟩)) (own_lt ho5 k hk))) (base' := w.heap.size) (by have := s3.below.size; omega)
 obtain ⟨hcl, hrow⟩ := t3_.1.at_row (i := 1) rfl
 have hnl : (addN ⟨a0_0, a0_1, a0_2, l0_3⟩ (-1) ⟨[], [], [], []⟩).N.length = nsz ⟨a0_0, a0_1, a0_2, l0_3⟩ := by rw [addN_len]; simp
 have hn0 : 0 < nsz ⟨a0_0, a0_1, a0_2, l0_3⟩ := by simp only [nsz]; omega
 rcases hrow with ⟨_, h0⟩ | ⟨gN, cap, cur, eN, _, hg, _, _, _, htk⟩
 · omega
 · refine ⟨gN, cap, cur, A5, c5, inner, ?_, hg, ?_, hown⟩
   · exact eN ▸ rfl
   have htk' : cur.toList.take ((addN ⟨a0_0, a0_1, a0_2, l0_3⟩ (-1) ⟨[], [], [], []⟩).N.length * 4) = cn := htk
   obtain ⟨q, hq⟩ := hpre
   have hq' : [.int .i64 a0_0, .string a0_1, .string a0_2, .slice A5 l0_3.length c5] ++ q = cn := by simpa using hq
   have h4 : (cur.toList.take ((addN ⟨a0_0, a0_1, a0_2, l0_3⟩ (-1) ⟨[], [], [], []⟩).N.length * 4)).take 4 = cur.toList.take 4 := by rw [List.take_take, Nat.min_eq_left (by rw [hnl]; omega)]
   rw [← h4, htk', ← hq']
   rfl
theorem shape_Of.calls (a0_0 : Int) (a0_1 : ByteArray) (a0_2 : ByteArray) (A0_3 : Option Addr) (c0_3 : Nat) (l0_3 : List (S24)) (r1 : List (S24)) (r2 : List Int) (r3 : List Int) (r4 : List (List Int)) (w : World) (hr0_3 : Kd.C k24 w A0_3 l0_3.length l0_3) (hc0_3 : l0_3.length ≤ c0_3) (h : shape_Of.f a0_0 a0_1 a0_2 l0_3 = some (r1, r2, r3, r4)) :
  Calls Tryd.prog 10 #[.agg #[.int .i64 a0_0, .string a0_1, .string a0_2, .slice A0_3 l0_3.length c0_3]] w fun e w' => ∃ v0_ v1_ v2_ v3_ : Value, e = .returned (.agg #[v0_, v1_, v2_, v3_]) ∧ Kd.N k24 24 w' w.heap.size (fun k_ => (w.heap.size ≤ k_) ∧ some k_ ≠ (v1_ : Value).ownBlock ∧ some k_ ≠ (v2_ : Value).ownBlock ∧ some k_ ≠ (v3_ : Value).ownBlock) v0_ r1 ∧ Kd.R (Kd.int .i64) 3 w' w.heap.size (fun k_ => (w.heap.size ≤ k_) ∧ some k_ ≠ (v2_ : Value).ownBlock) v1_ r2 ∧ Kd.R (Kd.int .i64) 3 w' w.heap.size (fun k_ => (w.heap.size ≤ k_) ∧ some k_ ≠ (v1_ : Value).ownBlock) v2_ r3 ∧ Kd.S (Kd.slice 3 (Kd.int .i64)) 27 w' w.heap.size (fun k_ => (w.heap.size ≤ k_) ∧ some k_ ≠ (v1_ : Value).ownBlock ∧ some k_ ≠ (v2_ : Value).ownBlock) v3_ r4 ∧ Below w.heap.size w w' :=
 (shape_Of.callsK a0_0 a0_1 a0_2 A0_3 c0_3 l0_3 r1 r2 r3 r4 w hr0_3 hc0_3 h).mono fun e w' ⟨v0, v1, v2, v3, h1, h2, h3, h4, h5, h6, _⟩ => ⟨v0, v1, v2, v3, h1, h2, h3, h4, h5, h6⟩
end Go.Proofs.YtfmlpkeaiohknaaDoor.Q
