/- The texts of this claim that lie below its row, in their order: MAdd. -/
import Derived.Test.YtfmlpkeaiohknaaZP3
-- Written by a program of this session (wip/gen_add1.py) for this claim; Lean checks it.
set_option linter.unusedVariables false
set_option linter.unusedSimpArgs false
namespace Go.Proofs.Ytfmlpkeaiohknaa.Q
open Go.RowKit Go.Proofs.YtfmlpkeaiohknaaW.PrintWords Go.Proofs.YtfmlpkeaiohknaaW.PrintLast Go.Proofs.YtfmlpkeaiohknaaW.PrintMore Go.Proofs.YtfmlpkeaiohknaaW.SL
attribute [local go_sem] max2_int min2_int max_two min_two max_three min_three max_four min_four
theorem info36 : (Try.prog.info? 36).map (fun i => (i.zero, i.size, i.bytes)) = some (some (.slice none 0 0), 1, 24) := by kernel_rfl
def add.T2 : Bool × List (List Nat × List Nat) := (true, [([], []), ([], []), ([], []), ([], []), ([], []), ([4], [4]), ([5], [5]), ([6], [6]), ([], []), ([8], [8]), ([7, 9], [7, 9]), ([], []), ([11], [11]), ([12], [12]), ([13], [13]), ([], []), ([15], [15]), ([14, 16, 10], [14, 16]), ([], []), ([18], [18]), ([19], [19]), ([20], [20]), ([], []), ([21, 22, 17], [21, 22]), ([], []), ([24], [24]), ([25], [25]), ([26], [26]), ([], []), ([27, 28, 23], [27, 28]), ([0, 0, 4, 5, 6, 7, 8, 9, 10, 14, 17, 21, 23, 27, 29], [0]), ([30, 0, 4, 5, 6, 7, 8, 9, 10, 14, 17, 21, 23, 27, 29], [30]), ([31, 10, 29, 0, 4, 5, 6, 7, 8, 9, 10, 14, 17, 21, 23, 27, 29], [10, 31]), ([1, 0, 1, 4, 5, 6, 7, 8, 9, 10, 11, 12, 13, 14, 15, 16, 17, 21, 23, 27, 29, 30, 31, 32], [1]), ([33, 0, 1, 4, 5, 6, 7, 8, 9, 10, 11, 12, 13, 14, 15, 16, 17, 21, 23, 27, 29, 30, 31, 32], [33]), ([34, 17, 32, 0, 1, 4, 5, 6, 7, 8, 9, 10, 11, 12, 13, 14, 15, 16, 17, 21, 23, 27, 29, 30, 31, 32], [17, 34]), ([2, 0, 1, 2, 4, 5, 6, 7, 8, 9, 10, 11, 12, 13, 14, 15, 16, 17, 18, 19, 20, 21, 22, 23, 27, 29, 30, 31, 32, 33, 34, 35], [2]), ([36, 0, 1, 2, 4, 5, 6, 7, 8, 9, 10, 11, 12, 13, 14, 15, 16, 17, 18, 19, 20, 21, 22, 23, 27, 29, 30, 31, 32, 33, 34, 35], [36]), ([37, 23, 35, 0, 1, 2, 4, 5, 6, 7, 8, 9, 10, 11, 12, 13, 14, 15, 16, 17, 18, 19, 20, 21, 22, 23, 27, 29, 30, 31, 32, 33, 34, 35], [23, 37]), ([3, 0, 1, 2, 3, 4, 5, 6, 7, 8, 9, 10, 11, 12, 13, 14, 15, 16, 17, 18, 19, 20, 21, 22, 23, 24, 25, 26, 27, 28, 29, 30, 31, 32, 33, 34, 35, 36, 37, 38], [3]), ([39, 0, 1, 2, 3, 4, 5, 6, 7, 8, 9, 10, 11, 12, 13, 14, 15, 16, 17, 18, 19, 20, 21, 22, 23, 24, 25, 26, 27, 28, 29, 30, 31, 32, 33, 34, 35, 36, 37, 38], [39]), ([40, 29, 38, 0, 1, 2, 3, 4, 5, 6, 7, 8, 9, 10, 11, 12, 13, 14, 15, 16, 17, 18, 19, 20, 21, 22, 23, 24, 25, 26, 27, 28, 29, 30, 31, 32, 33, 34, 35, 36, 37, 38], [29, 40])])
def add.B2 : List Nat := [0, 0, 0, 0, 0, 16, 48, 112, 0, 256, 1008, 0, 2048, 6144, 14336, 0, 32768, 131056, 0, 262144, 786432, 1835008, 0, 8388592, 0, 16777216, 50331648, 117440512, 0, 536870896, 1073741809, 2147483633, 4294967281, 8589934579, 17179869171, 34359738355, 68719476727, 137438953463, 274877906935, 549755813887, 1099511627775, 2199023255551]
theorem add.tab2 : rtab .any (opsOf Try.f40 2) = add.T2 := by kernel_rfl
theorem add.bits2 : waitsOk add.T2.2 add.B2 = true := by kernel_rfl
def add.T7 : Bool × List (List Nat × List Nat) := (true, [([], []), ([0], [0]), ([1], [1]), ([2], [2]), ([], []), ([], []), ([5], [5]), ([6], [6]), ([7], [7]), ([], []), ([8, 9], [8, 9]), ([10], [10]), ([], []), ([12], [12]), ([11, 13], [11, 13]), ([3, 4, 0, 1, 2, 3, 4, 5, 6, 7, 8, 9, 10, 11, 12, 13, 14], [3, 4]), ([15, 14, 14, 0, 1, 2, 3, 4, 5, 6, 7, 8, 9, 10, 11, 12, 13, 14], [14, 15])])
def add.B7 : List Nat := [0, 1, 3, 7, 0, 0, 32, 96, 224, 0, 992, 2016, 0, 4096, 16352, 32767, 65535]
theorem add.tab7 : rtab .any (opsOf Try.f40 7) = add.T7 := by kernel_rfl
theorem add.bits7 : waitsOk add.T7.2 add.B7 = true := by kernel_rfl
def add.T9 : Bool × List (List Nat × List Nat) := (true, [([], []), ([0], [0]), ([1], [1]), ([2], [2]), ([], []), ([], []), ([5], [5]), ([6], [6]), ([7], [7]), ([8], [8]), ([], []), ([9, 10], [9, 10]), ([3, 4, 0, 1, 2, 3, 4, 5, 6, 7, 8, 9, 10, 11], [3, 4]), ([12, 11, 0, 1, 2, 3, 4, 5, 6, 7, 8, 9, 10, 11], [11, 12])])
def add.B9 : List Nat := [0, 1, 3, 7, 0, 0, 32, 96, 224, 480, 0, 2016, 4095, 8191]
theorem add.tab9 : rtab .any (opsOf Try.f40 9) = add.T9 := by kernel_rfl
theorem add.bits9 : waitsOk add.T9.2 add.B9 = true := by kernel_rfl
abbrev ints (l : List Int) : List Value := l.map (.int .i64)
def inn : List Value → List (List Int) → List Asr
  | u :: us, l :: ls => row u 3 1 l.length (ints l) :: inn us ls
  | _, _ => []
theorem inn_snoc : ∀ {us : List Value} {ls : List (List Int)}, us.length = ls.length → ∀ u l, inn (us ++ [u]) (ls ++ [l]) = inn us ls ++ [row u 3 1 l.length (ints l)]
  | [], [], _, u, l => rfl
  | a :: us, b :: ls, h, u, l => by simp only [List.cons_append, inn]; rw [inn_snoc (by simpa using h)]
theorem inn_at : ∀ {us : List Value} {ls : List (List Int)} {j : Nat} {u : Value} {l : List Int}, us[j]? = some u → ls[j]? = some l → (inn us ls)[j]? = some (row u 3 1 l.length (ints l))
  | a :: us, b :: ls, 0, u, l, h1, h2 => by simp at h1 h2; subst h1 h2; rfl
  | a :: us, b :: ls, j + 1, u, l, h1, h2 => by simp only [inn, List.getElem?_cons_succ] at *; exact inn_at h1 h2
theorem inn_set : ∀ {us : List Value} {ls : List (List Int)} {j : Nat} (u : Value) (l : List Int), us.length = ls.length → inn (us.set j u) (ls.set j l) = (inn us ls).set j (row u 3 1 l.length (ints l))
  | [], [], _, _, _, _ => rfl
  | a :: us, b :: ls, 0, u, l, h => rfl
  | a :: us, b :: ls, j + 1, u, l, h => by simp only [inn, List.set_cons_succ]; rw [inn_set u l (by simpa using h)]
/-- Where a plan's parts lie. -/
structure PV where
  n : Value
  p : Value
  z : Value
  k : Value
  cn : List Value
  us : List Value
def plan (g : Nat) (v : PV) (s : PS) : List Asr := [blk g 71 #[v.n, v.p, v.z, v.k], row v.n 24 4 s.N.length v.cn, row v.p 3 1 s.N.length (ints s.P), row v.z 3 1 s.N.length (ints s.Z), row v.k 36 1 s.N.length v.us, grp (inn v.us s.K)]
structure Pl (w0 : World) (Z Φ : Nat → Prop) (g : Nat) (v : PV) (s : PS) (X : List Asr) (w : World) : Prop where
  st : St w0 Z (plan g v s ++ X) w
  phi : ∀ k, Φ k → Z k ∨ k < w0.heap.size
  nodes : ∀ (j : Nat) (x : S24), s.N[j]? = some x → Kd.FK k24 w Φ x ((v.cn.drop (j * 4)).take 4)
  p : s.P.length = s.N.length
  z : s.Z.length = s.N.length
  k : s.K.length = s.N.length
  u : v.us.length = s.N.length
  c : v.cn.length = s.N.length * 4
  one : ∀ u ∈ v.cn, u.oneCell' = true
theorem Pl.same {w0 : World} {Z Φ : Nat → Prop} {g : Nat} {v : PV} {s : PS} {X X' : List Asr} {w w' : World} (h : Pl w0 Z Φ g v s X w) (st : St w0 Z (plan g v s ++ X') w') (hs : Same w0 Z w w') : Pl w0 Z Φ g v s X' w' :=
  ⟨st, h.phi, fun j x hj => hs.fk (h.nodes j x hj) h.phi, h.p, h.z, h.k, h.u, h.c, h.one⟩
section
variable {w0 w w' W : World} {Z Φ : Nat → Prop} {g : Nat} {v : PV} {s : PS} {X : List Asr} {x : S24} {cx : List Value} {parent : Int} {nn pp zz kk : Value} {e1 e2 e3 e4 : Asr}
theorem Pl.snoc (h : Pl w0 Z Φ g v s X w) (hs : Same w0 Z w w') (hx : Kd.FK k24 w' Φ x cx)
    (st : St w0 Z ([blk g 71 #[nn, pp, zz, kk], row nn 24 4 (s.N.length + 1) (v.cn ++ cx), row pp 3 1 (s.N.length + 1) (ints s.P ++ [.int .i64 parent]), row zz 3 1 (s.N.length + 1) (ints s.Z ++ [.int .i64 0]), row kk 36 1 (s.N.length + 1) (v.us ++ [.slice none 0 0]), grp (inn v.us s.K), e1, e2, e3, e4] ++ X) w') :
    Pl w0 Z Φ g ⟨nn, pp, zz, kk, v.cn ++ cx, v.us ++ [.slice none 0 0]⟩ ⟨s.N ++ [x], s.P ++ [parent], s.Z ++ [0], s.K ++ [[]]⟩ X w' := by
  have hk := h.k; have hu := h.u; have hp := h.p; have hz := h.z; have hc := h.c
  have hcx : cx.length = 4 := k24.K_len (Kd.FK_now hx)
  have h1 := st.sub_nil (i := 5) rfl 3 1
  have h2 := h1.perm (l' := [e1, e2, e3, e4] ++ (plan g ⟨nn, pp, zz, kk, v.cn ++ cx, v.us ++ [.slice none 0 0]⟩ ⟨s.N ++ [x], s.P ++ [parent], s.Z ++ [0], s.K ++ [[]]⟩ ++ X)) (by
    rw [← List.append_assoc]
    refine List.Perm.trans (List.Perm.of_eq ?_) ((List.perm_append_comm (l₁ := plan g ⟨nn, pp, zz, kk, v.cn ++ cx, v.us ++ [.slice none 0 0]⟩ ⟨s.N ++ [x], s.P ++ [parent], s.Z ++ [0], s.K ++ [[]]⟩) (l₂ := [e1, e2, e3, e4])).append_right X)
    simp only [plan, List.length_append, List.length_cons, List.length_nil, Nat.zero_add, ints, List.map_append, List.map_cons, List.map_nil, inn_snoc (hu.trans hk.symm), List.cons_append, List.nil_append, List.set_cons_succ, List.set_cons_zero])
  refine ⟨h2.drop.drop.drop.drop, h.phi, fun j y hj => ?_, by simp [hp], by simp [hz], by simp [hk], by simp [hu], by simp [hc, hcx]; omega, fun u hm => ?_⟩
  · simp only at hj ⊢
    by_cases hl : j < s.N.length
    · rw [List.getElem?_append_left hl] at hj
      have h3 := hs.fk (h.nodes j y hj) h.phi
      rw [List.drop_append_of_le_length (by omega), List.take_append_of_le_length (by rw [List.length_drop]; omega)]
      exact h3
    · have hjl := (List.getElem?_eq_some_iff.1 hj).1
      simp only [List.length_append, List.length_cons, List.length_nil, Nat.zero_add] at hjl
      have hje : j = s.N.length := by omega
      subst hje
      have hyx : y = x := by simpa using hj.symm
      subst hyx
      rw [← hc, List.drop_left, ← hcx, List.take_length]
      exact hx
  · rcases List.mem_append.1 hm with hm | hm
    · exact h.one u hm
    · exact k24.K_one (Kd.FK_now hx) u hm
theorem own_set' {e n k cap : Nat} {xs : List Value} (h : w.ownsRow 0 e 1 (.slice (some ⟨g, 0, none⟩) n cap) n xs) (hk : k < n) (u : Value) : (w.setCell ⟨g, k, none⟩ u).ownsRow 0 e 1 (.slice (some ⟨g, 0, none⟩) n cap) n (xs.set k u) ∧ w.grownBy (w.setCell ⟨g, k, none⟩ u) (Value.slice (some ⟨g, 0, none⟩) n cap).ownBlock ∧ (∃ t, xs[k]? = some t ∧ w.cell? ⟨g, k, none⟩ = some t) ∧ w.frozen? ⟨g, k, none⟩ = false := by
  obtain ⟨g', cap', he, h2⟩ := own_set h hk u
  injection he with h3 _ _
  injection h3 with h4
  injection h4 with h5
  subst h5
  exact h2
theorem nszL_get : ∀ {l : List S24} {j : Nat} {x : S24}, l[j]? = some x → nszL (l.drop j) = nsz x + nszL (l.drop (j + 1))
  | [], _, _, h => by simp at h
  | a :: r, 0, x, h => by simp at h; subst h; simp [nszL]
  | a :: r, j + 1, x, h => by simp only [List.drop_succ_cons]; exact nszL_get (by simpa using h)
theorem nszL_drop : ∀ (l : List S24) (j : Nat), nszL (l.drop j) ≤ nszL l
  | [], j => by simp
  | a :: r, 0 => by simp
  | a :: r, j + 1 => by simp only [List.drop_succ_cons, nszL]; have := nszL_drop r j; omega
mutual
theorem addN_len : ∀ (x : S24) (p : Int) (s : PS), (addN x p s).N.length = s.N.length + nsz x
  | ⟨a, b, c, l⟩, p, s => by simp only [addN, nsz]; rw [addL_len]; simp; omega
theorem addL_len : ∀ (l : List S24) (a : Nat) (s : PS), (addL l a s).N.length = s.N.length + nszL l
  | [], a, s => by simp [addL, nszL]
  | k :: r, a, s => by simp only [addL, nszL]; rw [addL_len r]; simp only []; rw [addN_len k]; omega
theorem len_nszL : ∀ (l : List S24), l.length ≤ nszL l
  | [] => by simp
  | ⟨a, b, c, r⟩ :: l => by have := len_nszL l; simp only [List.length_cons, nszL, nsz]; omega
end
def sumK (l : List (List Int)) : Nat := (l.map List.length).sum
theorem sumK_set : ∀ (l : List (List Int)) (i : Nat) (v : Int), sumK (l.set i (l.getD i [] ++ [v])) ≤ sumK l + 1
  | [], i, v => by simp [sumK]
  | a :: r, 0, v => by simp [sumK]; omega
  | a :: r, i + 1, v => by have := sumK_set r i v; simp only [sumK, List.getD_cons_succ, List.set_cons_succ, List.map_cons, List.sum_cons] at *; omega
theorem sumK_mem : ∀ {l : List (List Int)} {i : Nat} {x : List Int}, l[i]? = some x → x.length ≤ sumK l
  | [], _, _, h => by simp at h
  | a :: r, 0, x, h => by simp at h; subst h; simp [sumK]
  | a :: r, i + 1, x, h => by have := sumK_mem (l := r) (i := i) (x := x) (by simpa using h); simp only [sumK, List.map_cons, List.sum_cons] at *; omega
mutual
theorem addN_sum : ∀ (x : S24) (p : Int) (s : PS), sumK (addN x p s).K + 1 ≤ sumK s.K + nsz x
  | ⟨a, b, c, l⟩, p, s => by
    have := addL_sum l s.N.length ⟨s.N ++ [⟨a, b, c, l⟩], s.P ++ [p], s.Z ++ [0], s.K ++ [[]]⟩
    have h2 : sumK (s.K ++ [[]]) = sumK s.K := by simp [sumK]
    simp only [addN, nsz] at *; omega
theorem addL_sum : ∀ (l : List S24) (a : Nat) (s : PS), sumK (addL l a s).K ≤ sumK s.K + nszL l
  | [], a, s => by simp [addL, nszL]
  | k :: r, a, s => by
    have h1 := addN_sum k a s
    have h2 := sumK_set (addN k a s).K a s.N.length
    have h3 := addL_sum r a { (addN k a s) with K := (addN k a s).K.set a ((addN k a s).K.getD a [] ++ [(s.N.length : Int)]) }
    simp only [addL, nszL] at *; omega
end
end
def r9L (g : Nat) (n2 p2 z2 k2 : Value) (cn2 us2 : List Value) (s2 : PS) (at_ : Nat) (d : Int) (X : List Asr) (b : Nat → Bool) : List Asr :=
 [blk g 71 #[n2, p2, z2, k2], row n2 24 4 s2.N.length cn2, row p2 3 1 s2.N.length (ints s2.P), row z2 3 1 s2.N.length (cond (b 13) ((ints s2.Z).set at_ (.int .i64 d)) (ints s2.Z)), row k2 36 1 s2.N.length us2, grp (inn us2 s2.K)] ++ X
def r7L (g : Nat) (n3 p3 z3 k3 : Value) (cn3 us3 : List Value) (s3 : PS) (at_ : Nat) (kid : Int) (kl : List Int) (X : List Asr) (b : Nat → Bool) (tt uu : Value) : List Asr :=
 [blk g 71 #[n3, p3, z3, k3], row n3 24 4 s3.N.length cn3, row p3 3 1 s3.N.length (ints s3.P), row z3 3 1 s3.N.length (ints s3.Z), row k3 36 1 s3.N.length (cond (b 16) (us3.set at_ uu) us3),
  grp (cond (b 14) ((inn us3 s3.K).set at_ (row uu 3 1 (kl.length + 1) (ints kl ++ [.int .i64 kid]))) (inn us3 s3.K)), cond (b 13) (row tt 3 1 1 [.int .i64 kid]) emp] ++ X
def r2L (g : Nat) (v : PV) (s : PS) (cx : List Value) (parent : Int) (gb : Nat) (X : List Asr) (b : Nat → Bool) (nn pp zz kk t9 t16 t22 t28 : Value) : List Asr :=
 [blk g 71 #[cond (b 32) nn v.n, cond (b 35) pp v.p, cond (b 38) zz v.z, cond (b 41) kk v.k],
  cond (b 10) (row nn 24 4 (s.N.length + 1) (v.cn ++ cx)) (row v.n 24 4 s.N.length v.cn), cond (b 17) (row pp 3 1 (s.N.length + 1) (ints s.P ++ [.int .i64 parent])) (row v.p 3 1 s.N.length (ints s.P)),
  cond (b 23) (row zz 3 1 (s.N.length + 1) (ints s.Z ++ [.int .i64 0])) (row v.z 3 1 s.N.length (ints s.Z)), cond (b 29) (row kk 36 1 (s.N.length + 1) (v.us ++ [.slice none 0 0])) (row v.k 36 1 s.N.length v.us), grp (inn v.us s.K),
  cond (b 9) (row t9 24 4 1 cx) emp, cond (b 16) (row t16 3 1 1 [.int .i64 parent]) emp, cond (b 22) (row t22 3 1 1 [.int .i64 0]) emp, cond (b 28) (row t28 36 1 1 [.slice none 0 0]) emp] ++ X
set_option maxHeartbeats 8000000 in
set_option maxRecDepth 100000 in
theorem add_calls : ∀ (m : Nat) (x : S24), nsz x ≤ m → ∀ (w0 : World) (Z Φ : Nat → Prop) (g : Nat) (v : PV) (s : PS) (X : List Asr) (parent : Int) (A : Option Addr) (c : Nat) (w : World),
    Pl w0 Z Φ g v s X w → Kd.F k24 w Φ A x.f3.length x.f3 → x.f3.length ≤ c → s.N.length + nsz x ≤ 1000000 → sumK s.K + nsz x ≤ 1000000 →
    Calls Try.prog 40 #[.pointer (some ⟨g, 0, none⟩), .agg #[.int .i64 x.f0, .string x.f1, .string x.f2, .slice A x.f3.length c], .int .i64 parent] w
      fun e w' => e = .returned (.int .i64 s.N.length) ∧ (∃ v', Pl w0 Z Φ g v' (addN x parent s) X w' ∧ List.IsPrefix (v.cn ++ [.int .i64 x.f0, .string x.f1, .string x.f2, .slice A x.f3.length c]) v'.cn) ∧ Same w0 Z w w' := by
 intro m
 induction m with
 | zero => intro x hx; exact absurd hx (by cases x; simp [nsz])
 | succ m ih =>
 rintro ⟨a0, a1, a2, l⟩ hx w0 Z Φ g v s X parent A c w HP HF hc hlen hsum
 simp only [] at HF hc ⊢
 have hu24 := Try.underlying24
 have hn := HP.p
 have hΦ := HP.phi
 go_enter Try.func40, Try.ntmps40
 go_wp2_with (first | ((with_reducible refine gate_dst (N := 4) rfl ?_); refine box_event ?hg (N := 4) ?hd (cs := #[.int .i64 a0, .string a1, .string a2, .slice A l.length c]) (t := 24) ?hr ?_; (case hd => rfl); (case hg => rfl); (case hr => first | (go_simp; done) | (go_simp; rfl)); intro gb hgb w1 hbox hb; have q1_ := HP.st.more hb (a := blk gb 24 #[.int .i64 a0, .string a1, .string a2, .slice A l.length c]) (f := fun k => k = gb) ⟨fun _ => Iff.rfl, hbox⟩ (fun k hk => by omega); have HP1 := HP.same (X' := blk gb 24 #[.int .i64 a0, .string a1, .string a2, .slice A l.length c] :: X) (q1_.1.perm List.perm_middle.symm) q1_.2; have hsA := q1_.2; clear q1_ HP hb hbox hgb; obtain ⟨A0, c0, e0⟩ := own_slice (HP1.st.at_row (i := 1) rfl); have hcz0 : w1.cell? ⟨g, 0, none⟩ = some (.slice A0 s.N.length c0) := (blk_cell (HP1.st.at_blk (i := 0) rfl) 0).trans (by rw [e0]; rfl); have hcz1 : w1.cell? ⟨gb, 3, none⟩ = some (.slice A l.length c) := (blk_cell (HP1.st.at_blk (i := 6) rfl) 3).trans rfl))
 obtain ⟨st2, sm2⟩ := HP1.st.keep (below_drew1 (Below.refl w1.heap.size w1))
 have HP2 := HP1.same st2 sm2
 have S : (St w0 Z (r2L g v s [.int .i64 a0, .string a1, .string a2, .slice A l.length c] parent gb (blk gb 24 #[.int .i64 a0, .string a1, .string a2, .slice A l.length c] :: X) (fun _ => false) (.bool false) (.bool false) (.bool false) (.bool false) (.bool false) (.bool false) (.bool false) (.bool false)) w1.drew ∧ Same w0 Z w1.drew w1.drew) := ⟨st2.emp_new.emp_new.emp_new.emp_new.perm ((List.perm_append_comm (l₁ := [emp, emp, emp, emp]) (l₂ := plan g v s)).append_right (blk gb 24 #[.int .i64 a0, .string a1, .string a2, .slice A l.length c] :: X)), Same.refl _ _ _⟩
 have hNl : s.N.length < 1000000 := by simp only [nsz] at hlen; omega
 refine start_ (n := 42) (S := fun w' => True) (ds := []) #[false, false, false, false, false, false, false, false, false, false, false, false, false, false, false, false, false, false, false, false, false, false, false, false, false, false, false, false, false, false, false, false, false, false, false, false, false, false, false, false, false, false] (by kernel_rfl) rfl rfl trivial (fun hHeld => ?_)
 refine with_tabW add.tab2 add.bits2 (fun HT_ HW_ => ?_)
 generalize w1.drew = w2 at S hHeld HP2 sm2 ⊢
 refine pure_ (i := 0) (N := some 16) (v := ?_) (a' := ?_) #[true, false, false, false, false, false, false, false, false, false, false, false, false, false, false, false, false, false, false, false, false, false, false, false, false, false, false, false, false, false, false, false, false, false, false, false, false, false, false, false, false, false] rfl rfl (any_of HT_.out (by kernel_rfl)) (fun _ _ _ h => h) (Or.inl ⟨by rfl, ?_⟩) ?_ ?_
 rotate_left
 · intro w'
   go_simp
   with_reducible rfl
 rotate_left
 · simp only [Act.put, List.setIfInBounds_toArray, List.set_cons_zero, List.set_cons_succ, i64_w, i32_w]
   rfl
 refine pure_ (i := 1) (N := some 17) (v := ?_) (a' := ?_) #[true, true, false, false, false, false, false, false, false, false, false, false, false, false, false, false, false, false, false, false, false, false, false, false, false, false, false, false, false, false, false, false, false, false, false, false, false, false, false, false, false, false] rfl rfl (any_of HT_.out (by kernel_rfl)) (fun _ _ _ h => h) (Or.inl ⟨by rfl, ?_⟩) ?_ ?_
 rotate_left
 · intro w'
   go_simp
   with_reducible rfl
 rotate_left
 · simp only [Act.put, List.setIfInBounds_toArray, List.set_cons_zero, List.set_cons_succ, i64_w, i32_w]
   rfl
 refine pure_ (i := 2) (N := some 18) (v := ?_) (a' := ?_) #[true, true, true, false, false, false, false, false, false, false, false, false, false, false, false, false, false, false, false, false, false, false, false, false, false, false, false, false, false, false, false, false, false, false, false, false, false, false, false, false, false, false] rfl rfl (any_of HT_.out (by kernel_rfl)) (fun _ _ _ h => h) (Or.inl ⟨by rfl, ?_⟩) ?_ ?_
 rotate_left
 · intro w'
   go_simp
   with_reducible rfl
 rotate_left
 · simp only [Act.put, List.setIfInBounds_toArray, List.set_cons_zero, List.set_cons_succ, i64_w, i32_w]
   rfl
 refine pure_ (i := 3) (N := some 19) (v := ?_) (a' := ?_) #[true, true, true, true, false, false, false, false, false, false, false, false, false, false, false, false, false, false, false, false, false, false, false, false, false, false, false, false, false, false, false, false, false, false, false, false, false, false, false, false, false, false] rfl rfl (any_of HT_.out (by kernel_rfl)) (fun _ _ _ h => h) (Or.inl ⟨by rfl, ?_⟩) ?_ ?_
 rotate_left
 · intro w'
   go_simp
   with_reducible rfl
 rotate_left
 · simp only [Act.put, List.setIfInBounds_toArray, List.set_cons_zero, List.set_cons_succ, i64_w, i32_w]
   rfl
 refine pure_ (i := 4) (N := some 20) (v := ?_) (a' := ?_) #[true, true, true, true, true, false, false, false, false, false, false, false, false, false, false, false, false, false, false, false, false, false, false, false, false, false, false, false, false, false, false, false, false, false, false, false, false, false, false, false, false, false] rfl rfl (any_of HT_.out (by kernel_rfl)) (fun _ _ _ h => h) (Or.inl ⟨by rfl, ?_⟩) ?_ ?_
 rotate_left
 · intro w'
   go_simp
   with_reducible rfl
 rotate_left
 · simp only [Act.put, List.setIfInBounds_toArray, List.set_cons_zero, List.set_cons_succ, i64_w, i32_w]
   rfl
 refine pure_ (i := 5) (N := some 21) (v := ?_) (a' := ?_) #[true, true, true, true, true, true, false, false, false, false, false, false, false, false, false, false, false, false, false, false, false, false, false, false, false, false, false, false, false, false, false, false, false, false, false, false, false, false, false, false, false, false] rfl rfl (any_of HT_.out (by kernel_rfl)) (fun _ _ _ h => h) (Or.inl ⟨by rfl, ?_⟩) ?_ ?_
 rotate_left
 · intro w'
   go_simp
   with_reducible rfl
 rotate_left
 · simp only [Act.put, List.setIfInBounds_toArray, List.set_cons_zero, List.set_cons_succ, i64_w, i32_w]
   rfl
 refine pure_ (i := 6) (N := some 22) (v := ?_) (a' := ?_) #[true, true, true, true, true, true, true, false, false, false, false, false, false, false, false, false, false, false, false, false, false, false, false, false, false, false, false, false, false, false, false, false, false, false, false, false, false, false, false, false, false, false] rfl rfl (any_of HT_.out (by kernel_rfl)) (fun _ _ _ h => h) (Or.inl ⟨by rfl, ?_⟩) ?_ ?_
 rotate_left
 · intro w'
   go_simp
   with_reducible rfl
 rotate_left
 · simp only [Act.put, List.setIfInBounds_toArray, List.set_cons_zero, List.set_cons_succ, i64_w, i32_w]
   rfl
 refine pure_ (i := 11) (N := some 27) (v := ?_) (a' := ?_) #[true, true, true, true, true, true, true, false, false, false, false, true, false, false, false, false, false, false, false, false, false, false, false, false, false, false, false, false, false, false, false, false, false, false, false, false, false, false, false, false, false, false] rfl rfl (any_of HT_.out (by kernel_rfl)) (fun _ _ _ h => h) (Or.inl ⟨by rfl, ?_⟩) ?_ ?_
 rotate_left
 · intro w'
   go_simp
   with_reducible rfl
 rotate_left
 · simp only [Act.put, List.setIfInBounds_toArray, List.set_cons_zero, List.set_cons_succ, i64_w, i32_w]
   rfl
 refine pure_ (i := 12) (N := some 28) (v := ?_) (a' := ?_) #[true, true, true, true, true, true, true, false, false, false, false, true, true, false, false, false, false, false, false, false, false, false, false, false, false, false, false, false, false, false, false, false, false, false, false, false, false, false, false, false, false, false] rfl rfl (any_of HT_.out (by kernel_rfl)) (fun _ _ _ h => h) (Or.inl ⟨by rfl, ?_⟩) ?_ ?_
 rotate_left
 · intro w'
   go_simp
   with_reducible rfl
 rotate_left
 · simp only [Act.put, List.setIfInBounds_toArray, List.set_cons_zero, List.set_cons_succ, i64_w, i32_w]
   rfl
 refine pure_ (i := 13) (N := some 29) (v := ?_) (a' := ?_) #[true, true, true, true, true, true, true, false, false, false, false, true, true, true, false, false, false, false, false, false, false, false, false, false, false, false, false, false, false, false, false, false, false, false, false, false, false, false, false, false, false, false] rfl rfl (any_of HT_.out (by kernel_rfl)) (fun _ _ _ h => h) (Or.inl ⟨by rfl, ?_⟩) ?_ ?_
 rotate_left
 · intro w'
   go_simp
   with_reducible rfl
 rotate_left
 · simp only [Act.put, List.setIfInBounds_toArray, List.set_cons_zero, List.set_cons_succ, i64_w, i32_w]
   rfl
 refine pure_ (i := 15) (N := some 31) (v := ?_) (a' := ?_) #[true, true, true, true, true, true, true, false, false, false, false, true, true, true, false, true, false, false, false, false, false, false, false, false, false, false, false, false, false, false, false, false, false, false, false, false, false, false, false, false, false, false] rfl rfl (any_of HT_.out (by kernel_rfl)) (fun _ _ _ h => h) (Or.inl ⟨by rfl, ?_⟩) ?_ ?_
 rotate_left
 · intro w'
   go_simp
   with_reducible rfl
 rotate_left
 · simp only [Act.put, List.setIfInBounds_toArray, List.set_cons_zero, List.set_cons_succ, i64_w, i32_w]
   rfl
 refine pure_ (i := 18) (N := some 34) (v := ?_) (a' := ?_) #[true, true, true, true, true, true, true, false, false, false, false, true, true, true, false, true, false, false, true, false, false, false, false, false, false, false, false, false, false, false, false, false, false, false, false, false, false, false, false, false, false, false] rfl rfl (any_of HT_.out (by kernel_rfl)) (fun _ _ _ h => h) (Or.inl ⟨by rfl, ?_⟩) ?_ ?_
 rotate_left
 · intro w'
   go_simp
   with_reducible rfl
 rotate_left
 · simp only [Act.put, List.setIfInBounds_toArray, List.set_cons_zero, List.set_cons_succ, i64_w, i32_w]
   rfl
 refine pure_ (i := 19) (N := some 35) (v := ?_) (a' := ?_) #[true, true, true, true, true, true, true, false, false, false, false, true, true, true, false, true, false, false, true, true, false, false, false, false, false, false, false, false, false, false, false, false, false, false, false, false, false, false, false, false, false, false] rfl rfl (any_of HT_.out (by kernel_rfl)) (fun _ _ _ h => h) (Or.inl ⟨by rfl, ?_⟩) ?_ ?_
 rotate_left
 · intro w'
   go_simp
   with_reducible rfl
 rotate_left
 · simp only [Act.put, List.setIfInBounds_toArray, List.set_cons_zero, List.set_cons_succ, i64_w, i32_w]
   rfl
 refine pure_ (i := 20) (N := some 36) (v := ?_) (a' := ?_) #[true, true, true, true, true, true, true, false, false, false, false, true, true, true, false, true, false, false, true, true, true, false, false, false, false, false, false, false, false, false, false, false, false, false, false, false, false, false, false, false, false, false] rfl rfl (any_of HT_.out (by kernel_rfl)) (fun _ _ _ h => h) (Or.inl ⟨by rfl, ?_⟩) ?_ ?_
 rotate_left
 · intro w'
   go_simp
   with_reducible rfl
 rotate_left
 · simp only [Act.put, List.setIfInBounds_toArray, List.set_cons_zero, List.set_cons_succ, i64_w, i32_w]
   rfl
 refine pure_ (i := 24) (N := some 40) (v := ?_) (a' := ?_) #[true, true, true, true, true, true, true, false, false, false, false, true, true, true, false, true, false, false, true, true, true, false, false, false, true, false, false, false, false, false, false, false, false, false, false, false, false, false, false, false, false, false] rfl rfl (any_of HT_.out (by kernel_rfl)) (fun _ _ _ h => h) (Or.inl ⟨by rfl, ?_⟩) ?_ ?_
 rotate_left
 · intro w'
   go_simp
   with_reducible rfl
 rotate_left
 · simp only [Act.put, List.setIfInBounds_toArray, List.set_cons_zero, List.set_cons_succ, i64_w, i32_w]
   rfl
 refine pure_ (i := 25) (N := some 41) (v := ?_) (a' := ?_) #[true, true, true, true, true, true, true, false, false, false, false, true, true, true, false, true, false, false, true, true, true, false, false, false, true, true, false, false, false, false, false, false, false, false, false, false, false, false, false, false, false, false] rfl rfl (any_of HT_.out (by kernel_rfl)) (fun _ _ _ h => h) (Or.inl ⟨by rfl, ?_⟩) ?_ ?_
 rotate_left
 · intro w'
   go_simp
   with_reducible rfl
 rotate_left
 · simp only [Act.put, List.setIfInBounds_toArray, List.set_cons_zero, List.set_cons_succ, i64_w, i32_w]
   rfl
 refine pure_ (i := 26) (N := some 42) (v := ?_) (a' := ?_) #[true, true, true, true, true, true, true, false, false, false, false, true, true, true, false, true, false, false, true, true, true, false, false, false, true, true, true, false, false, false, false, false, false, false, false, false, false, false, false, false, false, false] rfl rfl (any_of HT_.out (by kernel_rfl)) (fun _ _ _ h => h) (Or.inl ⟨by rfl, ?_⟩) ?_ ?_
 rotate_left
 · intro w'
   go_simp
   with_reducible rfl
 rotate_left
 · simp only [Act.put, List.setIfInBounds_toArray, List.set_cons_zero, List.set_cons_succ, i64_w, i32_w]
   rfl
 refine inv_at [7, 8, 9, 10, 14, 16, 17, 21, 22, 23, 27, 28, 29, 30, 31, 32, 33, 34, 35, 36, 37, 38, 39, 40, 41] (fun a0_ b a w' => ∃ (nn : Value) (pp : Value) (zz : Value) (kk : Value) (t9 : Value) (t16 : Value) (t22 : Value) (t28 : Value), a = putSel a0_ b [(7, 23, v.n), (8, 24, (.agg #[.int .i64 a0, .string a1, .string a2, .slice A l.length c] : Value)), (9, 25, t9), (10, 26, nn), (14, 30, v.p), (16, 32, t16), (17, 33, pp), (21, 37, v.z), (22, 38, t22), (23, 39, zz), (27, 43, v.k), (28, 44, t28), (29, 45, kk), (30, 46, .pointer (some ⟨g, 0, none⟩)), (31, 47, .pointer (some ⟨g, 0, none⟩)), (33, 48, .pointer (some ⟨g, 0, none⟩)), (34, 49, .pointer (some ⟨g, 1, none⟩)), (36, 50, .pointer (some ⟨g, 0, none⟩)), (37, 51, .pointer (some ⟨g, 2, none⟩)), (39, 52, .pointer (some ⟨g, 0, none⟩)), (40, 53, .pointer (some ⟨g, 3, none⟩))] ∧ ((St w0 Z (r2L g v s [.int .i64 a0, .string a1, .string a2, .slice A l.length c] parent gb (blk gb 24 #[.int .i64 a0, .string a1, .string a2, .slice A l.length c] :: X) b nn pp zz kk t9 t16 t22 t28) w' ∧ Same w0 Z w2 w'))) HT_.out HW_.out (by kernel_rfl) (by kernel_rfl) ?_ ?_ ?_
 · exact ⟨.bool false, .bool false, .bool false, .bool false, .bool false, .bool false, .bool false, .bool false, by simp only [putSel, Bool.false_eq_true, if_false], S⟩
 · skip
   clear S
   refine steps_cons ?_ ?_
   · rintro b a w' ⟨nn, pp, zz, kk, t9, t16, t22, t28, ha, Q_S⟩ hb_ hon hoff
     refine ⟨_, rfl, fun K hK => ?_⟩
     have e22 : a.tmps[22]? = some (.pointer (some ⟨g, 0, none⟩)) := by rw [ha]; exact (putSel_off rfl).trans rfl
     replace ha := Aside0.mk ha
     have S := Aside0.mk Q_S
     have hc_ : w'.cell? ⟨g, 0, none⟩ = some v.n := (blk_cell (S.out.1.at_blk (i := 0) rfl) 0).trans (by rw [(hoff 32 (by kernel_rfl))]; rfl)
     refine value_ (w1 := w') (v := v.n) (by rfl) rfl ?_ ?_
     · go_simp
       (try simp only [i64_w])
       try rfl
     refine hK.out _ _ ⟨nn, pp, zz, kk, t9, t16, t22, t28, (by rw [ha.out]; exact putSel_upk 0 hb_ rfl rfl rfl), Q_S⟩
   refine steps_cons ?_ ?_
   · rintro b a w' ⟨nn, pp, zz, kk, t9, t16, t22, t28, ha, Q_S⟩ hb_ hon hoff
     refine ⟨_, rfl, fun K hK => ?_⟩
     have e4 : a.tmps[4]? = some (.pointer (some ⟨gb, 0, none⟩)) := by rw [ha]; exact (putSel_off rfl).trans rfl
     replace ha := Aside0.mk ha
     have S := Aside0.mk Q_S
     have hbb_ := S.out.1.at_blk (i := 10) rfl
     have hd0_ : w'.cell? ⟨gb, 0, none⟩ = some (.int .i64 a0) := (blk_cell hbb_ 0).trans rfl
     have hd1_ : w'.cell? ⟨gb, 1, none⟩ = some (.string a1) := (blk_cell hbb_ 1).trans rfl
     have hd2_ : w'.cell? ⟨gb, 2, none⟩ = some (.string a2) := (blk_cell hbb_ 2).trans rfl
     have hd3_ : w'.cell? ⟨gb, 3, none⟩ = some (.slice A l.length c) := (blk_cell hbb_ 3).trans rfl
     refine value_ (w1 := w') (v := (.agg #[.int .i64 a0, .string a1, .string a2, .slice A l.length c] : Value)) (by rfl) rfl ?_ ?_
     · go_simp
       (try simp only [i64_w])
       try rfl
     refine hK.out _ _ ⟨nn, pp, zz, kk, t9, t16, t22, t28, (by rw [ha.out]; exact putSel_upk 1 hb_ rfl rfl rfl), Q_S⟩
   refine steps_cons ?_ ?_
   · rintro b a w' ⟨nn, pp, zz, kk, t9, t16, t22, t28, ha, Q_S⟩ hb_ hon hoff
     refine ⟨_, rfl, fun K hK => ?_⟩
     have e24 : a.tmps[24]? = some ((.agg #[.int .i64 a0, .string a1, .string a2, .slice A l.length c] : Value)) := by rw [ha]; exact putSel_on (e := (8, 24, (.agg #[.int .i64 a0, .string a1, .string a2, .slice A l.length c] : Value))) 1 rfl rfl (hon 8 (by kernel_rfl)) rfl
     replace ha := Aside0.mk ha
     have S := Aside0.mk Q_S
     refine value_ (w1 := w'.alloc (.cells #[.int .i64 a0, .string a1, .string a2, .slice A l.length c] 24)) (v := .slice (some ⟨w'.heap.size, 0, none⟩) 1 1) (by rfl) rfl ?_ ?_
     · go_simp
       try rfl
     have S2_ := S.out.1.lit (i := 6) (by simp only [r2L, hb_]; rfl) 24 4 1 (by decide) (by decide) [.int .i64 a0, .string a1, .string a2, .slice A l.length c] rfl
     have S3_ : (St w0 Z (r2L g v s [.int .i64 a0, .string a1, .string a2, .slice A l.length c] parent gb (blk gb 24 #[.int .i64 a0, .string a1, .string a2, .slice A l.length c] :: X) (up b 9) nn pp zz kk (.slice (some ⟨w'.heap.size, 0, none⟩) 1 1) t16 t22 t28) (w'.alloc (.cells #[.int .i64 a0, .string a1, .string a2, .slice A l.length c] 24)) ∧ Same w0 Z w2 (w'.alloc (.cells #[.int .i64 a0, .string a1, .string a2, .slice A l.length c] 24))) := ⟨by have h_ := S2_.1; simp only [r2L, List.cons_append, List.nil_append, List.set_cons_zero, List.set_cons_succ, List.setIfInBounds_toArray, up, Nat.reduceEqDiff, reduceIte, cond_true, cond_false, hb_, (hoff 10 (by kernel_rfl))] at h_ ⊢; exact h_, S.out.2.trans S2_.2⟩
     refine hK.out _ _ ⟨nn, pp, zz, kk, (.slice (some ⟨w'.heap.size, 0, none⟩) 1 1), t16, t22, t28, (by rw [ha.out]; exact putSel_upk 2 hb_ rfl rfl rfl), S3_⟩
   refine steps_cons ?_ ?_
   · rintro b a w' ⟨nn, pp, zz, kk, t9, t16, t22, t28, ha, Q_S⟩ hb_ hon hoff
     refine ⟨_, rfl, fun K hK => ?_⟩
     have e23 : a.tmps[23]? = some (v.n) := by rw [ha]; exact putSel_on (e := (7, 23, v.n)) 0 rfl rfl (hon 7 (by kernel_rfl)) rfl
     have e25 : a.tmps[25]? = some (t9) := by rw [ha]; exact putSel_on (e := (9, 25, t9)) 2 rfl rfl (hon 9 (by kernel_rfl)) rfl
     replace ha := Aside0.mk ha
     have S := Aside0.mk Q_S
     refine app_step (by rfl) (.tmp 23) (.tmp 25) 22 24 (.agg #[.int .i64 0, .string ⟨#[]⟩, .string ⟨#[]⟩, .slice none 0 0]) 4 64 rfl Try.underlying22 info24 rfl (by decide) (by decide) v.n t9 s.N.length (v.cn) [.int .i64 a0, .string a1, .string a2, .slice A l.length c] (eval_of e23) (eval_of e25) (by simp [Value.oneCell']) (S.out.1.at_row (i := 1) (by simp only [r2L, hb_]; rfl)) (S.out.1.at_row (i := 6) (by simp only [r2L, (hon 9 (by kernel_rfl))]; rfl)) (by omega) ?_
     intro v1 w1 ho hg hat
     have S2_ := S.out.1.row_upd (i := 1) (by simp only [r2L, hb_]; rfl) ho hg hat
     have S3_ : (St w0 Z (r2L g v s [.int .i64 a0, .string a1, .string a2, .slice A l.length c] parent gb (blk gb 24 #[.int .i64 a0, .string a1, .string a2, .slice A l.length c] :: X) (up b 10) v1 pp zz kk t9 t16 t22 t28) w1 ∧ Same w0 Z w2 w1) := ⟨by have h_ := S2_.1; simp only [r2L, List.cons_append, List.nil_append, List.set_cons_zero, List.set_cons_succ, List.setIfInBounds_toArray, up, Nat.reduceEqDiff, reduceIte, cond_true, cond_false, hb_, (hon 9 (by kernel_rfl)), (hoff 32 (by kernel_rfl))] at h_ ⊢; exact h_, S.out.2.trans S2_.2⟩
     refine hK.out _ _ ⟨v1, pp, zz, kk, t9, t16, t22, t28, (by rw [ha.out]; exact putSel_upk 3 hb_ rfl rfl rfl), S3_⟩
   refine steps_cons ?_ ?_
   · rintro b a w' ⟨nn, pp, zz, kk, t9, t16, t22, t28, ha, Q_S⟩ hb_ hon hoff
     refine ⟨_, rfl, fun K hK => ?_⟩
     have e29 : a.tmps[29]? = some (.pointer (some ⟨g, 1, none⟩)) := by rw [ha]; exact (putSel_off rfl).trans rfl
     replace ha := Aside0.mk ha
     have S := Aside0.mk Q_S
     have hc_ : w'.cell? ⟨g, 1, none⟩ = some v.p := (blk_cell (S.out.1.at_blk (i := 0) rfl) 1).trans (by rw [(hoff 35 (by kernel_rfl))]; rfl)
     refine value_ (w1 := w') (v := v.p) (by rfl) rfl ?_ ?_
     · go_simp
       (try simp only [i64_w])
       try rfl
     refine hK.out _ _ ⟨nn, pp, zz, kk, t9, t16, t22, t28, (by rw [ha.out]; exact putSel_upk 4 hb_ rfl rfl rfl), Q_S⟩
   refine steps_cons ?_ ?_
   · rintro b a w' ⟨nn, pp, zz, kk, t9, t16, t22, t28, ha, Q_S⟩ hb_ hon hoff
     refine ⟨_, rfl, fun K hK => ?_⟩
     have e31 : a.tmps[31]? = some (.int .i64 parent) := by rw [ha]; exact (putSel_off rfl).trans rfl
     replace ha := Aside0.mk ha
     have S := Aside0.mk Q_S
     refine value_ (w1 := w'.alloc (.cells #[.int .i64 parent] 3)) (v := .slice (some ⟨w'.heap.size, 0, none⟩) 1 1) (by rfl) rfl ?_ ?_
     · go_simp
       try rfl
     have S2_ := S.out.1.lit (i := 7) (by simp only [r2L, hb_]; rfl) 3 1 1 (by decide) (by decide) [.int .i64 parent] rfl
     have S3_ : (St w0 Z (r2L g v s [.int .i64 a0, .string a1, .string a2, .slice A l.length c] parent gb (blk gb 24 #[.int .i64 a0, .string a1, .string a2, .slice A l.length c] :: X) (up b 16) nn pp zz kk t9 (.slice (some ⟨w'.heap.size, 0, none⟩) 1 1) t22 t28) (w'.alloc (.cells #[.int .i64 parent] 3)) ∧ Same w0 Z w2 (w'.alloc (.cells #[.int .i64 parent] 3))) := ⟨by have h_ := S2_.1; simp only [r2L, List.cons_append, List.nil_append, List.set_cons_zero, List.set_cons_succ, List.setIfInBounds_toArray, up, Nat.reduceEqDiff, reduceIte, cond_true, cond_false, hb_, (hoff 17 (by kernel_rfl))] at h_ ⊢; exact h_, S.out.2.trans S2_.2⟩
     refine hK.out _ _ ⟨nn, pp, zz, kk, t9, (.slice (some ⟨w'.heap.size, 0, none⟩) 1 1), t22, t28, (by rw [ha.out]; exact putSel_upk 5 hb_ rfl rfl rfl), S3_⟩
   refine steps_cons ?_ ?_
   · rintro b a w' ⟨nn, pp, zz, kk, t9, t16, t22, t28, ha, Q_S⟩ hb_ hon hoff
     refine ⟨_, rfl, fun K hK => ?_⟩
     have e30 : a.tmps[30]? = some (v.p) := by rw [ha]; exact putSel_on (e := (14, 30, v.p)) 4 rfl rfl (hon 14 (by kernel_rfl)) rfl
     have e32 : a.tmps[32]? = some (t16) := by rw [ha]; exact putSel_on (e := (16, 32, t16)) 5 rfl rfl (hon 16 (by kernel_rfl)) rfl
     replace ha := Aside0.mk ha
     have S := Aside0.mk Q_S
     refine app_step (by rfl) (.tmp 30) (.tmp 32) 36 3 (.int .i64 0) 1 8 rfl Try.underlying36 info3 rfl (by decide) (by decide) v.p t16 s.N.length (ints s.P) [.int .i64 parent] (eval_of e30) (eval_of e32) (by simp [Value.oneCell']) (S.out.1.at_row (i := 2) (by simp only [r2L, hb_]; rfl)) (S.out.1.at_row (i := 7) (by simp only [r2L, (hon 16 (by kernel_rfl))]; rfl)) (by omega) ?_
     intro v1 w1 ho hg hat
     have S2_ := S.out.1.row_upd (i := 2) (by simp only [r2L, hb_]; rfl) ho hg hat
     have S3_ : (St w0 Z (r2L g v s [.int .i64 a0, .string a1, .string a2, .slice A l.length c] parent gb (blk gb 24 #[.int .i64 a0, .string a1, .string a2, .slice A l.length c] :: X) (up b 17) nn v1 zz kk t9 t16 t22 t28) w1 ∧ Same w0 Z w2 w1) := ⟨by have h_ := S2_.1; simp only [r2L, List.cons_append, List.nil_append, List.set_cons_zero, List.set_cons_succ, List.setIfInBounds_toArray, up, Nat.reduceEqDiff, reduceIte, cond_true, cond_false, hb_, (hon 16 (by kernel_rfl)), (hoff 35 (by kernel_rfl))] at h_ ⊢; exact h_, S.out.2.trans S2_.2⟩
     refine hK.out _ _ ⟨nn, v1, zz, kk, t9, t16, t22, t28, (by rw [ha.out]; exact putSel_upk 6 hb_ rfl rfl rfl), S3_⟩
   refine steps_cons ?_ ?_
   · rintro b a w' ⟨nn, pp, zz, kk, t9, t16, t22, t28, ha, Q_S⟩ hb_ hon hoff
     refine ⟨_, rfl, fun K hK => ?_⟩
     have e36 : a.tmps[36]? = some (.pointer (some ⟨g, 2, none⟩)) := by rw [ha]; exact (putSel_off rfl).trans rfl
     replace ha := Aside0.mk ha
     have S := Aside0.mk Q_S
     have hc_ : w'.cell? ⟨g, 2, none⟩ = some v.z := (blk_cell (S.out.1.at_blk (i := 0) rfl) 2).trans (by rw [(hoff 38 (by kernel_rfl))]; rfl)
     refine value_ (w1 := w') (v := v.z) (by rfl) rfl ?_ ?_
     · go_simp
       (try simp only [i64_w])
       try rfl
     refine hK.out _ _ ⟨nn, pp, zz, kk, t9, t16, t22, t28, (by rw [ha.out]; exact putSel_upk 7 hb_ rfl rfl rfl), Q_S⟩
   refine steps_cons ?_ ?_
   · rintro b a w' ⟨nn, pp, zz, kk, t9, t16, t22, t28, ha, Q_S⟩ hb_ hon hoff
     refine ⟨_, rfl, fun K hK => ?_⟩
     replace ha := Aside0.mk ha
     have S := Aside0.mk Q_S
     refine value_ (w1 := w'.alloc (.cells #[.int .i64 0] 3)) (v := .slice (some ⟨w'.heap.size, 0, none⟩) 1 1) (by rfl) rfl ?_ ?_
     · go_simp
       try rfl
     have S2_ := S.out.1.lit (i := 8) (by simp only [r2L, hb_]; rfl) 3 1 1 (by decide) (by decide) [.int .i64 0] rfl
     have S3_ : (St w0 Z (r2L g v s [.int .i64 a0, .string a1, .string a2, .slice A l.length c] parent gb (blk gb 24 #[.int .i64 a0, .string a1, .string a2, .slice A l.length c] :: X) (up b 22) nn pp zz kk t9 t16 (.slice (some ⟨w'.heap.size, 0, none⟩) 1 1) t28) (w'.alloc (.cells #[.int .i64 0] 3)) ∧ Same w0 Z w2 (w'.alloc (.cells #[.int .i64 0] 3))) := ⟨by have h_ := S2_.1; simp only [r2L, List.cons_append, List.nil_append, List.set_cons_zero, List.set_cons_succ, List.setIfInBounds_toArray, up, Nat.reduceEqDiff, reduceIte, cond_true, cond_false, hb_, (hoff 23 (by kernel_rfl))] at h_ ⊢; exact h_, S.out.2.trans S2_.2⟩
     refine hK.out _ _ ⟨nn, pp, zz, kk, t9, t16, (.slice (some ⟨w'.heap.size, 0, none⟩) 1 1), t28, (by rw [ha.out]; exact putSel_upk 8 hb_ rfl rfl rfl), S3_⟩
   refine steps_cons ?_ ?_
   · rintro b a w' ⟨nn, pp, zz, kk, t9, t16, t22, t28, ha, Q_S⟩ hb_ hon hoff
     refine ⟨_, rfl, fun K hK => ?_⟩
     have e37 : a.tmps[37]? = some (v.z) := by rw [ha]; exact putSel_on (e := (21, 37, v.z)) 7 rfl rfl (hon 21 (by kernel_rfl)) rfl
     have e38 : a.tmps[38]? = some (t22) := by rw [ha]; exact putSel_on (e := (22, 38, t22)) 8 rfl rfl (hon 22 (by kernel_rfl)) rfl
     replace ha := Aside0.mk ha
     have S := Aside0.mk Q_S
     refine app_step (by rfl) (.tmp 37) (.tmp 38) 36 3 (.int .i64 0) 1 8 rfl Try.underlying36 info3 rfl (by decide) (by decide) v.z t22 s.N.length (ints s.Z) [.int .i64 0] (eval_of e37) (eval_of e38) (by simp [Value.oneCell']) (S.out.1.at_row (i := 3) (by simp only [r2L, hb_]; rfl)) (S.out.1.at_row (i := 8) (by simp only [r2L, (hon 22 (by kernel_rfl))]; rfl)) (by omega) ?_
     intro v1 w1 ho hg hat
     have S2_ := S.out.1.row_upd (i := 3) (by simp only [r2L, hb_]; rfl) ho hg hat
     have S3_ : (St w0 Z (r2L g v s [.int .i64 a0, .string a1, .string a2, .slice A l.length c] parent gb (blk gb 24 #[.int .i64 a0, .string a1, .string a2, .slice A l.length c] :: X) (up b 23) nn pp v1 kk t9 t16 t22 t28) w1 ∧ Same w0 Z w2 w1) := ⟨by have h_ := S2_.1; simp only [r2L, List.cons_append, List.nil_append, List.set_cons_zero, List.set_cons_succ, List.setIfInBounds_toArray, up, Nat.reduceEqDiff, reduceIte, cond_true, cond_false, hb_, (hon 22 (by kernel_rfl)), (hoff 38 (by kernel_rfl))] at h_ ⊢; exact h_, S.out.2.trans S2_.2⟩
     refine hK.out _ _ ⟨nn, pp, v1, kk, t9, t16, t22, t28, (by rw [ha.out]; exact putSel_upk 9 hb_ rfl rfl rfl), S3_⟩
   refine steps_cons ?_ ?_
   · rintro b a w' ⟨nn, pp, zz, kk, t9, t16, t22, t28, ha, Q_S⟩ hb_ hon hoff
     refine ⟨_, rfl, fun K hK => ?_⟩
     have e42 : a.tmps[42]? = some (.pointer (some ⟨g, 3, none⟩)) := by rw [ha]; exact (putSel_off rfl).trans rfl
     replace ha := Aside0.mk ha
     have S := Aside0.mk Q_S
     have hc_ : w'.cell? ⟨g, 3, none⟩ = some v.k := (blk_cell (S.out.1.at_blk (i := 0) rfl) 3).trans (by rw [(hoff 41 (by kernel_rfl))]; rfl)
     refine value_ (w1 := w') (v := v.k) (by rfl) rfl ?_ ?_
     · go_simp
       (try simp only [i64_w])
       try rfl
     refine hK.out _ _ ⟨nn, pp, zz, kk, t9, t16, t22, t28, (by rw [ha.out]; exact putSel_upk 10 hb_ rfl rfl rfl), Q_S⟩
   refine steps_cons ?_ ?_
   · rintro b a w' ⟨nn, pp, zz, kk, t9, t16, t22, t28, ha, Q_S⟩ hb_ hon hoff
     refine ⟨_, rfl, fun K hK => ?_⟩
     replace ha := Aside0.mk ha
     have S := Aside0.mk Q_S
     refine value_ (w1 := w'.alloc (.cells #[.slice none 0 0] 36)) (v := .slice (some ⟨w'.heap.size, 0, none⟩) 1 1) (by rfl) rfl ?_ ?_
     · go_simp
       try rfl
     have S2_ := S.out.1.lit (i := 9) (by simp only [r2L, hb_]; rfl) 36 1 1 (by decide) (by decide) [.slice none 0 0] rfl
     have S3_ : (St w0 Z (r2L g v s [.int .i64 a0, .string a1, .string a2, .slice A l.length c] parent gb (blk gb 24 #[.int .i64 a0, .string a1, .string a2, .slice A l.length c] :: X) (up b 28) nn pp zz kk t9 t16 t22 (.slice (some ⟨w'.heap.size, 0, none⟩) 1 1)) (w'.alloc (.cells #[.slice none 0 0] 36)) ∧ Same w0 Z w2 (w'.alloc (.cells #[.slice none 0 0] 36))) := ⟨by have h_ := S2_.1; simp only [r2L, List.cons_append, List.nil_append, List.set_cons_zero, List.set_cons_succ, List.setIfInBounds_toArray, up, Nat.reduceEqDiff, reduceIte, cond_true, cond_false, hb_, (hoff 29 (by kernel_rfl))] at h_ ⊢; exact h_, S.out.2.trans S2_.2⟩
     refine hK.out _ _ ⟨nn, pp, zz, kk, t9, t16, t22, (.slice (some ⟨w'.heap.size, 0, none⟩) 1 1), (by rw [ha.out]; exact putSel_upk 11 hb_ rfl rfl rfl), S3_⟩
   refine steps_cons ?_ ?_
   · rintro b a w' ⟨nn, pp, zz, kk, t9, t16, t22, t28, ha, Q_S⟩ hb_ hon hoff
     refine ⟨_, rfl, fun K hK => ?_⟩
     have e43 : a.tmps[43]? = some (v.k) := by rw [ha]; exact putSel_on (e := (27, 43, v.k)) 10 rfl rfl (hon 27 (by kernel_rfl)) rfl
     have e44 : a.tmps[44]? = some (t28) := by rw [ha]; exact putSel_on (e := (28, 44, t28)) 11 rfl rfl (hon 28 (by kernel_rfl)) rfl
     replace ha := Aside0.mk ha
     have S := Aside0.mk Q_S
     refine app_step (by rfl) (.tmp 43) (.tmp 44) 37 36 (.slice none 0 0) 1 24 rfl Try.underlying37 info36 rfl (by decide) (by decide) v.k t28 s.N.length (v.us) [.slice none 0 0] (eval_of e43) (eval_of e44) (by simp [Value.oneCell']) (S.out.1.at_row (i := 4) (by simp only [r2L, hb_]; rfl)) (S.out.1.at_row (i := 9) (by simp only [r2L, (hon 28 (by kernel_rfl))]; rfl)) (by omega) ?_
     intro v1 w1 ho hg hat
     have S2_ := S.out.1.row_upd (i := 4) (by simp only [r2L, hb_]; rfl) ho hg hat
     have S3_ : (St w0 Z (r2L g v s [.int .i64 a0, .string a1, .string a2, .slice A l.length c] parent gb (blk gb 24 #[.int .i64 a0, .string a1, .string a2, .slice A l.length c] :: X) (up b 29) nn pp zz v1 t9 t16 t22 t28) w1 ∧ Same w0 Z w2 w1) := ⟨by have h_ := S2_.1; simp only [r2L, List.cons_append, List.nil_append, List.set_cons_zero, List.set_cons_succ, List.setIfInBounds_toArray, up, Nat.reduceEqDiff, reduceIte, cond_true, cond_false, hb_, (hon 28 (by kernel_rfl)), (hoff 41 (by kernel_rfl))] at h_ ⊢; exact h_, S.out.2.trans S2_.2⟩
     refine hK.out _ _ ⟨nn, pp, zz, v1, t9, t16, t22, t28, (by rw [ha.out]; exact putSel_upk 12 hb_ rfl rfl rfl), S3_⟩
   refine steps_cons ?_ ?_
   · rintro b a w' ⟨nn, pp, zz, kk, t9, t16, t22, t28, ha, Q_S⟩ hb_ hon hoff
     refine ⟨_, rfl, fun K hK => ?_⟩
     have e16 : a.tmps[16]? = some (.pointer (some ⟨g, 0, none⟩)) := by rw [ha]; exact (putSel_off rfl).trans rfl
     replace ha := Aside0.mk ha
     have S := Aside0.mk Q_S
     refine value_ (w1 := w') (v := .pointer (some ⟨g, 0, none⟩)) (by rfl) rfl ?_ ?_
     · go_simp
       (try simp only [i64_w])
       try rfl
     refine hK.out _ _ ⟨nn, pp, zz, kk, t9, t16, t22, t28, (by rw [ha.out]; exact putSel_upk 13 hb_ rfl rfl rfl), Q_S⟩
   refine steps_cons ?_ ?_
   · rintro b a w' ⟨nn, pp, zz, kk, t9, t16, t22, t28, ha, Q_S⟩ hb_ hon hoff
     refine ⟨_, rfl, fun K hK => ?_⟩
     have e46 : a.tmps[46]? = some (.pointer (some ⟨g, 0, none⟩)) := by rw [ha]; exact putSel_on (e := (30, 46, .pointer (some ⟨g, 0, none⟩))) 13 rfl rfl (hon 30 (by kernel_rfl)) rfl
     replace ha := Aside0.mk ha
     have S := Aside0.mk Q_S
     refine value_ (w1 := w') (v := .pointer (some ⟨g, 0, none⟩)) (by rfl) rfl ?_ ?_
     · go_simp
       (try simp only [i64_w])
       try rfl
     refine hK.out _ _ ⟨nn, pp, zz, kk, t9, t16, t22, t28, (by rw [ha.out]; exact putSel_upk 14 hb_ rfl rfl rfl), Q_S⟩
   refine steps_cons ?_ ?_
   · rintro b a w' ⟨nn, pp, zz, kk, t9, t16, t22, t28, ha, Q_S⟩ hb_ hon hoff
     refine ⟨_, rfl, fun K hK => ?_⟩
     have e47 : a.tmps[47]? = some (.pointer (some ⟨g, 0, none⟩)) := by rw [ha]; exact putSel_on (e := (31, 47, .pointer (some ⟨g, 0, none⟩))) 14 rfl rfl (hon 31 (by kernel_rfl)) rfl
     have e26 : a.tmps[26]? = some (nn) := by rw [ha]; exact putSel_on (e := (10, 26, nn)) 3 rfl rfl (hon 10 (by kernel_rfl)) rfl
     replace ha := Aside0.mk ha
     have S := Aside0.mk Q_S
     have hb0_ := S.out.1.at_blk (i := 0) rfl
     have hc_ : w'.cell? ⟨g, 0, none⟩ = some v.n := (blk_cell hb0_ 0).trans (by rw [hb_]; rfl)
     have hf_ := blk_frozen hb0_ 0
     obtain ⟨A_, c_, en_⟩ := own_slice (S.out.1.at_row (i := 1) (by simp only [r2L, (hon 10 (by kernel_rfl))]; rfl))
     refine skip_ (w1 := w'.setCell ⟨g, 0, none⟩ nn) (by rfl) rfl ?_ ?_
     · rw [en_] at e26 ⊢
       go_simp
       try rfl
     have S2_ := S.out.1.set (i := 0) rfl 0 nn
     have S3_ : (St w0 Z (r2L g v s [.int .i64 a0, .string a1, .string a2, .slice A l.length c] parent gb (blk gb 24 #[.int .i64 a0, .string a1, .string a2, .slice A l.length c] :: X) (up b 32) nn pp zz kk t9 t16 t22 t28) (w'.setCell ⟨g, 0, none⟩ nn) ∧ Same w0 Z w2 (w'.setCell ⟨g, 0, none⟩ nn)) := ⟨by have h_ := S2_.1; simp only [r2L, List.cons_append, List.nil_append, List.set_cons_zero, List.set_cons_succ, List.setIfInBounds_toArray, up, Nat.reduceEqDiff, reduceIte, cond_true, cond_false, hb_, (hon 10 (by kernel_rfl))] at h_ ⊢; exact h_, S.out.2.trans S2_.2⟩
     refine hK.out _ _ ⟨nn, pp, zz, kk, t9, t16, t22, t28, (by rw [ha.out]; exact putSel_none (v := undef) rfl), S3_⟩
   refine steps_cons ?_ ?_
   · rintro b a w' ⟨nn, pp, zz, kk, t9, t16, t22, t28, ha, Q_S⟩ hb_ hon hoff
     refine ⟨_, rfl, fun K hK => ?_⟩
     have e17 : a.tmps[17]? = some (.pointer (some ⟨g, 0, none⟩)) := by rw [ha]; exact (putSel_off rfl).trans rfl
     replace ha := Aside0.mk ha
     have S := Aside0.mk Q_S
     refine value_ (w1 := w') (v := .pointer (some ⟨g, 0, none⟩)) (by rfl) rfl ?_ ?_
     · go_simp
       (try simp only [i64_w])
       try rfl
     refine hK.out _ _ ⟨nn, pp, zz, kk, t9, t16, t22, t28, (by rw [ha.out]; exact putSel_upk 15 hb_ rfl rfl rfl), Q_S⟩
   refine steps_cons ?_ ?_
   · rintro b a w' ⟨nn, pp, zz, kk, t9, t16, t22, t28, ha, Q_S⟩ hb_ hon hoff
     refine ⟨_, rfl, fun K hK => ?_⟩
     have e48 : a.tmps[48]? = some (.pointer (some ⟨g, 0, none⟩)) := by rw [ha]; exact putSel_on (e := (33, 48, .pointer (some ⟨g, 0, none⟩))) 15 rfl rfl (hon 33 (by kernel_rfl)) rfl
     replace ha := Aside0.mk ha
     have S := Aside0.mk Q_S
     refine value_ (w1 := w') (v := .pointer (some ⟨g, 1, none⟩)) (by rfl) rfl ?_ ?_
     · go_simp
       (try simp only [i64_w])
       try rfl
     refine hK.out _ _ ⟨nn, pp, zz, kk, t9, t16, t22, t28, (by rw [ha.out]; exact putSel_upk 16 hb_ rfl rfl rfl), Q_S⟩
   refine steps_cons ?_ ?_
   · rintro b a w' ⟨nn, pp, zz, kk, t9, t16, t22, t28, ha, Q_S⟩ hb_ hon hoff
     refine ⟨_, rfl, fun K hK => ?_⟩
     have e49 : a.tmps[49]? = some (.pointer (some ⟨g, 1, none⟩)) := by rw [ha]; exact putSel_on (e := (34, 49, .pointer (some ⟨g, 1, none⟩))) 16 rfl rfl (hon 34 (by kernel_rfl)) rfl
     have e33 : a.tmps[33]? = some (pp) := by rw [ha]; exact putSel_on (e := (17, 33, pp)) 6 rfl rfl (hon 17 (by kernel_rfl)) rfl
     replace ha := Aside0.mk ha
     have S := Aside0.mk Q_S
     have hb0_ := S.out.1.at_blk (i := 0) rfl
     have hc_ : w'.cell? ⟨g, 1, none⟩ = some v.p := (blk_cell hb0_ 1).trans (by rw [hb_]; rfl)
     have hf_ := blk_frozen hb0_ 1
     obtain ⟨A_, c_, en_⟩ := own_slice (S.out.1.at_row (i := 2) (by simp only [r2L, (hon 17 (by kernel_rfl))]; rfl))
     refine skip_ (w1 := w'.setCell ⟨g, 1, none⟩ pp) (by rfl) rfl ?_ ?_
     · rw [en_] at e33 ⊢
       go_simp
       try rfl
     have S2_ := S.out.1.set (i := 0) rfl 1 pp
     have S3_ : (St w0 Z (r2L g v s [.int .i64 a0, .string a1, .string a2, .slice A l.length c] parent gb (blk gb 24 #[.int .i64 a0, .string a1, .string a2, .slice A l.length c] :: X) (up b 35) nn pp zz kk t9 t16 t22 t28) (w'.setCell ⟨g, 1, none⟩ pp) ∧ Same w0 Z w2 (w'.setCell ⟨g, 1, none⟩ pp)) := ⟨by have h_ := S2_.1; simp only [r2L, List.cons_append, List.nil_append, List.set_cons_zero, List.set_cons_succ, List.setIfInBounds_toArray, up, Nat.reduceEqDiff, reduceIte, cond_true, cond_false, hb_, (hon 17 (by kernel_rfl))] at h_ ⊢; exact h_, S.out.2.trans S2_.2⟩
     refine hK.out _ _ ⟨nn, pp, zz, kk, t9, t16, t22, t28, (by rw [ha.out]; exact putSel_none (v := undef) rfl), S3_⟩
   refine steps_cons ?_ ?_
   · rintro b a w' ⟨nn, pp, zz, kk, t9, t16, t22, t28, ha, Q_S⟩ hb_ hon hoff
     refine ⟨_, rfl, fun K hK => ?_⟩
     have e18 : a.tmps[18]? = some (.pointer (some ⟨g, 0, none⟩)) := by rw [ha]; exact (putSel_off rfl).trans rfl
     replace ha := Aside0.mk ha
     have S := Aside0.mk Q_S
     refine value_ (w1 := w') (v := .pointer (some ⟨g, 0, none⟩)) (by rfl) rfl ?_ ?_
     · go_simp
       (try simp only [i64_w])
       try rfl
     refine hK.out _ _ ⟨nn, pp, zz, kk, t9, t16, t22, t28, (by rw [ha.out]; exact putSel_upk 17 hb_ rfl rfl rfl), Q_S⟩
   refine steps_cons ?_ ?_
   · rintro b a w' ⟨nn, pp, zz, kk, t9, t16, t22, t28, ha, Q_S⟩ hb_ hon hoff
     refine ⟨_, rfl, fun K hK => ?_⟩
     have e50 : a.tmps[50]? = some (.pointer (some ⟨g, 0, none⟩)) := by rw [ha]; exact putSel_on (e := (36, 50, .pointer (some ⟨g, 0, none⟩))) 17 rfl rfl (hon 36 (by kernel_rfl)) rfl
     replace ha := Aside0.mk ha
     have S := Aside0.mk Q_S
     refine value_ (w1 := w') (v := .pointer (some ⟨g, 2, none⟩)) (by rfl) rfl ?_ ?_
     · go_simp
       (try simp only [i64_w])
       try rfl
     refine hK.out _ _ ⟨nn, pp, zz, kk, t9, t16, t22, t28, (by rw [ha.out]; exact putSel_upk 18 hb_ rfl rfl rfl), Q_S⟩
   refine steps_cons ?_ ?_
   · rintro b a w' ⟨nn, pp, zz, kk, t9, t16, t22, t28, ha, Q_S⟩ hb_ hon hoff
     refine ⟨_, rfl, fun K hK => ?_⟩
     have e51 : a.tmps[51]? = some (.pointer (some ⟨g, 2, none⟩)) := by rw [ha]; exact putSel_on (e := (37, 51, .pointer (some ⟨g, 2, none⟩))) 18 rfl rfl (hon 37 (by kernel_rfl)) rfl
     have e39 : a.tmps[39]? = some (zz) := by rw [ha]; exact putSel_on (e := (23, 39, zz)) 9 rfl rfl (hon 23 (by kernel_rfl)) rfl
     replace ha := Aside0.mk ha
     have S := Aside0.mk Q_S
     have hb0_ := S.out.1.at_blk (i := 0) rfl
     have hc_ : w'.cell? ⟨g, 2, none⟩ = some v.z := (blk_cell hb0_ 2).trans (by rw [hb_]; rfl)
     have hf_ := blk_frozen hb0_ 2
     obtain ⟨A_, c_, en_⟩ := own_slice (S.out.1.at_row (i := 3) (by simp only [r2L, (hon 23 (by kernel_rfl))]; rfl))
     refine skip_ (w1 := w'.setCell ⟨g, 2, none⟩ zz) (by rfl) rfl ?_ ?_
     · rw [en_] at e39 ⊢
       go_simp
       try rfl
     have S2_ := S.out.1.set (i := 0) rfl 2 zz
     have S3_ : (St w0 Z (r2L g v s [.int .i64 a0, .string a1, .string a2, .slice A l.length c] parent gb (blk gb 24 #[.int .i64 a0, .string a1, .string a2, .slice A l.length c] :: X) (up b 38) nn pp zz kk t9 t16 t22 t28) (w'.setCell ⟨g, 2, none⟩ zz) ∧ Same w0 Z w2 (w'.setCell ⟨g, 2, none⟩ zz)) := ⟨by have h_ := S2_.1; simp only [r2L, List.cons_append, List.nil_append, List.set_cons_zero, List.set_cons_succ, List.setIfInBounds_toArray, up, Nat.reduceEqDiff, reduceIte, cond_true, cond_false, hb_, (hon 23 (by kernel_rfl))] at h_ ⊢; exact h_, S.out.2.trans S2_.2⟩
     refine hK.out _ _ ⟨nn, pp, zz, kk, t9, t16, t22, t28, (by rw [ha.out]; exact putSel_none (v := undef) rfl), S3_⟩
   refine steps_cons ?_ ?_
   · rintro b a w' ⟨nn, pp, zz, kk, t9, t16, t22, t28, ha, Q_S⟩ hb_ hon hoff
     refine ⟨_, rfl, fun K hK => ?_⟩
     have e19 : a.tmps[19]? = some (.pointer (some ⟨g, 0, none⟩)) := by rw [ha]; exact (putSel_off rfl).trans rfl
     replace ha := Aside0.mk ha
     have S := Aside0.mk Q_S
     refine value_ (w1 := w') (v := .pointer (some ⟨g, 0, none⟩)) (by rfl) rfl ?_ ?_
     · go_simp
       (try simp only [i64_w])
       try rfl
     refine hK.out _ _ ⟨nn, pp, zz, kk, t9, t16, t22, t28, (by rw [ha.out]; exact putSel_upk 19 hb_ rfl rfl rfl), Q_S⟩
   refine steps_cons ?_ ?_
   · rintro b a w' ⟨nn, pp, zz, kk, t9, t16, t22, t28, ha, Q_S⟩ hb_ hon hoff
     refine ⟨_, rfl, fun K hK => ?_⟩
     have e52 : a.tmps[52]? = some (.pointer (some ⟨g, 0, none⟩)) := by rw [ha]; exact putSel_on (e := (39, 52, .pointer (some ⟨g, 0, none⟩))) 19 rfl rfl (hon 39 (by kernel_rfl)) rfl
     replace ha := Aside0.mk ha
     have S := Aside0.mk Q_S
     refine value_ (w1 := w') (v := .pointer (some ⟨g, 3, none⟩)) (by rfl) rfl ?_ ?_
     · go_simp
       (try simp only [i64_w])
       try rfl
     refine hK.out _ _ ⟨nn, pp, zz, kk, t9, t16, t22, t28, (by rw [ha.out]; exact putSel_upk 20 hb_ rfl rfl rfl), Q_S⟩
   refine steps_cons ?_ ?_
   · rintro b a w' ⟨nn, pp, zz, kk, t9, t16, t22, t28, ha, Q_S⟩ hb_ hon hoff
     refine ⟨_, rfl, fun K hK => ?_⟩
     have e53 : a.tmps[53]? = some (.pointer (some ⟨g, 3, none⟩)) := by rw [ha]; exact putSel_on (e := (40, 53, .pointer (some ⟨g, 3, none⟩))) 20 rfl rfl (hon 40 (by kernel_rfl)) rfl
     have e45 : a.tmps[45]? = some (kk) := by rw [ha]; exact putSel_on (e := (29, 45, kk)) 12 rfl rfl (hon 29 (by kernel_rfl)) rfl
     replace ha := Aside0.mk ha
     have S := Aside0.mk Q_S
     have hb0_ := S.out.1.at_blk (i := 0) rfl
     have hc_ : w'.cell? ⟨g, 3, none⟩ = some v.k := (blk_cell hb0_ 3).trans (by rw [hb_]; rfl)
     have hf_ := blk_frozen hb0_ 3
     obtain ⟨A_, c_, en_⟩ := own_slice (S.out.1.at_row (i := 4) (by simp only [r2L, (hon 29 (by kernel_rfl))]; rfl))
     refine skip_ (w1 := w'.setCell ⟨g, 3, none⟩ kk) (by rfl) rfl ?_ ?_
     · rw [en_] at e45 ⊢
       go_simp
       try rfl
     have S2_ := S.out.1.set (i := 0) rfl 3 kk
     have S3_ : (St w0 Z (r2L g v s [.int .i64 a0, .string a1, .string a2, .slice A l.length c] parent gb (blk gb 24 #[.int .i64 a0, .string a1, .string a2, .slice A l.length c] :: X) (up b 41) nn pp zz kk t9 t16 t22 t28) (w'.setCell ⟨g, 3, none⟩ kk) ∧ Same w0 Z w2 (w'.setCell ⟨g, 3, none⟩ kk)) := ⟨by have h_ := S2_.1; simp only [r2L, List.cons_append, List.nil_append, List.set_cons_zero, List.set_cons_succ, List.setIfInBounds_toArray, up, Nat.reduceEqDiff, reduceIte, cond_true, cond_false, hb_, (hon 29 (by kernel_rfl))] at h_ ⊢; exact h_, S.out.2.trans S2_.2⟩
     refine hK.out _ _ ⟨nn, pp, zz, kk, t9, t16, t22, t28, (by rw [ha.out]; exact putSel_none (v := undef) rfl), S3_⟩
   exact steps_nil
 · rintro b a w' hall ⟨nn, pp, zz, kk, t9, t16, t22, t28, ha, Q_S⟩
   clear S
   have hb7_ := hall 7 (by kernel_rfl)
   have hb8_ := hall 8 (by kernel_rfl)
   have hb9_ := hall 9 (by kernel_rfl)
   have hb10_ := hall 10 (by kernel_rfl)
   have hb14_ := hall 14 (by kernel_rfl)
   have hb16_ := hall 16 (by kernel_rfl)
   have hb17_ := hall 17 (by kernel_rfl)
   have hb21_ := hall 21 (by kernel_rfl)
   have hb22_ := hall 22 (by kernel_rfl)
   have hb23_ := hall 23 (by kernel_rfl)
   have hb27_ := hall 27 (by kernel_rfl)
   have hb28_ := hall 28 (by kernel_rfl)
   have hb29_ := hall 29 (by kernel_rfl)
   have hb30_ := hall 30 (by kernel_rfl)
   have hb31_ := hall 31 (by kernel_rfl)
   have hb32_ := hall 32 (by kernel_rfl)
   have hb33_ := hall 33 (by kernel_rfl)
   have hb34_ := hall 34 (by kernel_rfl)
   have hb35_ := hall 35 (by kernel_rfl)
   have hb36_ := hall 36 (by kernel_rfl)
   have hb37_ := hall 37 (by kernel_rfl)
   have hb38_ := hall 38 (by kernel_rfl)
   have hb39_ := hall 39 (by kernel_rfl)
   have hb40_ := hall 40 (by kernel_rfl)
   have hb41_ := hall 41 (by kernel_rfl)
   subst ha
   simp only [putSel, hb7_, hb8_, hb9_, hb10_, hb14_, hb16_, hb17_, hb21_, hb22_, hb23_, hb27_, hb28_, hb29_, hb30_, hb31_, hb32_, hb33_, hb34_, hb35_, hb36_, hb37_, hb38_, hb39_, hb40_, hb41_, if_true, Act.put, List.setIfInBounds_toArray, List.set_cons_zero, List.set_cons_succ]
   have S := Aside0.mk Q_S
   clear Q_S
   have S2_ := S.out; simp only [r2L, cond_true, hb10_, hb17_, hb23_, hb29_, hb9_, hb16_, hb22_, hb28_, hb32_, hb35_, hb38_, hb41_] at S2_
   clear hall hb7_ hb8_ hb9_ hb10_ hb14_ hb16_ hb17_ hb21_ hb22_ hb23_ hb27_ hb28_ hb29_ hb30_ hb31_ hb32_ hb33_ hb34_ hb35_ hb36_ hb37_ hb38_ hb39_ hb40_ hb41_
   have HFx := sm2.f (hsA.f HF hΦ) hΦ
   have HFy := S2_.2.f HFx hΦ
   have HP3 := HP2.snoc S2_.2 (k24_mkF _ _ ⟨a0, a1, a2, l⟩ hc HFy) S2_.1
   have sm3 := (hsA.trans sm2).trans S2_.2
   clear S S2_ HP1 HP2 hcz0 hcz1 HFx st2
   have hcz : w'.cell? ⟨gb, 3, none⟩ = some (.slice A l.length c) := (blk_cell (HP3.st.at_blk (i := 6) rfl) 3).trans rfl
   generalize hs1 : (⟨s.N ++ [⟨a0, a1, a2, l⟩], s.P ++ [parent], s.Z ++ [0], s.K ++ [[]]⟩ : PS) = s1 at HP3
   have hs1n : s1.N.length = s.N.length + 1 := by rw [← hs1]; simp
   have hadd : addN ⟨a0, a1, a2, l⟩ parent s = { addL l s.N.length s1 with Z := (addL l s.N.length s1).Z.set s.N.length (((addL l s.N.length s1).N.length : Int) - s.N.length) } := by rw [← hs1]; rfl
   have hlx : s.N.length + 1 + nszL l ≤ 1000000 := by simp only [nsz] at hlen; omega
   have hsx : sumK s1.K + nszL l ≤ 1000000 := by rw [← hs1]; simp only [nsz, sumK, List.map_append, List.sum_append, List.map_cons, List.map_nil, List.length_nil, List.sum_cons, List.sum_nil] at hsum ⊢; omega
   have hxl : nszL l ≤ m := by simp only [nsz] at hx; omega
   generalize hat : s.N.length = at_ at *
   go_wp2
   go_loopg [57] l.length (fun kq v57 w'' => ∃ (jj : Int) (j : Nat) (v' : PV) (s' : PS), v57 = .int .i64 jj ∧ Aside0 (jj = (j : Int)) ∧ j ≤ l.length ∧ kq = l.length - j ∧ Pl w0 Z Φ g v' s' (blk gb 24 #[.int .i64 a0, .string a1, .string a2, .slice A l.length c] :: X) w'' ∧ Same w0 Z w w'' ∧ addL (l.drop j) at_ s' = addL l at_ s1 ∧ at_ < s'.N.length ∧ s'.N.length + nszL (l.drop j) ≤ 1000000 ∧ sumK s'.K + nszL (l.drop j) ≤ 1000000 ∧ List.IsPrefix (v.cn ++ [.int .i64 a0, .string a1, .string a2, .slice A l.length c]) v'.cn)
   case atStart => exact ⟨0, 0, _, s1, rfl, ⟨rfl⟩, Nat.zero_le _, rfl, HP3, sm3, rfl, by omega, by rw [List.drop_zero]; omega, by rw [List.drop_zero]; omega, List.prefix_refl _⟩
   case round =>
    obtain ⟨jj, j, v1, s2, rfl, hjj, hj, hgk, HP, hsm, hL, hat1, hb, hb2, hpx⟩ := hrel
    clear hcz HP3
    by_cases hjl : jj < (l.length : Int)
    · have hjb := decide_eq_true hjl
      have p0 : 0 ≤ jj := by have := hjj.out; omega
      have hjn : j < l.length := by have := hjj.out; omega
      have HFw := hsm.f HF hΦ
      obtain ⟨ad, cs, eA, hcl, hFK, hcc, _⟩ := Kd.F_get HFw z24 jj p0 hjl
      subst eA
      obtain ⟨kx, hkx⟩ : ∃ kx, kx = l.getD jj.toNat z24 := ⟨_, rfl⟩
      rw [← hkx] at hFK
      have hkl : l[j]? = some kx := by rw [hkx, hjj.out]; simp [List.getD_eq_getElem?_getD, List.getElem?_eq_getElem hjn]
      obtain ⟨A3, c3, rfl, hl3, hF3⟩ := k24_openF hFK
      have hx0 : wr.cell? (ad.add (jj.toNat * 4)) = some (.int .i64 kx.f0 : Value) := hcc 0 _ rfl
      have hx1 : wr.cell? ⟨(ad.add (jj.toNat * 4)).block, (ad.add (jj.toNat * 4)).off + 1, none⟩ = some (.string kx.f1 : Value) := by rw [← add_field _ _ 1 (by omega)]; exact hcc 1 _ rfl
      have hx2 : wr.cell? ⟨(ad.add (jj.toNat * 4)).block, (ad.add (jj.toNat * 4)).off + 2, none⟩ = some (.string kx.f2 : Value) := by rw [← add_field _ _ 2 (by omega)]; exact hcc 2 _ rfl
      have hx3 : wr.cell? ⟨(ad.add (jj.toNat * 4)).block, (ad.add (jj.toNat * 4)).off + 3, none⟩ = some (.slice A3 kx.f3.length c3 : Value) := by rw [← add_field _ _ 3 (by omega)]; exact hcc 3 _ rfl
      have hnz : nsz kx + nszL (l.drop (j + 1)) = nszL (l.drop j) := (nszL_get hkl).symm
      have hnm : nsz kx ≤ m := by have := nszL_drop l j; omega
      have hLk : addL (l.drop j) at_ s2 = addL (l.drop (j + 1)) at_ { (addN kx at_ s2) with K := (addN kx at_ s2).K.set at_ ((addN kx at_ s2).K.getD at_ [] ++ [(s2.N.length : Int)]) } := by rw [List.drop_eq_getElem_cons hjn, show l[j] = kx from by simpa [List.getElem?_eq_getElem hjn] using hkl]; rfl
      replace p0 := eq_true p0
      replace hjl := eq_true hjl
      clear hcc hcl hFK HFw hkx
      go_wp2_with (first | ((with_reducible refine gate_dst (N := 9) rfl ?_); refine box_event ?hg (N := 9) ?hd (cs := #[.int .i64 0, .string (⟨#[]⟩ : ByteArray), .string (⟨#[]⟩ : ByteArray), .slice none 0 0]) (t := 24) ?hr ?_; (case hd => rfl); (case hg => rfl); (case hr => first | (go_simp; done) | (go_simp; rfl)); intro gk hgk2 w5 hbox hb5; have q1_ := HP.st.more hb5 (a := blk gk 24 #[.int .i64 0, .string (⟨#[]⟩ : ByteArray), .string (⟨#[]⟩ : ByteArray), .slice none 0 0]) (f := fun k => k = gk) ⟨fun _ => Iff.rfl, hbox⟩ (fun k hk => by omega); have HP5 := HP.same (X' := blk gk 24 #[.int .i64 0, .string (⟨#[]⟩ : ByteArray), .string (⟨#[]⟩ : ByteArray), .slice none 0 0] :: (blk gb 24 #[.int .i64 a0, .string a1, .string a2, .slice (some ad) l.length c] :: X)) (q1_.1.perm List.perm_middle.symm) q1_.2; have sm5 := q1_.2; clear q1_ HP hb5 hbox hgk2; have hk0 : w5.cell? ⟨gk, 0, none⟩ = some (.int .i64 0 : Value) := (blk_cell (HP5.st.at_blk (i := 6) rfl) 0).trans rfl; have hk1 : w5.cell? ⟨gk, 1, none⟩ = some (.string (⟨#[]⟩ : ByteArray) : Value) := (blk_cell (HP5.st.at_blk (i := 6) rfl) 1).trans rfl; have hk2 : w5.cell? ⟨gk, 2, none⟩ = some (.string (⟨#[]⟩ : ByteArray) : Value) := (blk_cell (HP5.st.at_blk (i := 6) rfl) 2).trans rfl; have hk3 : w5.cell? ⟨gk, 3, none⟩ = some (.slice none 0 0 : Value) := (blk_cell (HP5.st.at_blk (i := 6) rfl) 3).trans rfl; have hf0 := blk_frozen (HP5.st.at_blk (i := 6) rfl) 0; have hf1 := blk_frozen (HP5.st.at_blk (i := 6) rfl) 1; have hf2 := blk_frozen (HP5.st.at_blk (i := 6) rfl) 2; have hf3 := blk_frozen (HP5.st.at_blk (i := 6) rfl) 3) | ((with_reducible refine gate_callee (f := 40) rfl ?_); refine goesL_ (some 64) rfl rfl Try.func40 (by kernel_rfl) rfl #[.pointer (some ⟨g, 0, none⟩), .agg #[.int .i64 kx.f0, .string kx.f1, .string kx.f2, .slice A3 kx.f3.length c3], .int .i64 at_] rfl (by (try simp only [List.map_toArray, List.map_cons, List.map_nil]); first | done | rfl) ?_; have t0_ := HP5.st.set (i := 6) rfl 0 (.int .i64 kx.f0 : Value); have t1_ := t0_.1.set (i := 6) rfl 1 (.string kx.f1 : Value); have t2_ := t1_.1.set (i := 6) rfl 2 (.string kx.f2 : Value); have t3_ := t2_.1.set (i := 6) rfl 3 (.slice A3 kx.f3.length c3 : Value); have sm6 := sm5.trans (t0_.2.trans (t1_.2.trans (t2_.2.trans t3_.2))); have HP6 := HP5.same (X' := blk gk 24 #[.int .i64 kx.f0, .string kx.f1, .string kx.f2, .slice A3 kx.f3.length c3] :: (blk gb 24 #[.int .i64 a0, .string a1, .string a2, .slice (some ad) l.length c] :: X)) t3_.1 (t0_.2.trans (t1_.2.trans (t2_.2.trans t3_.2))); refine (ih kx hnm w0 Z Φ g v1 s2 (blk gk 24 #[.int .i64 kx.f0, .string kx.f1, .string kx.f2, .slice A3 kx.f3.length c3] :: (blk gb 24 #[.int .i64 a0, .string a1, .string a2, .slice (some ad) l.length c] :: X)) at_ A3 c3 _ HP6 (sm6.f hF3 hΦ) hl3 (by omega) (by omega)).mono ?_; rintro e w20 ⟨rfl, ⟨v3, HP20, hpy⟩, sm20⟩; refine ⟨_, rfl, ?_⟩; have sm21 := sm6.trans sm20; clear t0_ t1_ t2_ t3_ HP5 HP6 sm5 sm6 sm20 hk0 hk1 hk2 hk3 hf0 hf1 hf2 hf3 hx0 hx1 hx2 hx3))
      have hn3 := addN_len kx at_ s2
      have hq3 := addN_sum kx at_ s2
      generalize hs3 : addN kx (at_ : Int) s2 = s3 at HP20 hLk hn3 hq3
      obtain ⟨n3, p3, z3, k3, cn3, us3⟩ := v3
      have hu3 : us3.length = s3.N.length := HP20.u
      have hk3 := HP20.k
      have ha3 : at_ < s3.N.length := by omega
      obtain ⟨gK, cK, eK, _⟩ := own_set (HP20.st.at_row (i := 4) rfl) ha3 undef
      have eK2 : k3 = .slice (some ⟨gK, 0, none⟩) s3.N.length cK := eK
      clear eK
      subst eK2
      obtain ⟨ui, hui⟩ : ∃ ui, us3[at_]? = some ui := ⟨_, List.getElem?_eq_getElem (by omega)⟩
      obtain ⟨kl, hkl3⟩ : ∃ kl, s3.K[at_]? = some kl := ⟨_, List.getElem?_eq_getElem (by omega)⟩
      have hgd : s3.K.getD at_ [] = kl := by simp [List.getD_eq_getElem?_getD, hkl3]
      have hin := inn_at hui hkl3
      have hll := sumK_mem hkl3
      obtain ⟨st7, sm7⟩ := HP20.st.keep (below_drew1 (Below.refl w20.heap.size w20))
      have HP7 := HP20.same st7 sm7
      have S : (St w0 Z (r7L g n3 p3 z3 (.slice (some ⟨gK, 0, none⟩) s3.N.length cK) cn3 us3 s3 at_ s2.N.length kl (blk gk 24 #[.int .i64 kx.f0, .string kx.f1, .string kx.f2, .slice A3 kx.f3.length c3] :: (blk gb 24 #[.int .i64 a0, .string a1, .string a2, .slice (some ad) l.length c] :: X)) (fun _ => false) (.bool false) (.bool false)) w20.drew ∧ Same w0 Z w20.drew w20.drew) := ⟨st7.emp_new.perm ((List.perm_append_comm (l₁ := [emp]) (l₂ := plan g ⟨n3, p3, z3, (.slice (some ⟨gK, 0, none⟩) s3.N.length cK), cn3, us3⟩ s3)).append_right (blk gk 24 #[.int .i64 kx.f0, .string kx.f1, .string kx.f2, .slice A3 kx.f3.length c3] :: (blk gb 24 #[.int .i64 a0, .string a1, .string a2, .slice (some ad) l.length c] :: X))), Same.refl _ _ _⟩
      replace hn3 := Aside0.mk hn3
      replace hq3 := Aside0.mk hq3
      have ha0 : (0 : Int) ≤ (at_ : Int) := by omega
      have ha1 : (at_ : Int) < (s3.N.length : Int) := by have := ha3; omega
      replace ha0 := eq_true ha0
      replace ha1 := eq_true ha1
      refine start_ (n := 17) (S := fun w' => True) (ds := []) #[false, false, false, false, false, false, false, false, false, false, false, false, false, false, false, false, false] (by kernel_rfl) rfl rfl trivial (fun hHeld => ?_)
      refine with_tabW add.tab7 add.bits7 (fun HT_ HW_ => ?_)
      generalize w20.drew = w7 at S hHeld HP7 sm7 ⊢
      refine pure_ (i := 0) (N := some 65) (v := ?_) (a' := ?_) #[true, false, false, false, false, false, false, false, false, false, false, false, false, false, false, false, false] rfl rfl (any_of HT_.out (by kernel_rfl)) (fun _ _ _ h => h) (Or.inl ⟨by rfl, ?_⟩) ?_ ?_
      rotate_left
      · intro w'
        go_simp
        with_reducible rfl
      rotate_left
      · simp only [Act.put, List.setIfInBounds_toArray, List.set_cons_zero, List.set_cons_succ, i64_w, i32_w]
        rfl
      refine pure_ (i := 1) (N := some 66) (v := ?_) (a' := ?_) #[true, true, false, false, false, false, false, false, false, false, false, false, false, false, false, false, false] rfl rfl (any_of HT_.out (by kernel_rfl)) (fun _ _ _ h => h) (Or.inl ⟨by rfl, ?_⟩) ?_ ?_
      rotate_left
      · intro w'
        go_simp
        with_reducible rfl
      rotate_left
      · simp only [Act.put, List.setIfInBounds_toArray, List.set_cons_zero, List.set_cons_succ, i64_w, i32_w]
        rfl
      refine pure_ (i := 2) (N := some 67) (v := ?_) (a' := ?_) #[true, true, true, false, false, false, false, false, false, false, false, false, false, false, false, false, false] rfl rfl (any_of HT_.out (by kernel_rfl)) (fun _ _ _ h => h) (Or.inl ⟨by rfl, ?_⟩) ?_ ?_
      rotate_left
      · intro w'
        go_simp
        with_reducible rfl
      rotate_left
      · simp only [Act.put, List.setIfInBounds_toArray, List.set_cons_zero, List.set_cons_succ, i64_w, i32_w]
        rfl
      refine pure_ (i := 4) (N := some 69) (v := ?_) (a' := ?_) #[true, true, true, false, true, false, false, false, false, false, false, false, false, false, false, false, false] rfl rfl (any_of HT_.out (by kernel_rfl)) (fun _ _ _ h => h) (Or.inl ⟨by rfl, ?_⟩) ?_ ?_
      rotate_left
      · intro w'
        go_simp
        with_reducible rfl
      rotate_left
      · simp only [Act.put, List.setIfInBounds_toArray, List.set_cons_zero, List.set_cons_succ, i64_w, i32_w]
        rfl
      refine pure_ (i := 5) (N := some 70) (v := ?_) (a' := ?_) #[true, true, true, false, true, true, false, false, false, false, false, false, false, false, false, false, false] rfl rfl (any_of HT_.out (by kernel_rfl)) (fun _ _ _ h => h) (Or.inl ⟨by rfl, ?_⟩) ?_ ?_
      rotate_left
      · intro w'
        go_simp
        with_reducible rfl
      rotate_left
      · simp only [Act.put, List.setIfInBounds_toArray, List.set_cons_zero, List.set_cons_succ, i64_w, i32_w]
        rfl
      refine pure_ (i := 6) (N := some 71) (v := ?_) (a' := ?_) #[true, true, true, false, true, true, true, false, false, false, false, false, false, false, false, false, false] rfl rfl (any_of HT_.out (by kernel_rfl)) (fun _ _ _ h => h) (Or.inl ⟨by rfl, ?_⟩) ?_ ?_
      rotate_left
      · intro w'
        go_simp
        with_reducible rfl
      rotate_left
      · simp only [Act.put, List.setIfInBounds_toArray, List.set_cons_zero, List.set_cons_succ, i64_w, i32_w]
        rfl
      refine pure_ (i := 7) (N := some 72) (v := ?_) (a' := ?_) #[true, true, true, false, true, true, true, true, false, false, false, false, false, false, false, false, false] rfl rfl (any_of HT_.out (by kernel_rfl)) (fun _ _ _ h => h) (Or.inl ⟨by rfl, ?_⟩) ?_ ?_
      rotate_left
      · intro w'
        go_simp
        with_reducible rfl
      rotate_left
      · simp only [Act.put, List.setIfInBounds_toArray, List.set_cons_zero, List.set_cons_succ, i64_w, i32_w]
        rfl
      refine pure_ (i := 9) (N := some 74) (v := ?_) (a' := ?_) #[true, true, true, false, true, true, true, true, false, true, false, false, false, false, false, false, false] rfl rfl (any_of HT_.out (by kernel_rfl)) (fun _ _ _ h => h) (Or.inl ⟨by rfl, ?_⟩) ?_ ?_
      rotate_left
      · intro w'
        go_simp
        with_reducible rfl
      rotate_left
      · simp only [Act.put, List.setIfInBounds_toArray, List.set_cons_zero, List.set_cons_succ, i64_w, i32_w]
        rfl
      refine pure_ (i := 12) (N := some 77) (v := ?_) (a' := ?_) #[true, true, true, false, true, true, true, true, false, true, false, false, true, false, false, false, false] rfl rfl (any_of HT_.out (by kernel_rfl)) (fun _ _ _ h => h) (Or.inl ⟨by rfl, ?_⟩) ?_ ?_
      rotate_left
      · intro w'
        go_simp
        with_reducible rfl
      rotate_left
      · simp only [Act.put, List.setIfInBounds_toArray, List.set_cons_zero, List.set_cons_succ, i64_w, i32_w]
        rfl
      refine inv_at [3, 8, 10, 11, 13, 14, 15, 16] (fun a0_ b a w' => ∃ (tt : Value) (uu : Value), a = putSel a0_ b [(3, 68, (.slice (some ⟨gK, 0, none⟩) s3.N.length cK)), (8, 73, (.slice (some ⟨gK, 0, none⟩) s3.N.length cK)), (10, 75, .pointer (some ⟨gK, at_, none⟩)), (11, 76, ui), (13, 78, tt), (14, 79, uu), (15, 80, .pointer (some ⟨gK, at_, none⟩))] ∧ ((St w0 Z (r7L g n3 p3 z3 (.slice (some ⟨gK, 0, none⟩) s3.N.length cK) cn3 us3 s3 at_ s2.N.length kl (blk gk 24 #[.int .i64 kx.f0, .string kx.f1, .string kx.f2, .slice A3 kx.f3.length c3] :: (blk gb 24 #[.int .i64 a0, .string a1, .string a2, .slice (some ad) l.length c] :: X)) b tt uu) w' ∧ Same w0 Z w7 w'))) HT_.out HW_.out (by kernel_rfl) (by kernel_rfl) ?_ ?_ ?_
      · exact ⟨.bool false, .bool false, by simp only [putSel, Bool.false_eq_true, if_false], S⟩
      · skip
        clear S
        refine steps_cons ?_ ?_
        · rintro b a w' ⟨tt, uu, ha, Q_S⟩ hb_ hon hoff
          refine ⟨_, rfl, fun K hK => ?_⟩
          have e67 : a.tmps[67]? = some (.pointer (some ⟨g, 3, none⟩)) := by rw [ha]; exact (putSel_off rfl).trans rfl
          replace ha := Aside0.mk ha
          have S := Aside0.mk Q_S
          have hc_ : w'.cell? ⟨g, 3, none⟩ = some (.slice (some ⟨gK, 0, none⟩) s3.N.length cK) := (blk_cell (S.out.1.at_blk (i := 0) rfl) 3).trans rfl
          refine value_ (w1 := w') (v := (.slice (some ⟨gK, 0, none⟩) s3.N.length cK)) (by rfl) rfl ?_ ?_
          · go_simp
            (try simp only [i64_w])
            try rfl
          refine hK.out _ _ ⟨tt, uu, (by rw [ha.out]; exact putSel_upk 0 hb_ rfl rfl rfl), Q_S⟩
        refine steps_cons ?_ ?_
        · rintro b a w' ⟨tt, uu, ha, Q_S⟩ hb_ hon hoff
          refine ⟨_, rfl, fun K hK => ?_⟩
          have e72 : a.tmps[72]? = some (.pointer (some ⟨g, 3, none⟩)) := by rw [ha]; exact (putSel_off rfl).trans rfl
          replace ha := Aside0.mk ha
          have S := Aside0.mk Q_S
          have hc_ : w'.cell? ⟨g, 3, none⟩ = some (.slice (some ⟨gK, 0, none⟩) s3.N.length cK) := (blk_cell (S.out.1.at_blk (i := 0) rfl) 3).trans rfl
          refine value_ (w1 := w') (v := (.slice (some ⟨gK, 0, none⟩) s3.N.length cK)) (by rfl) rfl ?_ ?_
          · go_simp
            (try simp only [i64_w])
            try rfl
          refine hK.out _ _ ⟨tt, uu, (by rw [ha.out]; exact putSel_upk 1 hb_ rfl rfl rfl), Q_S⟩
        refine steps_cons ?_ ?_
        · rintro b a w' ⟨tt, uu, ha, Q_S⟩ hb_ hon hoff
          refine ⟨_, rfl, fun K hK => ?_⟩
          have e73 : a.tmps[73]? = some ((.slice (some ⟨gK, 0, none⟩) s3.N.length cK)) := by rw [ha]; exact putSel_on (e := (8, 73, (.slice (some ⟨gK, 0, none⟩) s3.N.length cK))) 1 rfl rfl (hon 8 (by kernel_rfl)) rfl
          have e74 : a.tmps[74]? = some (.int .i64 at_) := by rw [ha]; exact (putSel_off rfl).trans rfl
          replace ha := Aside0.mk ha
          have S := Aside0.mk Q_S
          refine value_ (w1 := w') (v := .pointer (some ⟨gK, at_, none⟩)) (by rfl) rfl ?_ ?_
          · go_simp
            (try simp only [i64_w])
            try rfl
          refine hK.out _ _ ⟨tt, uu, (by rw [ha.out]; exact putSel_upk 2 hb_ rfl rfl rfl), Q_S⟩
        refine steps_cons ?_ ?_
        · rintro b a w' ⟨tt, uu, ha, Q_S⟩ hb_ hon hoff
          refine ⟨_, rfl, fun K hK => ?_⟩
          have e75 : a.tmps[75]? = some (.pointer (some ⟨gK, at_, none⟩)) := by rw [ha]; exact putSel_on (e := (10, 75, .pointer (some ⟨gK, at_, none⟩))) 2 rfl rfl (hon 10 (by kernel_rfl)) rfl
          replace ha := Aside0.mk ha
          have S := Aside0.mk Q_S
          obtain ⟨_, _, ⟨t_, ht_, hc_⟩, hf_⟩ := own_set' (S.out.1.at_row (i := 4) (by simp only [r7L, (hoff 16 (by kernel_rfl))]; rfl)) ha3 undef
          have et_ : t_ = ui := Option.some.inj (ht_.symm.trans hui)
          rw [et_] at hc_
          refine value_ (w1 := w') (v := ui) (by rfl) rfl ?_ ?_
          · go_simp
            (try simp only [i64_w])
            try rfl
          refine hK.out _ _ ⟨tt, uu, (by rw [ha.out]; exact putSel_upk 3 hb_ rfl rfl rfl), Q_S⟩
        refine steps_cons ?_ ?_
        · rintro b a w' ⟨tt, uu, ha, Q_S⟩ hb_ hon hoff
          refine ⟨_, rfl, fun K hK => ?_⟩
          have e77 : a.tmps[77]? = some (.int .i64 s2.N.length) := by rw [ha]; exact (putSel_off rfl).trans rfl
          replace ha := Aside0.mk ha
          have S := Aside0.mk Q_S
          refine value_ (w1 := w'.alloc (.cells #[(.int .i64 s2.N.length)] 3)) (v := .slice (some ⟨w'.heap.size, 0, none⟩) 1 1) (by rfl) rfl ?_ ?_
          · go_simp
            try rfl
          have S2_ := S.out.1.lit (i := 6) (by simp only [r7L, hb_]; rfl) 3 1 1 (by decide) (by decide) [(.int .i64 s2.N.length)] rfl
          have S3_ : (St w0 Z (r7L g n3 p3 z3 (.slice (some ⟨gK, 0, none⟩) s3.N.length cK) cn3 us3 s3 at_ s2.N.length kl (blk gk 24 #[.int .i64 kx.f0, .string kx.f1, .string kx.f2, .slice A3 kx.f3.length c3] :: (blk gb 24 #[.int .i64 a0, .string a1, .string a2, .slice (some ad) l.length c] :: X)) (up b 13) (.slice (some ⟨w'.heap.size, 0, none⟩) 1 1) uu) (w'.alloc (.cells #[(.int .i64 s2.N.length)] 3)) ∧ Same w0 Z w7 (w'.alloc (.cells #[(.int .i64 s2.N.length)] 3))) := ⟨by have h_ := S2_.1; simp only [r7L, List.cons_append, List.nil_append, List.set_cons_zero, List.set_cons_succ, List.setIfInBounds_toArray, up, Nat.reduceEqDiff, reduceIte, cond_true, cond_false, hb_, (hoff 14 (by kernel_rfl)), (hoff 16 (by kernel_rfl))] at h_ ⊢; exact h_, S.out.2.trans S2_.2⟩
          refine hK.out _ _ ⟨(.slice (some ⟨w'.heap.size, 0, none⟩) 1 1), uu, (by rw [ha.out]; exact putSel_upk 4 hb_ rfl rfl rfl), S3_⟩
        refine steps_cons ?_ ?_
        · rintro b a w' ⟨tt, uu, ha, Q_S⟩ hb_ hon hoff
          refine ⟨_, rfl, fun K hK => ?_⟩
          have e76 : a.tmps[76]? = some (ui) := by rw [ha]; exact putSel_on (e := (11, 76, ui)) 3 rfl rfl (hon 11 (by kernel_rfl)) rfl
          have e78 : a.tmps[78]? = some (tt) := by rw [ha]; exact putSel_on (e := (13, 78, tt)) 4 rfl rfl (hon 13 (by kernel_rfl)) rfl
          replace ha := Aside0.mk ha
          have S := Aside0.mk Q_S
          have hi5_ : (r7L g n3 p3 z3 (.slice (some ⟨gK, 0, none⟩) s3.N.length cK) cn3 us3 s3 at_ s2.N.length kl (blk gk 24 #[.int .i64 kx.f0, .string kx.f1, .string kx.f2, .slice A3 kx.f3.length c3] :: (blk gb 24 #[.int .i64 a0, .string a1, .string a2, .slice (some ad) l.length c] :: X)) b tt uu)[5]? = some (grp (inn us3 s3.K)) := by simp only [r7L, hb_]; rfl
          refine app_step (by rfl) (.tmp 76) (.tmp 78) 36 3 (.int .i64 0) 1 8 rfl Try.underlying36 info3 rfl (by decide) (by decide) ui tt kl.length (ints kl) [(.int .i64 s2.N.length)] (eval_of e76) (eval_of e78) (by simp [Value.oneCell']) (S.out.1.sub_row hi5_ hin) (S.out.1.at_row (i := 6) (by simp only [r7L, (hon 13 (by kernel_rfl))]; rfl)) (by have := hq3.out; omega) ?_
          intro v1 w1 ho hg hat
          have S2_ := S.out.1.sub_upd hi5_ hin (row_step ho hg hat)
          have S3_ : (St w0 Z (r7L g n3 p3 z3 (.slice (some ⟨gK, 0, none⟩) s3.N.length cK) cn3 us3 s3 at_ s2.N.length kl (blk gk 24 #[.int .i64 kx.f0, .string kx.f1, .string kx.f2, .slice A3 kx.f3.length c3] :: (blk gb 24 #[.int .i64 a0, .string a1, .string a2, .slice (some ad) l.length c] :: X)) (up b 14) tt v1) w1 ∧ Same w0 Z w7 w1) := ⟨by have h_ := S2_.1; simp only [r7L, List.cons_append, List.nil_append, List.set_cons_zero, List.set_cons_succ, List.setIfInBounds_toArray, up, Nat.reduceEqDiff, reduceIte, cond_true, cond_false, hb_, (hon 13 (by kernel_rfl)), (hoff 16 (by kernel_rfl))] at h_ ⊢; exact h_, S.out.2.trans S2_.2⟩
          refine hK.out _ _ ⟨tt, v1, (by rw [ha.out]; exact putSel_upk 5 hb_ rfl rfl rfl), S3_⟩
        refine steps_cons ?_ ?_
        · rintro b a w' ⟨tt, uu, ha, Q_S⟩ hb_ hon hoff
          refine ⟨_, rfl, fun K hK => ?_⟩
          have e68 : a.tmps[68]? = some ((.slice (some ⟨gK, 0, none⟩) s3.N.length cK)) := by rw [ha]; exact putSel_on (e := (3, 68, (.slice (some ⟨gK, 0, none⟩) s3.N.length cK))) 0 rfl rfl (hon 3 (by kernel_rfl)) rfl
          have e69 : a.tmps[69]? = some (.int .i64 at_) := by rw [ha]; exact (putSel_off rfl).trans rfl
          replace ha := Aside0.mk ha
          have S := Aside0.mk Q_S
          refine value_ (w1 := w') (v := .pointer (some ⟨gK, at_, none⟩)) (by rfl) rfl ?_ ?_
          · go_simp
            (try simp only [i64_w])
            try rfl
          refine hK.out _ _ ⟨tt, uu, (by rw [ha.out]; exact putSel_upk 6 hb_ rfl rfl rfl), Q_S⟩
        refine steps_cons ?_ ?_
        · rintro b a w' ⟨tt, uu, ha, Q_S⟩ hb_ hon hoff
          refine ⟨_, rfl, fun K hK => ?_⟩
          have e80 : a.tmps[80]? = some (.pointer (some ⟨gK, at_, none⟩)) := by rw [ha]; exact putSel_on (e := (15, 80, .pointer (some ⟨gK, at_, none⟩))) 6 rfl rfl (hon 15 (by kernel_rfl)) rfl
          have e79 : a.tmps[79]? = some (uu) := by rw [ha]; exact putSel_on (e := (14, 79, uu)) 5 rfl rfl (hon 14 (by kernel_rfl)) rfl
          replace ha := Aside0.mk ha
          have S := Aside0.mk Q_S
          have hi4_ : (r7L g n3 p3 z3 (.slice (some ⟨gK, 0, none⟩) s3.N.length cK) cn3 us3 s3 at_ s2.N.length kl (blk gk 24 #[.int .i64 kx.f0, .string kx.f1, .string kx.f2, .slice A3 kx.f3.length c3] :: (blk gb 24 #[.int .i64 a0, .string a1, .string a2, .slice (some ad) l.length c] :: X)) b tt uu)[4]? = some (row (.slice (some ⟨gK, 0, none⟩) s3.N.length cK) 36 1 s3.N.length us3) := by simp only [r7L, hb_]; rfl
          obtain ⟨ho_, hg_, ⟨t_, ht_, hc_⟩, hf_⟩ := own_set' (S.out.1.at_row hi4_) ha3 uu
          obtain ⟨A_, c_, en_⟩ := own_slice (S.out.1.sub_row (i := 5) (j := at_) (L := (inn us3 s3.K).set at_ (row uu 3 1 (kl.length + 1) (ints kl ++ [(.int .i64 s2.N.length)]))) (by simp only [r7L, (hon 14 (by kernel_rfl))]; rfl) (by rw [List.getElem?_set_self (by have := (List.getElem?_eq_some_iff.1 hin).1; exact this)]))
          refine skip_ (w1 := w'.setCell ⟨gK, at_, none⟩ uu) (by rfl) rfl ?_ ?_
          · rw [en_] at e79 ⊢
            go_simp
            try rfl
          have S2_ := S.out.1.row_upd hi4_ ho_ hg_ (.inl rfl)
          have S3_ : (St w0 Z (r7L g n3 p3 z3 (.slice (some ⟨gK, 0, none⟩) s3.N.length cK) cn3 us3 s3 at_ s2.N.length kl (blk gk 24 #[.int .i64 kx.f0, .string kx.f1, .string kx.f2, .slice A3 kx.f3.length c3] :: (blk gb 24 #[.int .i64 a0, .string a1, .string a2, .slice (some ad) l.length c] :: X)) (up b 16) tt uu) (w'.setCell ⟨gK, at_, none⟩ uu) ∧ Same w0 Z w7 (w'.setCell ⟨gK, at_, none⟩ uu)) := ⟨by have h_ := S2_.1; simp only [r7L, List.cons_append, List.nil_append, List.set_cons_zero, List.set_cons_succ, List.setIfInBounds_toArray, up, Nat.reduceEqDiff, reduceIte, cond_true, cond_false, hb_, (hon 14 (by kernel_rfl)), (hon 13 (by kernel_rfl))] at h_ ⊢; exact h_, S.out.2.trans S2_.2⟩
          refine hK.out _ _ ⟨tt, uu, (by rw [ha.out]; exact putSel_none (v := undef) rfl), S3_⟩
        exact steps_nil
      · rintro b a w' hall ⟨tt, uu, ha, Q_S⟩
        clear S
        have hb3_ := hall 3 (by kernel_rfl)
        have hb8_ := hall 8 (by kernel_rfl)
        have hb10_ := hall 10 (by kernel_rfl)
        have hb11_ := hall 11 (by kernel_rfl)
        have hb13_ := hall 13 (by kernel_rfl)
        have hb14_ := hall 14 (by kernel_rfl)
        have hb15_ := hall 15 (by kernel_rfl)
        have hb16_ := hall 16 (by kernel_rfl)
        subst ha
        simp only [putSel, hb3_, hb8_, hb10_, hb11_, hb13_, hb14_, hb15_, hb16_, if_true, Act.put, List.setIfInBounds_toArray, List.set_cons_zero, List.set_cons_succ]
        have S := Aside0.mk Q_S
        clear Q_S
        have S2_ := S.out; simp only [r7L, cond_true, hb13_, hb14_, hb16_] at S2_
        clear hall hb3_ hb8_ hb10_ hb11_ hb13_ hb14_ hb15_ hb16_
        have hpl : plan g ⟨n3, p3, z3, (.slice (some ⟨gK, 0, none⟩) s3.N.length cK), cn3, us3.set at_ uu⟩ { s3 with K := s3.K.set at_ (kl ++ [(s2.N.length : Int)]) } = [blk g 71 #[n3, p3, z3, (.slice (some ⟨gK, 0, none⟩) s3.N.length cK)], row n3 24 4 s3.N.length cn3, row p3 3 1 s3.N.length (ints s3.P), row z3 3 1 s3.N.length (ints s3.Z), row (.slice (some ⟨gK, 0, none⟩) s3.N.length cK) 36 1 s3.N.length (us3.set at_ uu), grp ((inn us3 s3.K).set at_ (row uu 3 1 (kl.length + 1) (ints kl ++ [(.int .i64 s2.N.length)])))] := by simp only [plan, inn_set _ _ (hu3.trans hk3.symm), List.length_append, List.length_cons, List.length_nil, Nat.zero_add, ints, List.map_append, List.map_cons, List.map_nil]
        have st8 : St w0 Z (plan g ⟨n3, p3, z3, (.slice (some ⟨gK, 0, none⟩) s3.N.length cK), cn3, us3.set at_ uu⟩ { s3 with K := s3.K.set at_ (kl ++ [(s2.N.length : Int)]) } ++ (blk gb 24 #[.int .i64 a0, .string a1, .string a2, .slice (some ad) l.length c] :: X)) w' := by
          rw [hpl]
          refine (St.perm (l' := [row tt 3 1 1 [(.int .i64 s2.N.length)], blk gk 24 #[.int .i64 kx.f0, .string kx.f1, .string kx.f2, .slice A3 kx.f3.length c3]] ++ ([blk g 71 #[n3, p3, z3, (.slice (some ⟨gK, 0, none⟩) s3.N.length cK)], row n3 24 4 s3.N.length cn3, row p3 3 1 s3.N.length (ints s3.P), row z3 3 1 s3.N.length (ints s3.Z), row (.slice (some ⟨gK, 0, none⟩) s3.N.length cK) 36 1 s3.N.length (us3.set at_ uu), grp ((inn us3 s3.K).set at_ (row uu 3 1 (kl.length + 1) (ints kl ++ [(.int .i64 s2.N.length)])))] ++ (blk gb 24 #[.int .i64 a0, .string a1, .string a2, .slice (some ad) l.length c] :: X))) S2_.1 ?_).drop.drop
          rw [← List.append_assoc]
          exact (List.Perm.of_eq (by simp only [List.cons_append, List.nil_append])).trans ((List.perm_append_comm (l₁ := [blk g 71 #[n3, p3, z3, (.slice (some ⟨gK, 0, none⟩) s3.N.length cK)], row n3 24 4 s3.N.length cn3, row p3 3 1 s3.N.length (ints s3.P), row z3 3 1 s3.N.length (ints s3.Z), row (.slice (some ⟨gK, 0, none⟩) s3.N.length cK) 36 1 s3.N.length (us3.set at_ uu), grp ((inn us3 s3.K).set at_ (row uu 3 1 (kl.length + 1) (ints kl ++ [(.int .i64 s2.N.length)])))]) (l₂ := [row tt 3 1 1 [(.int .i64 s2.N.length)], blk gk 24 #[.int .i64 kx.f0, .string kx.f1, .string kx.f2, .slice A3 kx.f3.length c3]])).append_right _)
        have HP8 : Pl w0 Z Φ g ⟨n3, p3, z3, (.slice (some ⟨gK, 0, none⟩) s3.N.length cK), cn3, us3.set at_ uu⟩ { s3 with K := s3.K.set at_ (kl ++ [(s2.N.length : Int)]) } (blk gb 24 #[.int .i64 a0, .string a1, .string a2, .slice (some ad) l.length c] :: X) w' := ⟨st8, hΦ, fun j x hj => S2_.2.fk (HP7.nodes j x hj) hΦ, HP7.p, HP7.z, by simpa using hk3, by simpa using hu3, HP7.c, HP7.one⟩
        have hsm8 := hsm.trans (sm21.trans (sm7.trans S2_.2))
        have hL2 := hLk.symm.trans hL
        rw [hgd] at hL2
        have hsb : sumK (s3.K.set at_ (kl ++ [(s2.N.length : Int)])) ≤ sumK s3.K + 1 := by have h_ := sumK_set s3.K at_ (s2.N.length : Int); rw [hgd] at h_; exact h_
        have hjw : wrap64 (jj + 1) = ((j + 1 : Nat) : Int) := by have h1_ := hjj.out; have h2_ := len_nszL l; unfold wrap64; omega
        replace hgk := Aside0.mk hgk
        replace hjw := Aside0.mk hjw
        clear S S2_ HP7 HP20 hpl st8 st7 sm7 sm21
        go_wp2
        go_roundg (l.length - (j + 1))
        case measure => have := hgk.out; omega
        case rel => exact ⟨wrap64 (jj + 1), j + 1, _, _, by first | rfl | (simp; done), ⟨hjw.out⟩, by omega, rfl, HP8, hsm8, hL2, by show at_ < s3.N.length; exact ha3, by show s3.N.length + _ ≤ _; have := hn3.out; omega, by show sumK (s3.K.set at_ (kl ++ [(s2.N.length : Int)])) + _ ≤ _; have := hq3.out; omega, hpx.trans ((List.prefix_append _ _).trans hpy)⟩
    · have hjb := decide_eq_false hjl
      have hjn : j = l.length := by have := hjj.out; omega
      have hL2 : s2 = addL l at_ s1 := by rw [← hL, hjn, List.drop_length]; rfl
      obtain ⟨n2, p2, z2, k2, cn2, us2⟩ := v1
      obtain ⟨gZ, cZ, eZ, _⟩ := own_set (HP.st.at_row (i := 3) rfl) hat1 undef
      have eZ2 : z2 = .slice (some ⟨gZ, 0, none⟩) s2.N.length cZ := eZ
      obtain ⟨An, cnn, eN⟩ := own_slice (HP.st.at_row (i := 1) rfl)
      have eN2 : n2 = .slice An s2.N.length cnn := eN
      have hbn := Aside0.mk (show s2.N.length ≤ 1000000 from by omega)
      clear eZ eN hgk hb hb2 hL
      subst eZ2 eN2
      have hz2 : s2.Z.length = s2.N.length := HP.z
      have ha1 : (at_ : Int) < (s2.N.length : Int) := by have := hat1; omega
      have ha0 : (0 : Int) ≤ (at_ : Int) := by omega
      replace hL2 := Aside0.mk hL2
      go_wp2
      obtain ⟨st9, sm9⟩ := HP.st.keep (below_drew1 (Below.refl wr.heap.size wr))
      have HP9 := HP.same st9 sm9
      have S : (St w0 Z (r9L g (.slice An s2.N.length cnn) p2 (.slice (some ⟨gZ, 0, none⟩) s2.N.length cZ) k2 cn2 us2 s2 at_ (wrap64 ((s2.N.length : Int) - (at_ : Int))) (blk gb 24 #[.int .i64 a0, .string a1, .string a2, .slice A l.length c] :: X) (fun _ => false)) wr.drew ∧ Same w0 Z wr.drew wr.drew) := ⟨st9, Same.refl _ _ _⟩
      replace ha0 := eq_true ha0
      replace ha1 := eq_true ha1
      refine start_ (n := 14) (S := fun w' => True) (ds := []) #[false, false, false, false, false, false, false, false, false, false, false, false, false, false] (by kernel_rfl) rfl rfl trivial (fun hHeld => ?_)
      refine with_tabW add.tab9 add.bits9 (fun HT_ HW_ => ?_)
      generalize wr.drew = w9 at S hHeld HP9 sm9 ⊢
      refine pure_ (i := 0) (N := some 82) (v := ?_) (a' := ?_) #[true, false, false, false, false, false, false, false, false, false, false, false, false, false] rfl rfl (any_of HT_.out (by kernel_rfl)) (fun _ _ _ h => h) (Or.inl ⟨by rfl, ?_⟩) ?_ ?_
      rotate_left
      · intro w'
        go_simp
        with_reducible rfl
      rotate_left
      · simp only [Act.put, List.setIfInBounds_toArray, List.set_cons_zero, List.set_cons_succ, i64_w, i32_w]
        rfl
      refine pure_ (i := 1) (N := some 83) (v := ?_) (a' := ?_) #[true, true, false, false, false, false, false, false, false, false, false, false, false, false] rfl rfl (any_of HT_.out (by kernel_rfl)) (fun _ _ _ h => h) (Or.inl ⟨by rfl, ?_⟩) ?_ ?_
      rotate_left
      · intro w'
        go_simp
        with_reducible rfl
      rotate_left
      · simp only [Act.put, List.setIfInBounds_toArray, List.set_cons_zero, List.set_cons_succ, i64_w, i32_w]
        rfl
      refine pure_ (i := 2) (N := some 84) (v := ?_) (a' := ?_) #[true, true, true, false, false, false, false, false, false, false, false, false, false, false] rfl rfl (any_of HT_.out (by kernel_rfl)) (fun _ _ _ h => h) (Or.inl ⟨by rfl, ?_⟩) ?_ ?_
      rotate_left
      · intro w'
        go_simp
        with_reducible rfl
      rotate_left
      · simp only [Act.put, List.setIfInBounds_toArray, List.set_cons_zero, List.set_cons_succ, i64_w, i32_w]
        rfl
      refine pure_ (i := 4) (N := some 86) (v := ?_) (a' := ?_) #[true, true, true, false, true, false, false, false, false, false, false, false, false, false] rfl rfl (any_of HT_.out (by kernel_rfl)) (fun _ _ _ h => h) (Or.inl ⟨by rfl, ?_⟩) ?_ ?_
      rotate_left
      · intro w'
        go_simp
        with_reducible rfl
      rotate_left
      · simp only [Act.put, List.setIfInBounds_toArray, List.set_cons_zero, List.set_cons_succ, i64_w, i32_w]
        rfl
      refine pure_ (i := 5) (N := some 87) (v := ?_) (a' := ?_) #[true, true, true, false, true, true, false, false, false, false, false, false, false, false] rfl rfl (any_of HT_.out (by kernel_rfl)) (fun _ _ _ h => h) (Or.inl ⟨by rfl, ?_⟩) ?_ ?_
      rotate_left
      · intro w'
        go_simp
        with_reducible rfl
      rotate_left
      · simp only [Act.put, List.setIfInBounds_toArray, List.set_cons_zero, List.set_cons_succ, i64_w, i32_w]
        rfl
      refine pure_ (i := 6) (N := some 88) (v := ?_) (a' := ?_) #[true, true, true, false, true, true, true, false, false, false, false, false, false, false] rfl rfl (any_of HT_.out (by kernel_rfl)) (fun _ _ _ h => h) (Or.inl ⟨by rfl, ?_⟩) ?_ ?_
      rotate_left
      · intro w'
        go_simp
        with_reducible rfl
      rotate_left
      · simp only [Act.put, List.setIfInBounds_toArray, List.set_cons_zero, List.set_cons_succ, i64_w, i32_w]
        rfl
      refine pure_ (i := 7) (N := some 89) (v := ?_) (a' := ?_) #[true, true, true, false, true, true, true, true, false, false, false, false, false, false] rfl rfl (any_of HT_.out (by kernel_rfl)) (fun _ _ _ h => h) (Or.inl ⟨by rfl, ?_⟩) ?_ ?_
      rotate_left
      · intro w'
        go_simp
        with_reducible rfl
      rotate_left
      · simp only [Act.put, List.setIfInBounds_toArray, List.set_cons_zero, List.set_cons_succ, i64_w, i32_w]
        rfl
      refine pure_ (i := 10) (N := some 92) (v := ?_) (a' := ?_) #[true, true, true, false, true, true, true, true, false, false, true, false, false, false] rfl rfl (any_of HT_.out (by kernel_rfl)) (fun _ _ _ h => h) (Or.inl ⟨by rfl, ?_⟩) ?_ ?_
      rotate_left
      · intro w'
        go_simp
        with_reducible rfl
      rotate_left
      · simp only [Act.put, List.setIfInBounds_toArray, List.set_cons_zero, List.set_cons_succ, i64_w, i32_w]
        rfl
      refine inv_at [3, 8, 9, 11, 12, 13] (fun a0_ b a w' => a = putSel a0_ b [(3, 85, (.slice (some ⟨gZ, 0, none⟩) s2.N.length cZ)), (8, 90, (.slice An s2.N.length cnn)), (9, 91, .int .i64 s2.N.length), (11, 93, .int .i64 (wrap64 ((s2.N.length : Int) - (at_ : Int)))), (12, 94, .pointer (some ⟨gZ, at_, none⟩))] ∧ ((St w0 Z (r9L g (.slice An s2.N.length cnn) p2 (.slice (some ⟨gZ, 0, none⟩) s2.N.length cZ) k2 cn2 us2 s2 at_ (wrap64 ((s2.N.length : Int) - (at_ : Int))) (blk gb 24 #[.int .i64 a0, .string a1, .string a2, .slice A l.length c] :: X) b) w' ∧ Same w0 Z w9 w'))) HT_.out HW_.out (by kernel_rfl) (by kernel_rfl) ?_ ?_ ?_
      · exact ⟨by simp only [putSel, Bool.false_eq_true, if_false], S⟩
      · skip
        clear S
        refine steps_cons ?_ ?_
        · rintro b a w' ⟨ha, Q_S⟩ hb_ hon hoff
          refine ⟨_, rfl, fun K hK => ?_⟩
          have e84 : a.tmps[84]? = some (.pointer (some ⟨g, 2, none⟩)) := by rw [ha]; exact (putSel_off rfl).trans rfl
          replace ha := Aside0.mk ha
          have S := Aside0.mk Q_S
          have hc_ : w'.cell? ⟨g, 2, none⟩ = some (.slice (some ⟨gZ, 0, none⟩) s2.N.length cZ) := (blk_cell (S.out.1.at_blk (i := 0) rfl) 2).trans rfl
          refine value_ (w1 := w') (v := (.slice (some ⟨gZ, 0, none⟩) s2.N.length cZ)) (by rfl) rfl ?_ ?_
          · go_simp
            (try simp only [i64_w])
            try rfl
          refine hK.out _ _ ⟨(by rw [ha.out]; exact putSel_upk 0 hb_ rfl rfl rfl), Q_S⟩
        refine steps_cons ?_ ?_
        · rintro b a w' ⟨ha, Q_S⟩ hb_ hon hoff
          refine ⟨_, rfl, fun K hK => ?_⟩
          have e89 : a.tmps[89]? = some (.pointer (some ⟨g, 0, none⟩)) := by rw [ha]; exact (putSel_off rfl).trans rfl
          replace ha := Aside0.mk ha
          have S := Aside0.mk Q_S
          have hc_ : w'.cell? ⟨g, 0, none⟩ = some (.slice An s2.N.length cnn) := (blk_cell (S.out.1.at_blk (i := 0) rfl) 0).trans rfl
          refine value_ (w1 := w') (v := (.slice An s2.N.length cnn)) (by rfl) rfl ?_ ?_
          · go_simp
            (try simp only [i64_w])
            try rfl
          refine hK.out _ _ ⟨(by rw [ha.out]; exact putSel_upk 1 hb_ rfl rfl rfl), Q_S⟩
        refine steps_cons ?_ ?_
        · rintro b a w' ⟨ha, Q_S⟩ hb_ hon hoff
          refine ⟨_, rfl, fun K hK => ?_⟩
          have e90 : a.tmps[90]? = some ((.slice An s2.N.length cnn)) := by rw [ha]; exact putSel_on (e := (8, 90, (.slice An s2.N.length cnn))) 1 rfl rfl (hon 8 (by kernel_rfl)) rfl
          replace ha := Aside0.mk ha
          have S := Aside0.mk Q_S
          refine value_ (w1 := w') (v := .int .i64 s2.N.length) (by rfl) rfl ?_ ?_
          · go_simp
            (try simp only [i64_w])
            try rfl
          refine hK.out _ _ ⟨(by rw [ha.out]; exact putSel_upk 2 hb_ rfl rfl rfl), Q_S⟩
        refine steps_cons ?_ ?_
        · rintro b a w' ⟨ha, Q_S⟩ hb_ hon hoff
          refine ⟨_, rfl, fun K hK => ?_⟩
          have e91 : a.tmps[91]? = some (.int .i64 s2.N.length) := by rw [ha]; exact putSel_on (e := (9, 91, .int .i64 s2.N.length)) 2 rfl rfl (hon 9 (by kernel_rfl)) rfl
          have e92 : a.tmps[92]? = some (.int .i64 at_) := by rw [ha]; exact (putSel_off rfl).trans rfl
          replace ha := Aside0.mk ha
          have S := Aside0.mk Q_S
          refine value_ (w1 := w') (v := .int .i64 (wrap64 ((s2.N.length : Int) - (at_ : Int)))) (by rfl) rfl ?_ ?_
          · go_simp
            (try simp only [i64_w])
            try rfl
          refine hK.out _ _ ⟨(by rw [ha.out]; exact putSel_upk 3 hb_ rfl rfl rfl), Q_S⟩
        refine steps_cons ?_ ?_
        · rintro b a w' ⟨ha, Q_S⟩ hb_ hon hoff
          refine ⟨_, rfl, fun K hK => ?_⟩
          have e85 : a.tmps[85]? = some ((.slice (some ⟨gZ, 0, none⟩) s2.N.length cZ)) := by rw [ha]; exact putSel_on (e := (3, 85, (.slice (some ⟨gZ, 0, none⟩) s2.N.length cZ))) 0 rfl rfl (hon 3 (by kernel_rfl)) rfl
          have e86 : a.tmps[86]? = some (.int .i64 at_) := by rw [ha]; exact (putSel_off rfl).trans rfl
          replace ha := Aside0.mk ha
          have S := Aside0.mk Q_S
          refine value_ (w1 := w') (v := .pointer (some ⟨gZ, at_, none⟩)) (by rfl) rfl ?_ ?_
          · go_simp
            (try simp only [i64_w])
            try rfl
          refine hK.out _ _ ⟨(by rw [ha.out]; exact putSel_upk 4 hb_ rfl rfl rfl), Q_S⟩
        refine steps_cons ?_ ?_
        · rintro b a w' ⟨ha, Q_S⟩ hb_ hon hoff
          refine ⟨_, rfl, fun K hK => ?_⟩
          have e94 : a.tmps[94]? = some (.pointer (some ⟨gZ, at_, none⟩)) := by rw [ha]; exact putSel_on (e := (12, 94, .pointer (some ⟨gZ, at_, none⟩))) 4 rfl rfl (hon 12 (by kernel_rfl)) rfl
          have e93 : a.tmps[93]? = some (.int .i64 (wrap64 ((s2.N.length : Int) - (at_ : Int)))) := by rw [ha]; exact putSel_on (e := (11, 93, .int .i64 (wrap64 ((s2.N.length : Int) - (at_ : Int))))) 3 rfl rfl (hon 11 (by kernel_rfl)) rfl
          replace ha := Aside0.mk ha
          have S := Aside0.mk Q_S
          have hi3_ : (r9L g (.slice An s2.N.length cnn) p2 (.slice (some ⟨gZ, 0, none⟩) s2.N.length cZ) k2 cn2 us2 s2 at_ (wrap64 ((s2.N.length : Int) - (at_ : Int))) (blk gb 24 #[.int .i64 a0, .string a1, .string a2, .slice A l.length c] :: X) b)[3]? = some (row (.slice (some ⟨gZ, 0, none⟩) s2.N.length cZ) 3 1 s2.N.length (ints s2.Z)) := by simp only [r9L, hb_]; rfl
          obtain ⟨ho_, hg_, ⟨t_, ht_, hc_⟩, hf_⟩ := own_set' (S.out.1.at_row hi3_) hat1 (.int .i64 (wrap64 ((s2.N.length : Int) - (at_ : Int))))
          refine skip_ (w1 := w'.setCell ⟨gZ, at_, none⟩ (.int .i64 (wrap64 ((s2.N.length : Int) - (at_ : Int))))) (by rfl) rfl ?_ ?_
          · go_simp
            try rfl
          have S2_ := S.out.1.row_upd hi3_ ho_ hg_ (.inl rfl)
          have S3_ : (St w0 Z (r9L g (.slice An s2.N.length cnn) p2 (.slice (some ⟨gZ, 0, none⟩) s2.N.length cZ) k2 cn2 us2 s2 at_ (wrap64 ((s2.N.length : Int) - (at_ : Int))) (blk gb 24 #[.int .i64 a0, .string a1, .string a2, .slice A l.length c] :: X) (up b 13)) (w'.setCell ⟨gZ, at_, none⟩ (.int .i64 (wrap64 ((s2.N.length : Int) - (at_ : Int))))) ∧ Same w0 Z w9 (w'.setCell ⟨gZ, at_, none⟩ (.int .i64 (wrap64 ((s2.N.length : Int) - (at_ : Int)))))) := ⟨by have h_ := S2_.1; simp only [r9L, List.cons_append, List.nil_append, List.set_cons_zero, List.set_cons_succ, List.setIfInBounds_toArray, up, Nat.reduceEqDiff, reduceIte, cond_true, cond_false, hb_] at h_ ⊢; exact h_, S.out.2.trans S2_.2⟩
          refine hK.out _ _ ⟨(by rw [ha.out]; exact putSel_none (v := undef) rfl), S3_⟩
        exact steps_nil
      · rintro b a w' hall ⟨ha, Q_S⟩
        clear S
        have hb3_ := hall 3 (by kernel_rfl)
        have hb8_ := hall 8 (by kernel_rfl)
        have hb9_ := hall 9 (by kernel_rfl)
        have hb11_ := hall 11 (by kernel_rfl)
        have hb12_ := hall 12 (by kernel_rfl)
        have hb13_ := hall 13 (by kernel_rfl)
        subst ha
        simp only [putSel, hb3_, hb8_, hb9_, hb11_, hb12_, hb13_, if_true, Act.put, List.setIfInBounds_toArray, List.set_cons_zero, List.set_cons_succ]
        have S := Aside0.mk Q_S
        clear Q_S
        have S2_ := S.out; simp only [r9L, cond_true, hb13_] at S2_
        clear hall hb3_ hb8_ hb9_ hb11_ hb12_ hb13_
        have hdv : (wrap64 ((s2.N.length : Int) - (at_ : Int))) = (s2.N.length : Int) - (at_ : Int) := by have h1_ := of_eq_true ha1; have h2_ := of_eq_true ha0; have h3_ := hbn.out; unfold wrap64; omega
        go_wp2
        have st10 := (S2_.1.perm List.perm_middle).drop
        have sm10 := sm9.trans S2_.2
        refine bodyPost_ret (results_tmp (t := 6) rfl _ _ _) rfl ?_
        refine ⟨by first | (rw [hat]; done) | (rw [hat]; rfl), ⟨⟨(.slice An s2.N.length cnn), p2, (.slice (some ⟨gZ, 0, none⟩) s2.N.length cZ), k2, cn2, us2⟩, ?_, hpx⟩, hsm.trans sm10⟩
        rw [hadd, ← hL2.out]
        refine ⟨?_, hΦ, fun j x hj => S2_.2.fk (HP9.nodes j x hj) hΦ, HP9.p, by simpa using hz2, HP9.k, HP9.u, HP9.c, HP9.one⟩
        have hpl : plan g ⟨(.slice An s2.N.length cnn), p2, (.slice (some ⟨gZ, 0, none⟩) s2.N.length cZ), k2, cn2, us2⟩ { s2 with Z := s2.Z.set at_ ((s2.N.length : Int) - (at_ : Int)) } = [blk g 71 #[(.slice An s2.N.length cnn), p2, (.slice (some ⟨gZ, 0, none⟩) s2.N.length cZ), k2], row (.slice An s2.N.length cnn) 24 4 s2.N.length cn2, row p2 3 1 s2.N.length (ints s2.P), row (.slice (some ⟨gZ, 0, none⟩) s2.N.length cZ) 3 1 s2.N.length ((ints s2.Z).set at_ (.int .i64 (wrap64 ((s2.N.length : Int) - (at_ : Int))))), row k2 36 1 s2.N.length us2, grp (inn us2 s2.K)] := by simp only [plan, ints, List.map_set, hdv]
        rw [hpl]
        exact st10
end Go.Proofs.Ytfmlpkeaiohknaa.Q
