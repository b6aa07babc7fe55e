/- The texts of this claim that lie below its row, in their order: MAdd. -/
import Derived.Test.YtfmlpkeaiohknaaZA3
set_option linter.unusedVariables false
set_option linter.unusedSimpArgs false
set_option maxHeartbeats 8000000
set_option maxRecDepth 100000
open Bool renaming false -> BK, false_eq_true -> R5
open Go renaming Value -> Pd, World -> Pe, undef -> Pc
open Go.Act renaming put -> Ph
open Go.RowKit renaming wrap64 -> Pq
open Go.RowKit.Below renaming refl -> Pn
open Go.Value renaming oneCell' -> QL
open List renaming cons_append -> PA, set_cons_succ -> NB, append_assoc -> PP, perm_append_comm -> Q8, length_append -> PK, length_cons -> PX, length_nil -> Qu, map_append -> Qs, map_cons -> Py, map_nil -> PZ, nil_append -> Pu, set_cons_zero -> Pa, getElem?_eq_some_iff -> Pf, drop_succ_cons -> SK, setIfInBounds_toArray -> GW, drop_zero -> SU, getD_eq_getElem?_getD -> Pt, getElem?_eq_getElem -> Pg
open Nat renaming zero_add -> R1, reduceEqDiff -> PH
open Option.some renaming inj -> Px
open Or renaming inl -> PD
namespace Go.Proofs.Q
open Go.RowKit Go.Proofs.V.Words Go.Proofs.V.Last Go.Proofs.V.More Go.Proofs.V.SL
attribute [local go_sem] BI BJ BY BZ Bu Bv BL BM
theorem Ma : (Try.prog.info? 36).map (fun i => (i.zero, i.size, i.bytes)) = some (some (.slice none 0 0), 1, 24) := by kernel_rfl
def add.T2 : Bool × List (List Nat × List Nat) := (true, [([], []), ([], []), ([], []), ([], []), ([], []), ([4], [4]), ([5], [5]), ([6], [6]), ([], []), ([8], [8]), ([7, 9], [7, 9]), ([], []), ([11], [11]), ([12], [12]), ([13], [13]), ([], []), ([15], [15]), ([14, 16, 10], [14, 16]), ([], []), ([18], [18]), ([19], [19]), ([20], [20]), ([], []), ([21, 22, 17], [21, 22]), ([], []), ([24], [24]), ([25], [25]), ([26], [26]), ([], []), ([27, 28, 23], [27, 28]), ([0, 0, 4, 5, 6, 7, 8, 9, 10, 14, 17, 21, 23, 27, 29], [0]), ([30, 0, 4, 5, 6, 7, 8, 9, 10, 14, 17, 21, 23, 27, 29], [30]), ([31, 10, 29, 0, 4, 5, 6, 7, 8, 9, 10, 14, 17, 21, 23, 27, 29], [10, 31]), ([1, 0, 1, 4, 5, 6, 7, 8, 9, 10, 11, 12, 13, 14, 15, 16, 17, 21, 23, 27, 29, 30, 31, 32], [1]), ([33, 0, 1, 4, 5, 6, 7, 8, 9, 10, 11, 12, 13, 14, 15, 16, 17, 21, 23, 27, 29, 30, 31, 32], [33]), ([34, 17, 32, 0, 1, 4, 5, 6, 7, 8, 9, 10, 11, 12, 13, 14, 15, 16, 17, 21, 23, 27, 29, 30, 31, 32], [17, 34]), ([2, 0, 1, 2, 4, 5, 6, 7, 8, 9, 10, 11, 12, 13, 14, 15, 16, 17, 18, 19, 20, 21, 22, 23, 27, 29, 30, 31, 32, 33, 34, 35], [2]), ([36, 0, 1, 2, 4, 5, 6, 7, 8, 9, 10, 11, 12, 13, 14, 15, 16, 17, 18, 19, 20, 21, 22, 23, 27, 29, 30, 31, 32, 33, 34, 35], [36]), ([37, 23, 35, 0, 1, 2, 4, 5, 6, 7, 8, 9, 10, 11, 12, 13, 14, 15, 16, 17, 18, 19, 20, 21, 22, 23, 27, 29, 30, 31, 32, 33, 34, 35], [23, 37]), ([3, 0, 1, 2, 3, 4, 5, 6, 7, 8, 9, 10, 11, 12, 13, 14, 15, 16, 17, 18, 19, 20, 21, 22, 23, 24, 25, 26, 27, 28, 29, 30, 31, 32, 33, 34, 35, 36, 37, 38], [3]), ([39, 0, 1, 2, 3, 4, 5, 6, 7, 8, 9, 10, 11, 12, 13, 14, 15, 16, 17, 18, 19, 20, 21, 22, 23, 24, 25, 26, 27, 28, 29, 30, 31, 32, 33, 34, 35, 36, 37, 38], [39]), ([40, 29, 38, 0, 1, 2, 3, 4, 5, 6, 7, 8, 9, 10, 11, 12, 13, 14, 15, 16, 17, 18, 19, 20, 21, 22, 23, 24, 25, 26, 27, 28, 29, 30, 31, 32, 33, 34, 35, 36, 37, 38], [29, 40])])
def add.B2 : List Nat := [0, 0, 0, 0, 0, 16, 48, 112, 0, 256, 1008, 0, 2048, 6144, 14336, 0, 32768, 131056, 0, 262144, 786432, 1835008, 0, 8388592, 0, 16777216, 50331648, 117440512, 0, 536870896, 1073741809, 2147483633, 4294967281, 8589934579, 17179869171, 34359738355, 68719476727, 137438953463, 274877906935, 549755813887, 1099511627775, 2199023255551]
theorem add.tab2 : Cd .any (DP Try.f40 2) = add.T2 := by kernel_rfl
theorem add.bits2 : C0 add.T2.2 add.B2 = true := by kernel_rfl
def add.T7 : Bool × List (List Nat × List Nat) := (true, [([], []), ([0], [0]), ([1], [1]), ([2], [2]), ([], []), ([], []), ([5], [5]), ([6], [6]), ([7], [7]), ([], []), ([8, 9], [8, 9]), ([10], [10]), ([], []), ([12], [12]), ([11, 13], [11, 13]), ([3, 4, 0, 1, 2, 3, 4, 5, 6, 7, 8, 9, 10, 11, 12, 13, 14], [3, 4]), ([15, 14, 14, 0, 1, 2, 3, 4, 5, 6, 7, 8, 9, 10, 11, 12, 13, 14], [14, 15])])
def add.B7 : List Nat := [0, 1, 3, 7, 0, 0, 32, 96, 224, 0, 992, 2016, 0, 4096, 16352, 32767, 65535]
theorem add.tab7 : Cd .any (DP Try.f40 7) = add.T7 := by kernel_rfl
theorem add.bits7 : C0 add.T7.2 add.B7 = true := by kernel_rfl
def add.T9 : Bool × List (List Nat × List Nat) := (true, [([], []), ([0], [0]), ([1], [1]), ([2], [2]), ([], []), ([], []), ([5], [5]), ([6], [6]), ([7], [7]), ([8], [8]), ([], []), ([9, 10], [9, 10]), ([3, 4, 0, 1, 2, 3, 4, 5, 6, 7, 8, 9, 10, 11], [3, 4]), ([12, 11, 0, 1, 2, 3, 4, 5, 6, 7, 8, 9, 10, 11], [11, 12])])
def add.B9 : List Nat := [0, 1, 3, 7, 0, 0, 32, 96, 224, 480, 0, 2016, 4095, 8191]
theorem add.tab9 : Cd .any (DP Try.f40 9) = add.T9 := by kernel_rfl
theorem add.bits9 : C0 add.T9.2 add.B9 = true := by kernel_rfl
abbrev BB (l : List Int) : List Pd := l.map (.int .i64)
def Eg : List Pd -> List (List Int) -> List Bj
 | u :: us, l :: ls => Bw u 3 1 l.length (BB l) :: Eg us ls
 | _, _ => []
theorem Gs : ∀ {us : List Pd} {ls : List (List Int)}, us.length = ls.length -> ∀ u l, Eg (us ++ [u]) (ls ++ [l]) = Eg us ls ++ [Bw u 3 1 l.length (BB l)]
 | [], [], _, u, l => rfl
 | a :: us, b :: ls, h, u, l => by simp only [PA, Eg]; rw [Gs (by simpa using h)]
theorem En : ∀ {us : List Pd} {ls : List (List Int)} {j : Nat} {u : Pd} {l : List Int}, us[j]? = some u -> ls[j]? = some l -> (Eg us ls)[j]? = some (Bw u 3 1 l.length (BB l))
 | a :: us, b :: ls, 0, u, l, h1, h2 => by simp at h1 h2; subst h1 h2; rfl
 | a :: us, b :: ls, j + 1, u, l, h1, h2 => by simp only [Eg, List.getElem?_cons_succ] at *; exact En h1 h2
theorem Ij : ∀ {us : List Pd} {ls : List (List Int)} {j : Nat} (u : Pd) (l : List Int), us.length = ls.length -> Eg (us.set j u) (ls.set j l) = (Eg us ls).set j (Bw u 3 1 l.length (BB l))
 | [], [], _, _, _, _ => rfl
 | a :: us, b :: ls, 0, u, l, h => rfl
 | a :: us, b :: ls, j + 1, u, l, h => by simp only [Eg, NB]; rw [Ij u l (by simpa using h)]
structure PV where
 n : Pd
 p : Pd
 z : Pd
 k : Pd
 cn : List Pd
 us : List Pd
def Eo (g : Nat) (v : PV) (s : PS) : List Bj := [Al g 71 #[v.n, v.p, v.z, v.k], Bw v.n 24 4 s.N.length v.cn, Bw v.p 3 1 s.N.length (BB s.P), Bw v.z 3 1 s.N.length (BB s.Z), Bw v.k 36 1 s.N.length v.us, Ei (Eg v.us s.K)]
structure Pl (w0 : Pe) (Z Φ : Nat -> Prop) (g : Nat) (v : PV) (s : PS) (X : List Bj) (w : Pe) : Prop where
 st : St w0 Z (Eo g v s ++ X) w
 phi : ∀ k, Φ k -> Z k \/ k < w0.heap.size
 nodes : ∀ (j : Nat) (x : B8), s.N[j]? = some x -> Kd.FK AY w Φ x ((v.cn.drop (j * 4)).take 4)
 p : s.P.length = s.N.length
 z : s.Z.length = s.N.length
 k : s.K.length = s.N.length
 u : v.us.length = s.N.length
 c : v.cn.length = s.N.length * 4
 one : ∀ u ∈ v.cn, u.oneCell' = true
theorem Pl.same {w0 : Pe} {Z Φ : Nat -> Prop} {g : Nat} {v : PV} {s : PS} {X X' : List Bj} {w w' : Pe} (h : Pl w0 Z Φ g v s X w) (st : St w0 Z (Eo g v s ++ X') w') (hs : BS w0 Z w w') : Pl w0 Z Φ g v s X' w' :=
 ⟨st, h.phi, fun j x hj => hs.fk (h.nodes j x hj) h.phi, h.p, h.z, h.k, h.u, h.c, h.one⟩
section
variable {w0 w w' W : Pe} {Z Φ : Nat -> Prop} {g : Nat} {v : PV} {s : PS} {X : List Bj} {x : B8} {cx : List Pd} {parent : Int} {nn pp zz kk : Pd} {e1 e2 e3 e4 : Bj}
theorem Pl.snoc (h : Pl w0 Z Φ g v s X w) (hs : BS w0 Z w w') (hx : Kd.FK AY w' Φ x cx)
  (st : St w0 Z ([Al g 71 #[nn, pp, zz, kk], Bw nn 24 4 (s.N.length + 1) (v.cn ++ cx), Bw pp 3 1 (s.N.length + 1) (BB s.P ++ [.int .i64 parent]), Bw zz 3 1 (s.N.length + 1) (BB s.Z ++ [.int .i64 0]), Bw kk 36 1 (s.N.length + 1) (v.us ++ [.slice none 0 0]), Ei (Eg v.us s.K), e1, e2, e3, e4] ++ X) w') :
  Pl w0 Z Φ g ⟨nn, pp, zz, kk, v.cn ++ cx, v.us ++ [.slice none 0 0]⟩ ⟨s.N ++ [x], s.P ++ [parent], s.Z ++ [0], s.K ++ [[]]⟩ X w' := by
 have hk := h.k; have hu := h.u; have hp := h.p; have hz := h.z; have hc := h.c;have hcx : cx.length = 4 := AY.K_len (Kd.FK_now hx);have h1 := st.sub_nil (i := 5) rfl 3 1;have h2 := h1.perm (l' := [e1, e2, e3, e4] ++ (Eo g ⟨nn, pp, zz, kk, v.cn ++ cx, v.us ++ [.slice none 0 0]⟩ ⟨s.N ++ [x], s.P ++ [parent], s.Z ++ [0], s.K ++ [[]]⟩ ++ X)) (by
  rw [<- PP];refine List.Perm.trans (List.Perm.of_eq ?_) ((Q8 (l₁ := Eo g ⟨nn, pp, zz, kk, v.cn ++ cx, v.us ++ [.slice none 0 0]⟩ ⟨s.N ++ [x], s.P ++ [parent], s.Z ++ [0], s.K ++ [[]]⟩) (l₂ := [e1, e2, e3, e4])).append_right X);simp only [Eo, PK, PX, Qu, R1, BB, Qs, Py, PZ, Gs (hu.trans hk.symm), PA, Pu, NB, Pa])
 refine ⟨h2.drop.drop.drop.drop, h.phi, fun j y hj => ?_, by simp [hp], by simp [hz], by simp [hk], by simp [hu], by simp [hc, hcx]; omega, fun u hm => ?_⟩
 ·simp only at hj ⊢;by_cases hl : j < s.N.length
  ·rw [List.getElem?_append_left hl] at hj;have h3 := hs.fk (h.nodes j y hj) h.phi;rw [List.drop_append_of_le_length (by omega), List.take_append_of_le_length (by rw [List.length_drop]; omega)];exact h3
  ·have hjl := (Pf.1 hj).1;simp only [PK, PX, Qu, R1] at hjl;have hje : j = s.N.length := by omega
   subst hje;have hyx : y = x := by simpa using hj.symm
   subst hyx;rw [<- hc, List.drop_left, <- hcx, List.take_length];exact hx
 ·rcases List.mem_append.1 hm with hm | hm
  ·exact h.one u hm
  ·exact AY.K_one (Kd.FK_now hx) u hm
theorem Da {e n k cap : Nat} {xs : List Pd} (h : w.ownsRow 0 e 1 (.slice (some ⟨g, 0, none⟩) n cap) n xs) (hk : k < n) (u : Pd) : (w.setCell ⟨g, k, none⟩ u).ownsRow 0 e 1 (.slice (some ⟨g, 0, none⟩) n cap) n (xs.set k u) /\ w.grownBy (w.setCell ⟨g, k, none⟩ u) (Value.slice (some ⟨g, 0, none⟩) n cap).ownBlock /\ (∃ t, xs[k]? = some t /\ w.cell? ⟨g, k, none⟩ = some t) /\ w.frozen? ⟨g, k, none⟩ = BK := by
 obtain ⟨g', cap', he, h2⟩ := EI h hk u;injection he with h3 _ _
 injection h3 with h4
 injection h4 with h5
 subst h5;exact h2
theorem Gt : ∀ {l : List B8} {j : Nat} {x : B8}, l[j]? = some x -> BE (l.drop j) = BT x + BE (l.drop (j + 1))
 | [], _, _, h => by simp at h
 | a :: r, 0, x, h => by simp at h; subst h; simp [BE]
 | a :: r, j + 1, x, h => by simp only [SK]; exact Gt (by simpa using h)
theorem FH : ∀ (l : List B8) (j : Nat), BE (l.drop j) <= BE l
 | [], j => by simp
 | a :: r, 0 => by simp
 | a :: r, j + 1 => by simp only [SK, BE]; have := FH r j; omega
mutual
theorem CT : ∀ (x : B8) (p : Int) (s : PS), (C1 x p s).N.length = s.N.length + BT x
 | ⟨a, b, c, l⟩, p, s => by simp only [C1, BT]; rw [Ep]; simp; omega
theorem Ep : ∀ (l : List B8) (a : Nat) (s : PS), (C8 l a s).N.length = s.N.length + BE l
 | [], a, s => by simp [C8, BE]
 | k :: r, a, s => by simp only [C8, BE]; rw [Ep r]; simp only []; rw [CT k]; omega
theorem Fk : ∀ (l : List B8), l.length <= BE l
 | [] => by simp
 | ⟨a, b, c, r⟩ :: l => by have := Fk l; simp only [PX, BE, BT]; omega
end
def Db (l : List (List Int)) : Nat := (l.map List.length).sum
theorem Gu : ∀ (l : List (List Int)) (i : Nat) (v : Int), Db (l.set i (l.getD i [] ++ [v])) <= Db l + 1
 | [], i, v => by simp [Db]
 | a :: r, 0, v => by simp [Db]; omega
 | a :: r, i + 1, v => by have := Gu r i v; simp only [Db, List.getD_cons_succ, NB, Py, List.sum_cons] at *; omega
theorem Gv : ∀ {l : List (List Int)} {i : Nat} {x : List Int}, l[i]? = some x -> x.length <= Db l
 | [], _, _, h => by simp at h
 | a :: r, 0, x, h => by simp at h; subst h; simp [Db]
 | a :: r, i + 1, x, h => by have := Gv (l := r) (i := i) (x := x) (by simpa using h); simp only [Db, Py, List.sum_cons] at *; omega
mutual
theorem Gw : ∀ (x : B8) (p : Int) (s : PS), Db (C1 x p s).K + 1 <= Db s.K + BT x
 | ⟨a, b, c, l⟩, p, s => by
  have := IV l s.N.length ⟨s.N ++ [⟨a, b, c, l⟩], s.P ++ [p], s.Z ++ [0], s.K ++ [[]]⟩;have h2 : Db (s.K ++ [[]]) = Db s.K := by simp [Db]
  simp only [C1, BT] at *; omega
theorem IV : ∀ (l : List B8) (a : Nat) (s : PS), Db (C8 l a s).K <= Db s.K + BE l
 | [], a, s => by simp [C8, BE]
 | k :: r, a, s => by
  have h1 := Gw k a s;have h2 := Gu (C1 k a s).K a s.N.length;have h3 := IV r a { (C1 k a s) with K := (C1 k a s).K.set a ((C1 k a s).K.getD a [] ++ [(s.N.length : Int)]) };simp only [C8, BE] at *; omega
end
end
def O7 (g : Nat) (n2 p2 z2 k2 : Pd) (cn2 us2 : List Pd) (s2 : PS) (at_ : Nat) (d : Int) (X : List Bj) (b : Nat -> Bool) : List Bj :=
 [Al g 71 #[n2, p2, z2, k2], Bw n2 24 4 s2.N.length cn2, Bw p2 3 1 s2.N.length (BB s2.P), Bw z2 3 1 s2.N.length (cond (b 13) ((BB s2.Z).set at_ (.int .i64 d)) (BB s2.Z)), Bw k2 36 1 s2.N.length us2, Ei (Eg us2 s2.K)] ++ X
def IW (g : Nat) (n3 p3 z3 k3 : Pd) (cn3 us3 : List Pd) (s3 : PS) (at_ : Nat) (kid : Int) (kl : List Int) (X : List Bj) (b : Nat -> Bool) (tt uu : Pd) : List Bj :=
 [Al g 71 #[n3, p3, z3, k3], Bw n3 24 4 s3.N.length cn3, Bw p3 3 1 s3.N.length (BB s3.P), Bw z3 3 1 s3.N.length (BB s3.Z), Bw k3 36 1 s3.N.length (cond (b 16) (us3.set at_ uu) us3),
  Ei (cond (b 14) ((Eg us3 s3.K).set at_ (Bw uu 3 1 (kl.length + 1) (BB kl ++ [.int .i64 kid]))) (Eg us3 s3.K)), cond (b 13) (Bw tt 3 1 1 [.int .i64 kid]) IN] ++ X
def Dx (g : Nat) (v : PV) (s : PS) (cx : List Pd) (parent : Int) (gb : Nat) (X : List Bj) (b : Nat -> Bool) (nn pp zz kk t9 t16 t22 t28 : Pd) : List Bj :=
 [Al g 71 #[cond (b 32) nn v.n, cond (b 35) pp v.p, cond (b 38) zz v.z, cond (b 41) kk v.k],
  cond (b 10) (Bw nn 24 4 (s.N.length + 1) (v.cn ++ cx)) (Bw v.n 24 4 s.N.length v.cn), cond (b 17) (Bw pp 3 1 (s.N.length + 1) (BB s.P ++ [.int .i64 parent])) (Bw v.p 3 1 s.N.length (BB s.P)),
  cond (b 23) (Bw zz 3 1 (s.N.length + 1) (BB s.Z ++ [.int .i64 0])) (Bw v.z 3 1 s.N.length (BB s.Z)), cond (b 29) (Bw kk 36 1 (s.N.length + 1) (v.us ++ [.slice none 0 0])) (Bw v.k 36 1 s.N.length v.us), Ei (Eg v.us s.K),
  cond (b 9) (Bw t9 24 4 1 cx) IN, cond (b 16) (Bw t16 3 1 1 [.int .i64 parent]) IN, cond (b 22) (Bw t22 3 1 1 [.int .i64 0]) IN, cond (b 28) (Bw t28 36 1 1 [.slice none 0 0]) IN] ++ X
theorem KX : ∀ (m : Nat) (x : B8), BT x <= m -> ∀ (w0 : Pe) (Z Φ : Nat -> Prop) (g : Nat) (v : PV) (s : PS) (X : List Bj) (parent : Int) (A : Option Addr) (c : Nat) (w : Pe),
    Pl w0 Z Φ g v s X w -> Kd.F AY w Φ A x.f3.length x.f3 -> x.f3.length <= c -> s.N.length + BT x <= 1000000 -> Db s.K + BT x <= 1000000 ->
    Calls Try.prog 40 #[.pointer (some ⟨g, 0, none⟩), .agg #[.int .i64 x.f0, .string x.f1, .string x.f2, .slice A x.f3.length c], .int .i64 parent] w
      fun e w' => e = .returned (.int .i64 s.N.length) /\ (∃ v', Pl w0 Z Φ g v' (C1 x parent s) X w' /\ List.IsPrefix (v.cn ++ [.int .i64 x.f0, .string x.f1, .string x.f2, .slice A x.f3.length c]) v'.cn) /\ BS w0 Z w w' := by
 intro m
 induction m with
 | zero => intro x hx; exact absurd hx (by cases x; simp [BT])
 | succ m ih =>
 rintro ⟨a0, a1, a2, l⟩ hx w0 Z Φ g v s X parent A c w HP HF hc hlen hsum;simp only [] at HF hc ⊢;have hu24 := Try.underlying24;have hn := HP.p;have hΦ := HP.phi;go_enter Try.func40, Try.ntmps40
 go_wp2_with (first | ((with_reducible refine AE (N := 4) rfl ?_); refine Aw ?hg (N := 4) ?hd (cs := #[.int .i64 a0, .string a1, .string a2, .slice A l.length c]) (t := 24) ?hr ?_; (case hd => rfl); (case hg => rfl); (case hr => first | (go_simp; done) | (go_simp; rfl)); intro gb hgb w1 hbox hb; have q1_ := HP.st.more hb (a := Al gb 24 #[.int .i64 a0, .string a1, .string a2, .slice A l.length c]) (f := fun k => k = gb) ⟨fun _ => Iff.rfl, hbox⟩ (fun k hk => by omega); have HP1 := HP.same (X' := Al gb 24 #[.int .i64 a0, .string a1, .string a2, .slice A l.length c] :: X) (q1_.1.perm List.perm_middle.symm) q1_.2; have hsA := q1_.2; clear q1_ HP hb hbox hgb; obtain ⟨A0, c0, e0⟩ := BF (HP1.st.at_row (i := 1) rfl); have hcz0 : w1.cell? ⟨g, 0, none⟩ = some (.slice A0 s.N.length c0) := (Aa (HP1.st.at_blk (i := 0) rfl) 0).trans (by rw [e0]; rfl); have hcz1 : w1.cell? ⟨gb, 3, none⟩ = some (.slice A l.length c) := (Aa (HP1.st.at_blk (i := 6) rfl) 3).trans rfl))
 obtain ⟨st2, sm2⟩ := HP1.st.keep (AD (Pn w1.heap.size w1));have HP2 := HP1.same st2 sm2;have S : (St w0 Z (Dx g v s [.int .i64 a0, .string a1, .string a2, .slice A l.length c] parent gb (Al gb 24 #[.int .i64 a0, .string a1, .string a2, .slice A l.length c] :: X) (fun _ => BK) (.bool BK) (.bool BK) (.bool BK) (.bool BK) (.bool BK) (.bool BK) (.bool BK) (.bool BK)) w1.drew /\ BS w0 Z w1.drew w1.drew) := ⟨st2.emp_new.emp_new.emp_new.emp_new.perm ((Q8 (l₁ := [IN, IN, IN, IN]) (l₂ := Eo g v s)).append_right (Al gb 24 #[.int .i64 a0, .string a1, .string a2, .slice A l.length c] :: X)), BS.refl _ _ _⟩;have hNl : s.N.length < 1000000 := by simp only [BT] at hlen; omega
 refine Cu (n := 42) (S := fun w' => True) (ds := []) #[BK, BK, BK, BK, BK, BK, BK, BK, BK, BK, BK, BK, BK, BK, BK, BK, BK, BK, BK, BK, BK, BK, BK, BK, BK, BK, BK, BK, BK, BK, BK, BK, BK, BK, BK, BK, BK, BK, BK, BK, BK, BK] (by kernel_rfl) rfl rfl trivial (fun hHeld => ?_);refine BQ add.tab2 add.bits2 (fun HT_ HW_ => ?_);generalize w1.drew = w2 at S hHeld HP2 sm2 ⊢;refine AM (i := 0) (N := some 16) (v := ?_) (a' := ?_) #[true, BK, BK, BK, BK, BK, BK, BK, BK, BK, BK, BK, BK, BK, BK, BK, BK, BK, BK, BK, BK, BK, BK, BK, BK, BK, BK, BK, BK, BK, BK, BK, BK, BK, BK, BK, BK, BK, BK, BK, BK, BK] rfl rfl (AA HT_.out (by kernel_rfl)) (fun _ _ _ h => h) (PD ⟨by rfl, ?_⟩) ?_ ?_;rotate_left
 · intro w';go_simp
   with_reducible rfl
 rotate_left
 · simp only [Ph, GW, Pa, NB, Ar, AB];rfl
 refine AM (i := 1) (N := some 17) (v := ?_) (a' := ?_) #[true, true, BK, BK, BK, BK, BK, BK, BK, BK, BK, BK, BK, BK, BK, BK, BK, BK, BK, BK, BK, BK, BK, BK, BK, BK, BK, BK, BK, BK, BK, BK, BK, BK, BK, BK, BK, BK, BK, BK, BK, BK] rfl rfl (AA HT_.out (by kernel_rfl)) (fun _ _ _ h => h) (PD ⟨by rfl, ?_⟩) ?_ ?_;rotate_left
 · intro w';go_simp
   with_reducible rfl
 rotate_left
 · simp only [Ph, GW, Pa, NB, Ar, AB];rfl
 refine AM (i := 2) (N := some 18) (v := ?_) (a' := ?_) #[true, true, true, BK, BK, BK, BK, BK, BK, BK, BK, BK, BK, BK, BK, BK, BK, BK, BK, BK, BK, BK, BK, BK, BK, BK, BK, BK, BK, BK, BK, BK, BK, BK, BK, BK, BK, BK, BK, BK, BK, BK] rfl rfl (AA HT_.out (by kernel_rfl)) (fun _ _ _ h => h) (PD ⟨by rfl, ?_⟩) ?_ ?_;rotate_left
 · intro w';go_simp
   with_reducible rfl
 rotate_left
 · simp only [Ph, GW, Pa, NB, Ar, AB];rfl
 refine AM (i := 3) (N := some 19) (v := ?_) (a' := ?_) #[true, true, true, true, BK, BK, BK, BK, BK, BK, BK, BK, BK, BK, BK, BK, BK, BK, BK, BK, BK, BK, BK, BK, BK, BK, BK, BK, BK, BK, BK, BK, BK, BK, BK, BK, BK, BK, BK, BK, BK, BK] rfl rfl (AA HT_.out (by kernel_rfl)) (fun _ _ _ h => h) (PD ⟨by rfl, ?_⟩) ?_ ?_;rotate_left
 · intro w';go_simp
   with_reducible rfl
 rotate_left
 · simp only [Ph, GW, Pa, NB, Ar, AB];rfl
 refine AM (i := 4) (N := some 20) (v := ?_) (a' := ?_) #[true, true, true, true, true, BK, BK, BK, BK, BK, BK, BK, BK, BK, BK, BK, BK, BK, BK, BK, BK, BK, BK, BK, BK, BK, BK, BK, BK, BK, BK, BK, BK, BK, BK, BK, BK, BK, BK, BK, BK, BK] rfl rfl (AA HT_.out (by kernel_rfl)) (fun _ _ _ h => h) (PD ⟨by rfl, ?_⟩) ?_ ?_;rotate_left
 · intro w';go_simp
   with_reducible rfl
 rotate_left
 · simp only [Ph, GW, Pa, NB, Ar, AB];rfl
 refine AM (i := 5) (N := some 21) (v := ?_) (a' := ?_) #[true, true, true, true, true, true, BK, BK, BK, BK, BK, BK, BK, BK, BK, BK, BK, BK, BK, BK, BK, BK, BK, BK, BK, BK, BK, BK, BK, BK, BK, BK, BK, BK, BK, BK, BK, BK, BK, BK, BK, BK] rfl rfl (AA HT_.out (by kernel_rfl)) (fun _ _ _ h => h) (PD ⟨by rfl, ?_⟩) ?_ ?_;rotate_left
 · intro w';go_simp
   with_reducible rfl
 rotate_left
 · simp only [Ph, GW, Pa, NB, Ar, AB];rfl
 refine AM (i := 6) (N := some 22) (v := ?_) (a' := ?_) #[true, true, true, true, true, true, true, BK, BK, BK, BK, BK, BK, BK, BK, BK, BK, BK, BK, BK, BK, BK, BK, BK, BK, BK, BK, BK, BK, BK, BK, BK, BK, BK, BK, BK, BK, BK, BK, BK, BK, BK] rfl rfl (AA HT_.out (by kernel_rfl)) (fun _ _ _ h => h) (PD ⟨by rfl, ?_⟩) ?_ ?_;rotate_left
 · intro w';go_simp
   with_reducible rfl
 rotate_left
 · simp only [Ph, GW, Pa, NB, Ar, AB];rfl
 refine AM (i := 11) (N := some 27) (v := ?_) (a' := ?_) #[true, true, true, true, true, true, true, BK, BK, BK, BK, true, BK, BK, BK, BK, BK, BK, BK, BK, BK, BK, BK, BK, BK, BK, BK, BK, BK, BK, BK, BK, BK, BK, BK, BK, BK, BK, BK, BK, BK, BK] rfl rfl (AA HT_.out (by kernel_rfl)) (fun _ _ _ h => h) (PD ⟨by rfl, ?_⟩) ?_ ?_;rotate_left
 · intro w';go_simp
   with_reducible rfl
 rotate_left
 · simp only [Ph, GW, Pa, NB, Ar, AB];rfl
 refine AM (i := 12) (N := some 28) (v := ?_) (a' := ?_) #[true, true, true, true, true, true, true, BK, BK, BK, BK, true, true, BK, BK, BK, BK, BK, BK, BK, BK, BK, BK, BK, BK, BK, BK, BK, BK, BK, BK, BK, BK, BK, BK, BK, BK, BK, BK, BK, BK, BK] rfl rfl (AA HT_.out (by kernel_rfl)) (fun _ _ _ h => h) (PD ⟨by rfl, ?_⟩) ?_ ?_;rotate_left
 · intro w';go_simp
   with_reducible rfl
 rotate_left
 · simp only [Ph, GW, Pa, NB, Ar, AB];rfl
 refine AM (i := 13) (N := some 29) (v := ?_) (a' := ?_) #[true, true, true, true, true, true, true, BK, BK, BK, BK, true, true, true, BK, BK, BK, BK, BK, BK, BK, BK, BK, BK, BK, BK, BK, BK, BK, BK, BK, BK, BK, BK, BK, BK, BK, BK, BK, BK, BK, BK] rfl rfl (AA HT_.out (by kernel_rfl)) (fun _ _ _ h => h) (PD ⟨by rfl, ?_⟩) ?_ ?_;rotate_left
 · intro w';go_simp
   with_reducible rfl
 rotate_left
 · simp only [Ph, GW, Pa, NB, Ar, AB];rfl
 refine AM (i := 15) (N := some 31) (v := ?_) (a' := ?_) #[true, true, true, true, true, true, true, BK, BK, BK, BK, true, true, true, BK, true, BK, BK, BK, BK, BK, BK, BK, BK, BK, BK, BK, BK, BK, BK, BK, BK, BK, BK, BK, BK, BK, BK, BK, BK, BK, BK] rfl rfl (AA HT_.out (by kernel_rfl)) (fun _ _ _ h => h) (PD ⟨by rfl, ?_⟩) ?_ ?_;rotate_left
 · intro w';go_simp
   with_reducible rfl
 rotate_left
 · simp only [Ph, GW, Pa, NB, Ar, AB];rfl
 refine AM (i := 18) (N := some 34) (v := ?_) (a' := ?_) #[true, true, true, true, true, true, true, BK, BK, BK, BK, true, true, true, BK, true, BK, BK, true, BK, BK, BK, BK, BK, BK, BK, BK, BK, BK, BK, BK, BK, BK, BK, BK, BK, BK, BK, BK, BK, BK, BK] rfl rfl (AA HT_.out (by kernel_rfl)) (fun _ _ _ h => h) (PD ⟨by rfl, ?_⟩) ?_ ?_;rotate_left
 · intro w';go_simp
   with_reducible rfl
 rotate_left
 · simp only [Ph, GW, Pa, NB, Ar, AB];rfl
 refine AM (i := 19) (N := some 35) (v := ?_) (a' := ?_) #[true, true, true, true, true, true, true, BK, BK, BK, BK, true, true, true, BK, true, BK, BK, true, true, BK, BK, BK, BK, BK, BK, BK, BK, BK, BK, BK, BK, BK, BK, BK, BK, BK, BK, BK, BK, BK, BK] rfl rfl (AA HT_.out (by kernel_rfl)) (fun _ _ _ h => h) (PD ⟨by rfl, ?_⟩) ?_ ?_;rotate_left
 · intro w';go_simp
   with_reducible rfl
 rotate_left
 · simp only [Ph, GW, Pa, NB, Ar, AB];rfl
 refine AM (i := 20) (N := some 36) (v := ?_) (a' := ?_) #[true, true, true, true, true, true, true, BK, BK, BK, BK, true, true, true, BK, true, BK, BK, true, true, true, BK, BK, BK, BK, BK, BK, BK, BK, BK, BK, BK, BK, BK, BK, BK, BK, BK, BK, BK, BK, BK] rfl rfl (AA HT_.out (by kernel_rfl)) (fun _ _ _ h => h) (PD ⟨by rfl, ?_⟩) ?_ ?_;rotate_left
 · intro w';go_simp
   with_reducible rfl
 rotate_left
 · simp only [Ph, GW, Pa, NB, Ar, AB];rfl
 refine AM (i := 24) (N := some 40) (v := ?_) (a' := ?_) #[true, true, true, true, true, true, true, BK, BK, BK, BK, true, true, true, BK, true, BK, BK, true, true, true, BK, BK, BK, true, BK, BK, BK, BK, BK, BK, BK, BK, BK, BK, BK, BK, BK, BK, BK, BK, BK] rfl rfl (AA HT_.out (by kernel_rfl)) (fun _ _ _ h => h) (PD ⟨by rfl, ?_⟩) ?_ ?_;rotate_left
 · intro w';go_simp
   with_reducible rfl
 rotate_left
 · simp only [Ph, GW, Pa, NB, Ar, AB];rfl
 refine AM (i := 25) (N := some 41) (v := ?_) (a' := ?_) #[true, true, true, true, true, true, true, BK, BK, BK, BK, true, true, true, BK, true, BK, BK, true, true, true, BK, BK, BK, true, true, BK, BK, BK, BK, BK, BK, BK, BK, BK, BK, BK, BK, BK, BK, BK, BK] rfl rfl (AA HT_.out (by kernel_rfl)) (fun _ _ _ h => h) (PD ⟨by rfl, ?_⟩) ?_ ?_;rotate_left
 · intro w';go_simp
   with_reducible rfl
 rotate_left
 · simp only [Ph, GW, Pa, NB, Ar, AB];rfl
 refine AM (i := 26) (N := some 42) (v := ?_) (a' := ?_) #[true, true, true, true, true, true, true, BK, BK, BK, BK, true, true, true, BK, true, BK, BK, true, true, true, BK, BK, BK, true, true, true, BK, BK, BK, BK, BK, BK, BK, BK, BK, BK, BK, BK, BK, BK, BK] rfl rfl (AA HT_.out (by kernel_rfl)) (fun _ _ _ h => h) (PD ⟨by rfl, ?_⟩) ?_ ?_;rotate_left
 · intro w';go_simp
   with_reducible rfl
 rotate_left
 · simp only [Ph, GW, Pa, NB, Ar, AB];rfl
 refine DY [7, 8, 9, 10, 14, 16, 17, 21, 22, 23, 27, 28, 29, 30, 31, 32, 33, 34, 35, 36, 37, 38, 39, 40, 41] (fun a0_ b a w' => ∃ (nn : Pd) (pp : Pd) (zz : Pd) (kk : Pd) (t9 : Pd) (t16 : Pd) (t22 : Pd) (t28 : Pd), a = Bm a0_ b [(7, 23, v.n), (8, 24, (.agg #[.int .i64 a0, .string a1, .string a2, .slice A l.length c] : Pd)), (9, 25, t9), (10, 26, nn), (14, 30, v.p), (16, 32, t16), (17, 33, pp), (21, 37, v.z), (22, 38, t22), (23, 39, zz), (27, 43, v.k), (28, 44, t28), (29, 45, kk), (30, 46, .pointer (some ⟨g, 0, none⟩)), (31, 47, .pointer (some ⟨g, 0, none⟩)), (33, 48, .pointer (some ⟨g, 0, none⟩)), (34, 49, .pointer (some ⟨g, 1, none⟩)), (36, 50, .pointer (some ⟨g, 0, none⟩)), (37, 51, .pointer (some ⟨g, 2, none⟩)), (39, 52, .pointer (some ⟨g, 0, none⟩)), (40, 53, .pointer (some ⟨g, 3, none⟩))] /\ ((St w0 Z (Dx g v s [.int .i64 a0, .string a1, .string a2, .slice A l.length c] parent gb (Al gb 24 #[.int .i64 a0, .string a1, .string a2, .slice A l.length c] :: X) b nn pp zz kk t9 t16 t22 t28) w' /\ BS w0 Z w2 w'))) HT_.out HW_.out (by kernel_rfl) (by kernel_rfl) ?_ ?_ ?_
 · exact ⟨.bool BK, .bool BK, .bool BK, .bool BK, .bool BK, .bool BK, .bool BK, .bool BK, by simp only [Bm, R5, if_false], S⟩
 · skip
   clear S;refine Am ?_ ?_
   · rintro b a w' ⟨nn, pp, zz, kk, t9, t16, t22, t28, ha, Q_S⟩ hb_ hon hoff;refine ⟨_, rfl, fun K hK => ?_⟩;have e22 : a.tmps[22]? = some (.pointer (some ⟨g, 0, none⟩)) := by rw [ha]; exact (AU rfl).trans rfl
     replace ha := A7.mk ha;have S := A7.mk Q_S;have hc_ : w'.cell? ⟨g, 0, none⟩ = some v.n := (Aa (S.out.1.at_blk (i := 0) rfl) 0).trans (by rw [(hoff 32 (by kernel_rfl))]; rfl);refine Be (w1 := w') (v := v.n) (by rfl) rfl ?_ ?_
     · go_simp
       (try simp only [Ar])
       try rfl
     refine hK.out _ _ ⟨nn, pp, zz, kk, t9, t16, t22, t28, (by rw [ha.out]; exact At 0 hb_ rfl rfl rfl), Q_S⟩
   refine Am ?_ ?_
   · rintro b a w' ⟨nn, pp, zz, kk, t9, t16, t22, t28, ha, Q_S⟩ hb_ hon hoff;refine ⟨_, rfl, fun K hK => ?_⟩;have e4 : a.tmps[4]? = some (.pointer (some ⟨gb, 0, none⟩)) := by rw [ha]; exact (AU rfl).trans rfl
     replace ha := A7.mk ha;have S := A7.mk Q_S;have hbb_ := S.out.1.at_blk (i := 10) rfl;have hd0_ : w'.cell? ⟨gb, 0, none⟩ = some (.int .i64 a0) := (Aa hbb_ 0).trans rfl;have hd1_ : w'.cell? ⟨gb, 1, none⟩ = some (.string a1) := (Aa hbb_ 1).trans rfl;have hd2_ : w'.cell? ⟨gb, 2, none⟩ = some (.string a2) := (Aa hbb_ 2).trans rfl;have hd3_ : w'.cell? ⟨gb, 3, none⟩ = some (.slice A l.length c) := (Aa hbb_ 3).trans rfl;refine Be (w1 := w') (v := (.agg #[.int .i64 a0, .string a1, .string a2, .slice A l.length c] : Pd)) (by rfl) rfl ?_ ?_
     · go_simp
       (try simp only [Ar])
       try rfl
     refine hK.out _ _ ⟨nn, pp, zz, kk, t9, t16, t22, t28, (by rw [ha.out]; exact At 1 hb_ rfl rfl rfl), Q_S⟩
   refine Am ?_ ?_
   · rintro b a w' ⟨nn, pp, zz, kk, t9, t16, t22, t28, ha, Q_S⟩ hb_ hon hoff;refine ⟨_, rfl, fun K hK => ?_⟩;have e24 : a.tmps[24]? = some ((.agg #[.int .i64 a0, .string a1, .string a2, .slice A l.length c] : Pd)) := by rw [ha]; exact Ax (e := (8, 24, (.agg #[.int .i64 a0, .string a1, .string a2, .slice A l.length c] : Pd))) 1 rfl rfl (hon 8 (by kernel_rfl)) rfl
     replace ha := A7.mk ha;have S := A7.mk Q_S;refine Be (w1 := w'.alloc (.cells #[.int .i64 a0, .string a1, .string a2, .slice A l.length c] 24)) (v := .slice (some ⟨w'.heap.size, 0, none⟩) 1 1) (by rfl) rfl ?_ ?_
     · go_simp
       try rfl
     have S2_ := S.out.1.lit (i := 6) (by simp only [Dx, hb_]; rfl) 24 4 1 (by decide) (by decide) [.int .i64 a0, .string a1, .string a2, .slice A l.length c] rfl;have S3_ : (St w0 Z (Dx g v s [.int .i64 a0, .string a1, .string a2, .slice A l.length c] parent gb (Al gb 24 #[.int .i64 a0, .string a1, .string a2, .slice A l.length c] :: X) (up b 9) nn pp zz kk (.slice (some ⟨w'.heap.size, 0, none⟩) 1 1) t16 t22 t28) (w'.alloc (.cells #[.int .i64 a0, .string a1, .string a2, .slice A l.length c] 24)) /\ BS w0 Z w2 (w'.alloc (.cells #[.int .i64 a0, .string a1, .string a2, .slice A l.length c] 24))) := ⟨by have h_ := S2_.1; simp only [Dx, PA, Pu, Pa, NB, GW, up, PH, reduceIte, cond_true, cond_false, hb_, (hoff 10 (by kernel_rfl))] at h_ ⊢; exact h_, S.out.2.trans S2_.2⟩;refine hK.out _ _ ⟨nn, pp, zz, kk, (.slice (some ⟨w'.heap.size, 0, none⟩) 1 1), t16, t22, t28, (by rw [ha.out]; exact At 2 hb_ rfl rfl rfl), S3_⟩
   refine Am ?_ ?_
   · rintro b a w' ⟨nn, pp, zz, kk, t9, t16, t22, t28, ha, Q_S⟩ hb_ hon hoff;refine ⟨_, rfl, fun K hK => ?_⟩;have e23 : a.tmps[23]? = some (v.n) := by rw [ha]; exact Ax (e := (7, 23, v.n)) 0 rfl rfl (hon 7 (by kernel_rfl)) rfl
     have e25 : a.tmps[25]? = some (t9) := by rw [ha]; exact Ax (e := (9, 25, t9)) 2 rfl rfl (hon 9 (by kernel_rfl)) rfl
     replace ha := A7.mk ha;have S := A7.mk Q_S;refine CI (by rfl) (.tmp 23) (.tmp 25) 22 24 (.agg #[.int .i64 0, .string ⟨#[]⟩, .string ⟨#[]⟩, .slice none 0 0]) 4 64 rfl Try.underlying22 El rfl (by decide) (by decide) v.n t9 s.N.length (v.cn) [.int .i64 a0, .string a1, .string a2, .slice A l.length c] (Cx e23) (Cx e25) (by simp [QL]) (S.out.1.at_row (i := 1) (by simp only [Dx, hb_]; rfl)) (S.out.1.at_row (i := 6) (by simp only [Dx, (hon 9 (by kernel_rfl))]; rfl)) (by omega) ?_;intro v1 w1 ho hg hat;have S2_ := S.out.1.row_upd (i := 1) (by simp only [Dx, hb_]; rfl) ho hg hat;have S3_ : (St w0 Z (Dx g v s [.int .i64 a0, .string a1, .string a2, .slice A l.length c] parent gb (Al gb 24 #[.int .i64 a0, .string a1, .string a2, .slice A l.length c] :: X) (up b 10) v1 pp zz kk t9 t16 t22 t28) w1 /\ BS w0 Z w2 w1) := ⟨by have h_ := S2_.1; simp only [Dx, PA, Pu, Pa, NB, GW, up, PH, reduceIte, cond_true, cond_false, hb_, (hon 9 (by kernel_rfl)), (hoff 32 (by kernel_rfl))] at h_ ⊢; exact h_, S.out.2.trans S2_.2⟩;refine hK.out _ _ ⟨v1, pp, zz, kk, t9, t16, t22, t28, (by rw [ha.out]; exact At 3 hb_ rfl rfl rfl), S3_⟩
   refine Am ?_ ?_
   · rintro b a w' ⟨nn, pp, zz, kk, t9, t16, t22, t28, ha, Q_S⟩ hb_ hon hoff;refine ⟨_, rfl, fun K hK => ?_⟩;have e29 : a.tmps[29]? = some (.pointer (some ⟨g, 1, none⟩)) := by rw [ha]; exact (AU rfl).trans rfl
     replace ha := A7.mk ha;have S := A7.mk Q_S;have hc_ : w'.cell? ⟨g, 1, none⟩ = some v.p := (Aa (S.out.1.at_blk (i := 0) rfl) 1).trans (by rw [(hoff 35 (by kernel_rfl))]; rfl);refine Be (w1 := w') (v := v.p) (by rfl) rfl ?_ ?_
     · go_simp
       (try simp only [Ar])
       try rfl
     refine hK.out _ _ ⟨nn, pp, zz, kk, t9, t16, t22, t28, (by rw [ha.out]; exact At 4 hb_ rfl rfl rfl), Q_S⟩
   refine Am ?_ ?_
   · rintro b a w' ⟨nn, pp, zz, kk, t9, t16, t22, t28, ha, Q_S⟩ hb_ hon hoff;refine ⟨_, rfl, fun K hK => ?_⟩;have e31 : a.tmps[31]? = some (.int .i64 parent) := by rw [ha]; exact (AU rfl).trans rfl
     replace ha := A7.mk ha;have S := A7.mk Q_S;refine Be (w1 := w'.alloc (.cells #[.int .i64 parent] 3)) (v := .slice (some ⟨w'.heap.size, 0, none⟩) 1 1) (by rfl) rfl ?_ ?_
     · go_simp
       try rfl
     have S2_ := S.out.1.lit (i := 7) (by simp only [Dx, hb_]; rfl) 3 1 1 (by decide) (by decide) [.int .i64 parent] rfl;have S3_ : (St w0 Z (Dx g v s [.int .i64 a0, .string a1, .string a2, .slice A l.length c] parent gb (Al gb 24 #[.int .i64 a0, .string a1, .string a2, .slice A l.length c] :: X) (up b 16) nn pp zz kk t9 (.slice (some ⟨w'.heap.size, 0, none⟩) 1 1) t22 t28) (w'.alloc (.cells #[.int .i64 parent] 3)) /\ BS w0 Z w2 (w'.alloc (.cells #[.int .i64 parent] 3))) := ⟨by have h_ := S2_.1; simp only [Dx, PA, Pu, Pa, NB, GW, up, PH, reduceIte, cond_true, cond_false, hb_, (hoff 17 (by kernel_rfl))] at h_ ⊢; exact h_, S.out.2.trans S2_.2⟩;refine hK.out _ _ ⟨nn, pp, zz, kk, t9, (.slice (some ⟨w'.heap.size, 0, none⟩) 1 1), t22, t28, (by rw [ha.out]; exact At 5 hb_ rfl rfl rfl), S3_⟩
   refine Am ?_ ?_
   · rintro b a w' ⟨nn, pp, zz, kk, t9, t16, t22, t28, ha, Q_S⟩ hb_ hon hoff;refine ⟨_, rfl, fun K hK => ?_⟩;have e30 : a.tmps[30]? = some (v.p) := by rw [ha]; exact Ax (e := (14, 30, v.p)) 4 rfl rfl (hon 14 (by kernel_rfl)) rfl
     have e32 : a.tmps[32]? = some (t16) := by rw [ha]; exact Ax (e := (16, 32, t16)) 5 rfl rfl (hon 16 (by kernel_rfl)) rfl
     replace ha := A7.mk ha;have S := A7.mk Q_S;refine CI (by rfl) (.tmp 30) (.tmp 32) 36 3 (.int .i64 0) 1 8 rfl Try.underlying36 Ca rfl (by decide) (by decide) v.p t16 s.N.length (BB s.P) [.int .i64 parent] (Cx e30) (Cx e32) (by simp [QL]) (S.out.1.at_row (i := 2) (by simp only [Dx, hb_]; rfl)) (S.out.1.at_row (i := 7) (by simp only [Dx, (hon 16 (by kernel_rfl))]; rfl)) (by omega) ?_;intro v1 w1 ho hg hat;have S2_ := S.out.1.row_upd (i := 2) (by simp only [Dx, hb_]; rfl) ho hg hat;have S3_ : (St w0 Z (Dx g v s [.int .i64 a0, .string a1, .string a2, .slice A l.length c] parent gb (Al gb 24 #[.int .i64 a0, .string a1, .string a2, .slice A l.length c] :: X) (up b 17) nn v1 zz kk t9 t16 t22 t28) w1 /\ BS w0 Z w2 w1) := ⟨by have h_ := S2_.1; simp only [Dx, PA, Pu, Pa, NB, GW, up, PH, reduceIte, cond_true, cond_false, hb_, (hon 16 (by kernel_rfl)), (hoff 35 (by kernel_rfl))] at h_ ⊢; exact h_, S.out.2.trans S2_.2⟩;refine hK.out _ _ ⟨nn, v1, zz, kk, t9, t16, t22, t28, (by rw [ha.out]; exact At 6 hb_ rfl rfl rfl), S3_⟩
   refine Am ?_ ?_
   · rintro b a w' ⟨nn, pp, zz, kk, t9, t16, t22, t28, ha, Q_S⟩ hb_ hon hoff;refine ⟨_, rfl, fun K hK => ?_⟩;have e36 : a.tmps[36]? = some (.pointer (some ⟨g, 2, none⟩)) := by rw [ha]; exact (AU rfl).trans rfl
     replace ha := A7.mk ha;have S := A7.mk Q_S;have hc_ : w'.cell? ⟨g, 2, none⟩ = some v.z := (Aa (S.out.1.at_blk (i := 0) rfl) 2).trans (by rw [(hoff 38 (by kernel_rfl))]; rfl);refine Be (w1 := w') (v := v.z) (by rfl) rfl ?_ ?_
     · go_simp
       (try simp only [Ar])
       try rfl
     refine hK.out _ _ ⟨nn, pp, zz, kk, t9, t16, t22, t28, (by rw [ha.out]; exact At 7 hb_ rfl rfl rfl), Q_S⟩
   refine Am ?_ ?_
   · rintro b a w' ⟨nn, pp, zz, kk, t9, t16, t22, t28, ha, Q_S⟩ hb_ hon hoff;refine ⟨_, rfl, fun K hK => ?_⟩;replace ha := A7.mk ha;have S := A7.mk Q_S;refine Be (w1 := w'.alloc (.cells #[.int .i64 0] 3)) (v := .slice (some ⟨w'.heap.size, 0, none⟩) 1 1) (by rfl) rfl ?_ ?_
     · go_simp
       try rfl
     have S2_ := S.out.1.lit (i := 8) (by simp only [Dx, hb_]; rfl) 3 1 1 (by decide) (by decide) [.int .i64 0] rfl;have S3_ : (St w0 Z (Dx g v s [.int .i64 a0, .string a1, .string a2, .slice A l.length c] parent gb (Al gb 24 #[.int .i64 a0, .string a1, .string a2, .slice A l.length c] :: X) (up b 22) nn pp zz kk t9 t16 (.slice (some ⟨w'.heap.size, 0, none⟩) 1 1) t28) (w'.alloc (.cells #[.int .i64 0] 3)) /\ BS w0 Z w2 (w'.alloc (.cells #[.int .i64 0] 3))) := ⟨by have h_ := S2_.1; simp only [Dx, PA, Pu, Pa, NB, GW, up, PH, reduceIte, cond_true, cond_false, hb_, (hoff 23 (by kernel_rfl))] at h_ ⊢; exact h_, S.out.2.trans S2_.2⟩;refine hK.out _ _ ⟨nn, pp, zz, kk, t9, t16, (.slice (some ⟨w'.heap.size, 0, none⟩) 1 1), t28, (by rw [ha.out]; exact At 8 hb_ rfl rfl rfl), S3_⟩
   refine Am ?_ ?_
   · rintro b a w' ⟨nn, pp, zz, kk, t9, t16, t22, t28, ha, Q_S⟩ hb_ hon hoff;refine ⟨_, rfl, fun K hK => ?_⟩;have e37 : a.tmps[37]? = some (v.z) := by rw [ha]; exact Ax (e := (21, 37, v.z)) 7 rfl rfl (hon 21 (by kernel_rfl)) rfl
     have e38 : a.tmps[38]? = some (t22) := by rw [ha]; exact Ax (e := (22, 38, t22)) 8 rfl rfl (hon 22 (by kernel_rfl)) rfl
     replace ha := A7.mk ha;have S := A7.mk Q_S;refine CI (by rfl) (.tmp 37) (.tmp 38) 36 3 (.int .i64 0) 1 8 rfl Try.underlying36 Ca rfl (by decide) (by decide) v.z t22 s.N.length (BB s.Z) [.int .i64 0] (Cx e37) (Cx e38) (by simp [QL]) (S.out.1.at_row (i := 3) (by simp only [Dx, hb_]; rfl)) (S.out.1.at_row (i := 8) (by simp only [Dx, (hon 22 (by kernel_rfl))]; rfl)) (by omega) ?_;intro v1 w1 ho hg hat;have S2_ := S.out.1.row_upd (i := 3) (by simp only [Dx, hb_]; rfl) ho hg hat;have S3_ : (St w0 Z (Dx g v s [.int .i64 a0, .string a1, .string a2, .slice A l.length c] parent gb (Al gb 24 #[.int .i64 a0, .string a1, .string a2, .slice A l.length c] :: X) (up b 23) nn pp v1 kk t9 t16 t22 t28) w1 /\ BS w0 Z w2 w1) := ⟨by have h_ := S2_.1; simp only [Dx, PA, Pu, Pa, NB, GW, up, PH, reduceIte, cond_true, cond_false, hb_, (hon 22 (by kernel_rfl)), (hoff 38 (by kernel_rfl))] at h_ ⊢; exact h_, S.out.2.trans S2_.2⟩;refine hK.out _ _ ⟨nn, pp, v1, kk, t9, t16, t22, t28, (by rw [ha.out]; exact At 9 hb_ rfl rfl rfl), S3_⟩
   refine Am ?_ ?_
   · rintro b a w' ⟨nn, pp, zz, kk, t9, t16, t22, t28, ha, Q_S⟩ hb_ hon hoff;refine ⟨_, rfl, fun K hK => ?_⟩;have e42 : a.tmps[42]? = some (.pointer (some ⟨g, 3, none⟩)) := by rw [ha]; exact (AU rfl).trans rfl
     replace ha := A7.mk ha;have S := A7.mk Q_S;have hc_ : w'.cell? ⟨g, 3, none⟩ = some v.k := (Aa (S.out.1.at_blk (i := 0) rfl) 3).trans (by rw [(hoff 41 (by kernel_rfl))]; rfl);refine Be (w1 := w') (v := v.k) (by rfl) rfl ?_ ?_
     · go_simp
       (try simp only [Ar])
       try rfl
     refine hK.out _ _ ⟨nn, pp, zz, kk, t9, t16, t22, t28, (by rw [ha.out]; exact At 10 hb_ rfl rfl rfl), Q_S⟩
   refine Am ?_ ?_
   · rintro b a w' ⟨nn, pp, zz, kk, t9, t16, t22, t28, ha, Q_S⟩ hb_ hon hoff;refine ⟨_, rfl, fun K hK => ?_⟩;replace ha := A7.mk ha;have S := A7.mk Q_S;refine Be (w1 := w'.alloc (.cells #[.slice none 0 0] 36)) (v := .slice (some ⟨w'.heap.size, 0, none⟩) 1 1) (by rfl) rfl ?_ ?_
     · go_simp
       try rfl
     have S2_ := S.out.1.lit (i := 9) (by simp only [Dx, hb_]; rfl) 36 1 1 (by decide) (by decide) [.slice none 0 0] rfl;have S3_ : (St w0 Z (Dx g v s [.int .i64 a0, .string a1, .string a2, .slice A l.length c] parent gb (Al gb 24 #[.int .i64 a0, .string a1, .string a2, .slice A l.length c] :: X) (up b 28) nn pp zz kk t9 t16 t22 (.slice (some ⟨w'.heap.size, 0, none⟩) 1 1)) (w'.alloc (.cells #[.slice none 0 0] 36)) /\ BS w0 Z w2 (w'.alloc (.cells #[.slice none 0 0] 36))) := ⟨by have h_ := S2_.1; simp only [Dx, PA, Pu, Pa, NB, GW, up, PH, reduceIte, cond_true, cond_false, hb_, (hoff 29 (by kernel_rfl))] at h_ ⊢; exact h_, S.out.2.trans S2_.2⟩;refine hK.out _ _ ⟨nn, pp, zz, kk, t9, t16, t22, (.slice (some ⟨w'.heap.size, 0, none⟩) 1 1), (by rw [ha.out]; exact At 11 hb_ rfl rfl rfl), S3_⟩
   refine Am ?_ ?_
   · rintro b a w' ⟨nn, pp, zz, kk, t9, t16, t22, t28, ha, Q_S⟩ hb_ hon hoff;refine ⟨_, rfl, fun K hK => ?_⟩;have e43 : a.tmps[43]? = some (v.k) := by rw [ha]; exact Ax (e := (27, 43, v.k)) 10 rfl rfl (hon 27 (by kernel_rfl)) rfl
     have e44 : a.tmps[44]? = some (t28) := by rw [ha]; exact Ax (e := (28, 44, t28)) 11 rfl rfl (hon 28 (by kernel_rfl)) rfl
     replace ha := A7.mk ha;have S := A7.mk Q_S;refine CI (by rfl) (.tmp 43) (.tmp 44) 37 36 (.slice none 0 0) 1 24 rfl Try.underlying37 Ma rfl (by decide) (by decide) v.k t28 s.N.length (v.us) [.slice none 0 0] (Cx e43) (Cx e44) (by simp [QL]) (S.out.1.at_row (i := 4) (by simp only [Dx, hb_]; rfl)) (S.out.1.at_row (i := 9) (by simp only [Dx, (hon 28 (by kernel_rfl))]; rfl)) (by omega) ?_;intro v1 w1 ho hg hat;have S2_ := S.out.1.row_upd (i := 4) (by simp only [Dx, hb_]; rfl) ho hg hat;have S3_ : (St w0 Z (Dx g v s [.int .i64 a0, .string a1, .string a2, .slice A l.length c] parent gb (Al gb 24 #[.int .i64 a0, .string a1, .string a2, .slice A l.length c] :: X) (up b 29) nn pp zz v1 t9 t16 t22 t28) w1 /\ BS w0 Z w2 w1) := ⟨by have h_ := S2_.1; simp only [Dx, PA, Pu, Pa, NB, GW, up, PH, reduceIte, cond_true, cond_false, hb_, (hon 28 (by kernel_rfl)), (hoff 41 (by kernel_rfl))] at h_ ⊢; exact h_, S.out.2.trans S2_.2⟩;refine hK.out _ _ ⟨nn, pp, zz, v1, t9, t16, t22, t28, (by rw [ha.out]; exact At 12 hb_ rfl rfl rfl), S3_⟩
   refine Am ?_ ?_
   · rintro b a w' ⟨nn, pp, zz, kk, t9, t16, t22, t28, ha, Q_S⟩ hb_ hon hoff;refine ⟨_, rfl, fun K hK => ?_⟩;have e16 : a.tmps[16]? = some (.pointer (some ⟨g, 0, none⟩)) := by rw [ha]; exact (AU rfl).trans rfl
     replace ha := A7.mk ha;have S := A7.mk Q_S;refine Be (w1 := w') (v := .pointer (some ⟨g, 0, none⟩)) (by rfl) rfl ?_ ?_
     · go_simp
       (try simp only [Ar])
       try rfl
     refine hK.out _ _ ⟨nn, pp, zz, kk, t9, t16, t22, t28, (by rw [ha.out]; exact At 13 hb_ rfl rfl rfl), Q_S⟩
   refine Am ?_ ?_
   · rintro b a w' ⟨nn, pp, zz, kk, t9, t16, t22, t28, ha, Q_S⟩ hb_ hon hoff;refine ⟨_, rfl, fun K hK => ?_⟩;have e46 : a.tmps[46]? = some (.pointer (some ⟨g, 0, none⟩)) := by rw [ha]; exact Ax (e := (30, 46, .pointer (some ⟨g, 0, none⟩))) 13 rfl rfl (hon 30 (by kernel_rfl)) rfl
     replace ha := A7.mk ha;have S := A7.mk Q_S;refine Be (w1 := w') (v := .pointer (some ⟨g, 0, none⟩)) (by rfl) rfl ?_ ?_
     · go_simp
       (try simp only [Ar])
       try rfl
     refine hK.out _ _ ⟨nn, pp, zz, kk, t9, t16, t22, t28, (by rw [ha.out]; exact At 14 hb_ rfl rfl rfl), Q_S⟩
   refine Am ?_ ?_
   · rintro b a w' ⟨nn, pp, zz, kk, t9, t16, t22, t28, ha, Q_S⟩ hb_ hon hoff;refine ⟨_, rfl, fun K hK => ?_⟩;have e47 : a.tmps[47]? = some (.pointer (some ⟨g, 0, none⟩)) := by rw [ha]; exact Ax (e := (31, 47, .pointer (some ⟨g, 0, none⟩))) 14 rfl rfl (hon 31 (by kernel_rfl)) rfl
     have e26 : a.tmps[26]? = some (nn) := by rw [ha]; exact Ax (e := (10, 26, nn)) 3 rfl rfl (hon 10 (by kernel_rfl)) rfl
     replace ha := A7.mk ha;have S := A7.mk Q_S;have hb0_ := S.out.1.at_blk (i := 0) rfl;have hc_ : w'.cell? ⟨g, 0, none⟩ = some v.n := (Aa hb0_ 0).trans (by rw [hb_]; rfl);have hf_ := Ad hb0_ 0;obtain ⟨A_, c_, en_⟩ := BF (S.out.1.at_row (i := 1) (by simp only [Dx, (hon 10 (by kernel_rfl))]; rfl));refine DG (w1 := w'.setCell ⟨g, 0, none⟩ nn) (by rfl) rfl ?_ ?_
     · rw [en_] at e26 ⊢;go_simp
       try rfl
     have S2_ := S.out.1.set (i := 0) rfl 0 nn;have S3_ : (St w0 Z (Dx g v s [.int .i64 a0, .string a1, .string a2, .slice A l.length c] parent gb (Al gb 24 #[.int .i64 a0, .string a1, .string a2, .slice A l.length c] :: X) (up b 32) nn pp zz kk t9 t16 t22 t28) (w'.setCell ⟨g, 0, none⟩ nn) /\ BS w0 Z w2 (w'.setCell ⟨g, 0, none⟩ nn)) := ⟨by have h_ := S2_.1; simp only [Dx, PA, Pu, Pa, NB, GW, up, PH, reduceIte, cond_true, cond_false, hb_, (hon 10 (by kernel_rfl))] at h_ ⊢; exact h_, S.out.2.trans S2_.2⟩;refine hK.out _ _ ⟨nn, pp, zz, kk, t9, t16, t22, t28, (by rw [ha.out]; exact BX (v := Pc) rfl), S3_⟩
   refine Am ?_ ?_
   · rintro b a w' ⟨nn, pp, zz, kk, t9, t16, t22, t28, ha, Q_S⟩ hb_ hon hoff;refine ⟨_, rfl, fun K hK => ?_⟩;have e17 : a.tmps[17]? = some (.pointer (some ⟨g, 0, none⟩)) := by rw [ha]; exact (AU rfl).trans rfl
     replace ha := A7.mk ha;have S := A7.mk Q_S;refine Be (w1 := w') (v := .pointer (some ⟨g, 0, none⟩)) (by rfl) rfl ?_ ?_
     · go_simp
       (try simp only [Ar])
       try rfl
     refine hK.out _ _ ⟨nn, pp, zz, kk, t9, t16, t22, t28, (by rw [ha.out]; exact At 15 hb_ rfl rfl rfl), Q_S⟩
   refine Am ?_ ?_
   · rintro b a w' ⟨nn, pp, zz, kk, t9, t16, t22, t28, ha, Q_S⟩ hb_ hon hoff;refine ⟨_, rfl, fun K hK => ?_⟩;have e48 : a.tmps[48]? = some (.pointer (some ⟨g, 0, none⟩)) := by rw [ha]; exact Ax (e := (33, 48, .pointer (some ⟨g, 0, none⟩))) 15 rfl rfl (hon 33 (by kernel_rfl)) rfl
     replace ha := A7.mk ha;have S := A7.mk Q_S;refine Be (w1 := w') (v := .pointer (some ⟨g, 1, none⟩)) (by rfl) rfl ?_ ?_
     · go_simp
       (try simp only [Ar])
       try rfl
     refine hK.out _ _ ⟨nn, pp, zz, kk, t9, t16, t22, t28, (by rw [ha.out]; exact At 16 hb_ rfl rfl rfl), Q_S⟩
   refine Am ?_ ?_
   · rintro b a w' ⟨nn, pp, zz, kk, t9, t16, t22, t28, ha, Q_S⟩ hb_ hon hoff;refine ⟨_, rfl, fun K hK => ?_⟩;have e49 : a.tmps[49]? = some (.pointer (some ⟨g, 1, none⟩)) := by rw [ha]; exact Ax (e := (34, 49, .pointer (some ⟨g, 1, none⟩))) 16 rfl rfl (hon 34 (by kernel_rfl)) rfl
     have e33 : a.tmps[33]? = some (pp) := by rw [ha]; exact Ax (e := (17, 33, pp)) 6 rfl rfl (hon 17 (by kernel_rfl)) rfl
     replace ha := A7.mk ha;have S := A7.mk Q_S;have hb0_ := S.out.1.at_blk (i := 0) rfl;have hc_ : w'.cell? ⟨g, 1, none⟩ = some v.p := (Aa hb0_ 1).trans (by rw [hb_]; rfl);have hf_ := Ad hb0_ 1;obtain ⟨A_, c_, en_⟩ := BF (S.out.1.at_row (i := 2) (by simp only [Dx, (hon 17 (by kernel_rfl))]; rfl));refine DG (w1 := w'.setCell ⟨g, 1, none⟩ pp) (by rfl) rfl ?_ ?_
     · rw [en_] at e33 ⊢;go_simp
       try rfl
     have S2_ := S.out.1.set (i := 0) rfl 1 pp;have S3_ : (St w0 Z (Dx g v s [.int .i64 a0, .string a1, .string a2, .slice A l.length c] parent gb (Al gb 24 #[.int .i64 a0, .string a1, .string a2, .slice A l.length c] :: X) (up b 35) nn pp zz kk t9 t16 t22 t28) (w'.setCell ⟨g, 1, none⟩ pp) /\ BS w0 Z w2 (w'.setCell ⟨g, 1, none⟩ pp)) := ⟨by have h_ := S2_.1; simp only [Dx, PA, Pu, Pa, NB, GW, up, PH, reduceIte, cond_true, cond_false, hb_, (hon 17 (by kernel_rfl))] at h_ ⊢; exact h_, S.out.2.trans S2_.2⟩;refine hK.out _ _ ⟨nn, pp, zz, kk, t9, t16, t22, t28, (by rw [ha.out]; exact BX (v := Pc) rfl), S3_⟩
   refine Am ?_ ?_
   · rintro b a w' ⟨nn, pp, zz, kk, t9, t16, t22, t28, ha, Q_S⟩ hb_ hon hoff;refine ⟨_, rfl, fun K hK => ?_⟩;have e18 : a.tmps[18]? = some (.pointer (some ⟨g, 0, none⟩)) := by rw [ha]; exact (AU rfl).trans rfl
     replace ha := A7.mk ha;have S := A7.mk Q_S;refine Be (w1 := w') (v := .pointer (some ⟨g, 0, none⟩)) (by rfl) rfl ?_ ?_
     · go_simp
       (try simp only [Ar])
       try rfl
     refine hK.out _ _ ⟨nn, pp, zz, kk, t9, t16, t22, t28, (by rw [ha.out]; exact At 17 hb_ rfl rfl rfl), Q_S⟩
   refine Am ?_ ?_
   · rintro b a w' ⟨nn, pp, zz, kk, t9, t16, t22, t28, ha, Q_S⟩ hb_ hon hoff;refine ⟨_, rfl, fun K hK => ?_⟩;have e50 : a.tmps[50]? = some (.pointer (some ⟨g, 0, none⟩)) := by rw [ha]; exact Ax (e := (36, 50, .pointer (some ⟨g, 0, none⟩))) 17 rfl rfl (hon 36 (by kernel_rfl)) rfl
     replace ha := A7.mk ha;have S := A7.mk Q_S;refine Be (w1 := w') (v := .pointer (some ⟨g, 2, none⟩)) (by rfl) rfl ?_ ?_
     · go_simp
       (try simp only [Ar])
       try rfl
     refine hK.out _ _ ⟨nn, pp, zz, kk, t9, t16, t22, t28, (by rw [ha.out]; exact At 18 hb_ rfl rfl rfl), Q_S⟩
   refine Am ?_ ?_
   · rintro b a w' ⟨nn, pp, zz, kk, t9, t16, t22, t28, ha, Q_S⟩ hb_ hon hoff;refine ⟨_, rfl, fun K hK => ?_⟩;have e51 : a.tmps[51]? = some (.pointer (some ⟨g, 2, none⟩)) := by rw [ha]; exact Ax (e := (37, 51, .pointer (some ⟨g, 2, none⟩))) 18 rfl rfl (hon 37 (by kernel_rfl)) rfl
     have e39 : a.tmps[39]? = some (zz) := by rw [ha]; exact Ax (e := (23, 39, zz)) 9 rfl rfl (hon 23 (by kernel_rfl)) rfl
     replace ha := A7.mk ha;have S := A7.mk Q_S;have hb0_ := S.out.1.at_blk (i := 0) rfl;have hc_ : w'.cell? ⟨g, 2, none⟩ = some v.z := (Aa hb0_ 2).trans (by rw [hb_]; rfl);have hf_ := Ad hb0_ 2;obtain ⟨A_, c_, en_⟩ := BF (S.out.1.at_row (i := 3) (by simp only [Dx, (hon 23 (by kernel_rfl))]; rfl));refine DG (w1 := w'.setCell ⟨g, 2, none⟩ zz) (by rfl) rfl ?_ ?_
     · rw [en_] at e39 ⊢;go_simp
       try rfl
     have S2_ := S.out.1.set (i := 0) rfl 2 zz;have S3_ : (St w0 Z (Dx g v s [.int .i64 a0, .string a1, .string a2, .slice A l.length c] parent gb (Al gb 24 #[.int .i64 a0, .string a1, .string a2, .slice A l.length c] :: X) (up b 38) nn pp zz kk t9 t16 t22 t28) (w'.setCell ⟨g, 2, none⟩ zz) /\ BS w0 Z w2 (w'.setCell ⟨g, 2, none⟩ zz)) := ⟨by have h_ := S2_.1; simp only [Dx, PA, Pu, Pa, NB, GW, up, PH, reduceIte, cond_true, cond_false, hb_, (hon 23 (by kernel_rfl))] at h_ ⊢; exact h_, S.out.2.trans S2_.2⟩;refine hK.out _ _ ⟨nn, pp, zz, kk, t9, t16, t22, t28, (by rw [ha.out]; exact BX (v := Pc) rfl), S3_⟩
   refine Am ?_ ?_
   · rintro b a w' ⟨nn, pp, zz, kk, t9, t16, t22, t28, ha, Q_S⟩ hb_ hon hoff;refine ⟨_, rfl, fun K hK => ?_⟩;have e19 : a.tmps[19]? = some (.pointer (some ⟨g, 0, none⟩)) := by rw [ha]; exact (AU rfl).trans rfl
     replace ha := A7.mk ha;have S := A7.mk Q_S;refine Be (w1 := w') (v := .pointer (some ⟨g, 0, none⟩)) (by rfl) rfl ?_ ?_
     · go_simp
       (try simp only [Ar])
       try rfl
     refine hK.out _ _ ⟨nn, pp, zz, kk, t9, t16, t22, t28, (by rw [ha.out]; exact At 19 hb_ rfl rfl rfl), Q_S⟩
   refine Am ?_ ?_
   · rintro b a w' ⟨nn, pp, zz, kk, t9, t16, t22, t28, ha, Q_S⟩ hb_ hon hoff;refine ⟨_, rfl, fun K hK => ?_⟩;have e52 : a.tmps[52]? = some (.pointer (some ⟨g, 0, none⟩)) := by rw [ha]; exact Ax (e := (39, 52, .pointer (some ⟨g, 0, none⟩))) 19 rfl rfl (hon 39 (by kernel_rfl)) rfl
     replace ha := A7.mk ha;have S := A7.mk Q_S;refine Be (w1 := w') (v := .pointer (some ⟨g, 3, none⟩)) (by rfl) rfl ?_ ?_
     · go_simp
       (try simp only [Ar])
       try rfl
     refine hK.out _ _ ⟨nn, pp, zz, kk, t9, t16, t22, t28, (by rw [ha.out]; exact At 20 hb_ rfl rfl rfl), Q_S⟩
   refine Am ?_ ?_
   · rintro b a w' ⟨nn, pp, zz, kk, t9, t16, t22, t28, ha, Q_S⟩ hb_ hon hoff;refine ⟨_, rfl, fun K hK => ?_⟩;have e53 : a.tmps[53]? = some (.pointer (some ⟨g, 3, none⟩)) := by rw [ha]; exact Ax (e := (40, 53, .pointer (some ⟨g, 3, none⟩))) 20 rfl rfl (hon 40 (by kernel_rfl)) rfl
     have e45 : a.tmps[45]? = some (kk) := by rw [ha]; exact Ax (e := (29, 45, kk)) 12 rfl rfl (hon 29 (by kernel_rfl)) rfl
     replace ha := A7.mk ha;have S := A7.mk Q_S;have hb0_ := S.out.1.at_blk (i := 0) rfl;have hc_ : w'.cell? ⟨g, 3, none⟩ = some v.k := (Aa hb0_ 3).trans (by rw [hb_]; rfl);have hf_ := Ad hb0_ 3;obtain ⟨A_, c_, en_⟩ := BF (S.out.1.at_row (i := 4) (by simp only [Dx, (hon 29 (by kernel_rfl))]; rfl));refine DG (w1 := w'.setCell ⟨g, 3, none⟩ kk) (by rfl) rfl ?_ ?_
     · rw [en_] at e45 ⊢;go_simp
       try rfl
     have S2_ := S.out.1.set (i := 0) rfl 3 kk;have S3_ : (St w0 Z (Dx g v s [.int .i64 a0, .string a1, .string a2, .slice A l.length c] parent gb (Al gb 24 #[.int .i64 a0, .string a1, .string a2, .slice A l.length c] :: X) (up b 41) nn pp zz kk t9 t16 t22 t28) (w'.setCell ⟨g, 3, none⟩ kk) /\ BS w0 Z w2 (w'.setCell ⟨g, 3, none⟩ kk)) := ⟨by have h_ := S2_.1; simp only [Dx, PA, Pu, Pa, NB, GW, up, PH, reduceIte, cond_true, cond_false, hb_, (hon 29 (by kernel_rfl))] at h_ ⊢; exact h_, S.out.2.trans S2_.2⟩;refine hK.out _ _ ⟨nn, pp, zz, kk, t9, t16, t22, t28, (by rw [ha.out]; exact BX (v := Pc) rfl), S3_⟩
   exact CB
 · rintro b a w' hall ⟨nn, pp, zz, kk, t9, t16, t22, t28, ha, Q_S⟩;clear S;have hb7_ := hall 7 (by kernel_rfl);have hb8_ := hall 8 (by kernel_rfl);have hb9_ := hall 9 (by kernel_rfl);have hb10_ := hall 10 (by kernel_rfl);have hb14_ := hall 14 (by kernel_rfl);have hb16_ := hall 16 (by kernel_rfl);have hb17_ := hall 17 (by kernel_rfl);have hb21_ := hall 21 (by kernel_rfl);have hb22_ := hall 22 (by kernel_rfl);have hb23_ := hall 23 (by kernel_rfl);have hb27_ := hall 27 (by kernel_rfl);have hb28_ := hall 28 (by kernel_rfl);have hb29_ := hall 29 (by kernel_rfl);have hb30_ := hall 30 (by kernel_rfl);have hb31_ := hall 31 (by kernel_rfl);have hb32_ := hall 32 (by kernel_rfl);have hb33_ := hall 33 (by kernel_rfl);have hb34_ := hall 34 (by kernel_rfl);have hb35_ := hall 35 (by kernel_rfl);have hb36_ := hall 36 (by kernel_rfl);have hb37_ := hall 37 (by kernel_rfl);have hb38_ := hall 38 (by kernel_rfl);have hb39_ := hall 39 (by kernel_rfl);have hb40_ := hall 40 (by kernel_rfl);have hb41_ := hall 41 (by kernel_rfl);subst ha;simp only [Bm, hb7_, hb8_, hb9_, hb10_, hb14_, hb16_, hb17_, hb21_, hb22_, hb23_, hb27_, hb28_, hb29_, hb30_, hb31_, hb32_, hb33_, hb34_, hb35_, hb36_, hb37_, hb38_, hb39_, hb40_, hb41_, if_true, Ph, GW, Pa, NB];have S := A7.mk Q_S;clear Q_S;have S2_ := S.out; simp only [Dx, cond_true, hb10_, hb17_, hb23_, hb29_, hb9_, hb16_, hb22_, hb28_, hb32_, hb35_, hb38_, hb41_] at S2_;clear hall hb7_ hb8_ hb9_ hb10_ hb14_ hb16_ hb17_ hb21_ hb22_ hb23_ hb27_ hb28_ hb29_ hb30_ hb31_ hb32_ hb33_ hb34_ hb35_ hb36_ hb37_ hb38_ hb39_ hb40_ hb41_;have HFx := sm2.f (hsA.f HF hΦ) hΦ;have HFy := S2_.2.f HFx hΦ;have HP3 := HP2.snoc S2_.2 (Ki _ _ ⟨a0, a1, a2, l⟩ hc HFy) S2_.1;have sm3 := (hsA.trans sm2).trans S2_.2;clear S S2_ HP1 HP2 hcz0 hcz1 HFx st2;have hcz : w'.cell? ⟨gb, 3, none⟩ = some (.slice A l.length c) := (Aa (HP3.st.at_blk (i := 6) rfl) 3).trans rfl;generalize hs1 : (⟨s.N ++ [⟨a0, a1, a2, l⟩], s.P ++ [parent], s.Z ++ [0], s.K ++ [[]]⟩ : PS) = s1 at HP3;have hs1n : s1.N.length = s.N.length + 1 := by rw [<- hs1]; simp
   have hadd : C1 ⟨a0, a1, a2, l⟩ parent s = { C8 l s.N.length s1 with Z := (C8 l s.N.length s1).Z.set s.N.length (((C8 l s.N.length s1).N.length : Int) - s.N.length) } := by rw [<- hs1]; rfl
   have hlx : s.N.length + 1 + BE l <= 1000000 := by simp only [BT] at hlen; omega
   have hsx : Db s1.K + BE l <= 1000000 := by rw [<- hs1]; simp only [BT, Db, Qs, List.sum_append, Py, PZ, Qu, List.sum_cons, List.sum_nil] at hsum ⊢; omega
   have hxl : BE l <= m := by simp only [BT] at hx; omega
   generalize hat : s.N.length = at_ at *
   go_wp2
   go_loopg [57] l.length (fun kq v57 w'' => ∃ (jj : Int) (j : Nat) (v' : PV) (s' : PS), v57 = .int .i64 jj /\ A7 (jj = (j : Int)) /\ j <= l.length /\ kq = l.length - j /\ Pl w0 Z Φ g v' s' (Al gb 24 #[.int .i64 a0, .string a1, .string a2, .slice A l.length c] :: X) w'' /\ BS w0 Z w w'' /\ C8 (l.drop j) at_ s' = C8 l at_ s1 /\ at_ < s'.N.length /\ s'.N.length + BE (l.drop j) <= 1000000 /\ Db s'.K + BE (l.drop j) <= 1000000 /\ List.IsPrefix (v.cn ++ [.int .i64 a0, .string a1, .string a2, .slice A l.length c]) v'.cn)
   case atStart => exact ⟨0, 0, _, s1, rfl, ⟨rfl⟩, Nat.zero_le _, rfl, HP3, sm3, rfl, by omega, by rw [SU]; omega, by rw [SU]; omega, List.prefix_refl _⟩
   case round =>
    obtain ⟨jj, j, v1, s2, rfl, hjj, hj, hgk, HP, hsm, hL, hat1, hb, hb2, hpx⟩ := hrel;clear hcz HP3;by_cases hjl : jj < (l.length : Int)
    · have hjb := decide_eq_true hjl;have p0 : 0 <= jj := by have := hjj.out; omega
      have hjn : j < l.length := by have := hjj.out; omega
      have HFw := hsm.f HF hΦ;obtain ⟨ad, cs, eA, hcl, hFK, hcc, _⟩ := Kd.F_get HFw D0 jj p0 hjl;subst eA;obtain ⟨kx, hkx⟩ : ∃ kx, kx = l.getD jj.toNat D0 := ⟨_, rfl⟩;rw [<- hkx] at hFK;have hkl : l[j]? = some kx := by rw [hkx, hjj.out]; simp [Pt, Pg hjn]
      obtain ⟨A3, c3, rfl, hl3, hF3⟩ := CP hFK;have hx0 : wr.cell? (ad.add (jj.toNat * 4)) = some (.int .i64 kx.f0 : Pd) := hcc 0 _ rfl;have hx1 : wr.cell? ⟨(ad.add (jj.toNat * 4)).block, (ad.add (jj.toNat * 4)).off + 1, none⟩ = some (.string kx.f1 : Pd) := by rw [<- Bh _ _ 1 (by omega)]; exact hcc 1 _ rfl
      have hx2 : wr.cell? ⟨(ad.add (jj.toNat * 4)).block, (ad.add (jj.toNat * 4)).off + 2, none⟩ = some (.string kx.f2 : Pd) := by rw [<- Bh _ _ 2 (by omega)]; exact hcc 2 _ rfl
      have hx3 : wr.cell? ⟨(ad.add (jj.toNat * 4)).block, (ad.add (jj.toNat * 4)).off + 3, none⟩ = some (.slice A3 kx.f3.length c3 : Pd) := by rw [<- Bh _ _ 3 (by omega)]; exact hcc 3 _ rfl
      have hnz : BT kx + BE (l.drop (j + 1)) = BE (l.drop j) := (Gt hkl).symm;have hnm : BT kx <= m := by have := FH l j; omega
      have hLk : C8 (l.drop j) at_ s2 = C8 (l.drop (j + 1)) at_ { (C1 kx at_ s2) with K := (C1 kx at_ s2).K.set at_ ((C1 kx at_ s2).K.getD at_ [] ++ [(s2.N.length : Int)]) } := by rw [List.drop_eq_getElem_cons hjn, show l[j] = kx from by simpa [Pg hjn] using hkl]; rfl
      replace p0 := eq_true p0;replace hjl := eq_true hjl;clear hcc hcl hFK HFw hkx
      go_wp2_with (first | ((with_reducible refine AE (N := 9) rfl ?_); refine Aw ?hg (N := 9) ?hd (cs := #[.int .i64 0, .string (⟨#[]⟩ : ByteArray), .string (⟨#[]⟩ : ByteArray), .slice none 0 0]) (t := 24) ?hr ?_; (case hd => rfl); (case hg => rfl); (case hr => first | (go_simp; done) | (go_simp; rfl)); intro gk hgk2 w5 hbox hb5; have q1_ := HP.st.more hb5 (a := Al gk 24 #[.int .i64 0, .string (⟨#[]⟩ : ByteArray), .string (⟨#[]⟩ : ByteArray), .slice none 0 0]) (f := fun k => k = gk) ⟨fun _ => Iff.rfl, hbox⟩ (fun k hk => by omega); have HP5 := HP.same (X' := Al gk 24 #[.int .i64 0, .string (⟨#[]⟩ : ByteArray), .string (⟨#[]⟩ : ByteArray), .slice none 0 0] :: (Al gb 24 #[.int .i64 a0, .string a1, .string a2, .slice (some ad) l.length c] :: X)) (q1_.1.perm List.perm_middle.symm) q1_.2; have sm5 := q1_.2; clear q1_ HP hb5 hbox hgk2; have hk0 : w5.cell? ⟨gk, 0, none⟩ = some (.int .i64 0 : Pd) := (Aa (HP5.st.at_blk (i := 6) rfl) 0).trans rfl; have hk1 : w5.cell? ⟨gk, 1, none⟩ = some (.string (⟨#[]⟩ : ByteArray) : Pd) := (Aa (HP5.st.at_blk (i := 6) rfl) 1).trans rfl; have hk2 : w5.cell? ⟨gk, 2, none⟩ = some (.string (⟨#[]⟩ : ByteArray) : Pd) := (Aa (HP5.st.at_blk (i := 6) rfl) 2).trans rfl; have hk3 : w5.cell? ⟨gk, 3, none⟩ = some (.slice none 0 0 : Pd) := (Aa (HP5.st.at_blk (i := 6) rfl) 3).trans rfl; have hf0 := Ad (HP5.st.at_blk (i := 6) rfl) 0; have hf1 := Ad (HP5.st.at_blk (i := 6) rfl) 1; have hf2 := Ad (HP5.st.at_blk (i := 6) rfl) 2; have hf3 := Ad (HP5.st.at_blk (i := 6) rfl) 3) | ((with_reducible refine Bs (f := 40) rfl ?_); refine Cv (some 64) rfl rfl Try.func40 (by kernel_rfl) rfl #[.pointer (some ⟨g, 0, none⟩), .agg #[.int .i64 kx.f0, .string kx.f1, .string kx.f2, .slice A3 kx.f3.length c3], .int .i64 at_] rfl (by (try simp only [List.map_toArray, Py, PZ]); first | done | rfl) ?_; have t0_ := HP5.st.set (i := 6) rfl 0 (.int .i64 kx.f0 : Pd); have t1_ := t0_.1.set (i := 6) rfl 1 (.string kx.f1 : Pd); have t2_ := t1_.1.set (i := 6) rfl 2 (.string kx.f2 : Pd); have t3_ := t2_.1.set (i := 6) rfl 3 (.slice A3 kx.f3.length c3 : Pd); have sm6 := sm5.trans (t0_.2.trans (t1_.2.trans (t2_.2.trans t3_.2))); have HP6 := HP5.same (X' := Al gk 24 #[.int .i64 kx.f0, .string kx.f1, .string kx.f2, .slice A3 kx.f3.length c3] :: (Al gb 24 #[.int .i64 a0, .string a1, .string a2, .slice (some ad) l.length c] :: X)) t3_.1 (t0_.2.trans (t1_.2.trans (t2_.2.trans t3_.2))); refine (ih kx hnm w0 Z Φ g v1 s2 (Al gk 24 #[.int .i64 kx.f0, .string kx.f1, .string kx.f2, .slice A3 kx.f3.length c3] :: (Al gb 24 #[.int .i64 a0, .string a1, .string a2, .slice (some ad) l.length c] :: X)) at_ A3 c3 _ HP6 (sm6.f hF3 hΦ) hl3 (by omega) (by omega)).mono ?_; rintro e w20 ⟨rfl, ⟨v3, HP20, hpy⟩, sm20⟩; refine ⟨_, rfl, ?_⟩; have sm21 := sm6.trans sm20; clear t0_ t1_ t2_ t3_ HP5 HP6 sm5 sm6 sm20 hk0 hk1 hk2 hk3 hf0 hf1 hf2 hf3 hx0 hx1 hx2 hx3))
      have hn3 := CT kx at_ s2
      have hq3 := Gw kx at_ s2
      generalize hs3 : C1 kx (at_ : Int) s2 = s3 at HP20 hLk hn3 hq3;obtain ⟨n3, p3, z3, k3, cn3, us3⟩ := v3;have hu3 : us3.length = s3.N.length := HP20.u;have hk3 := HP20.k;have ha3 : at_ < s3.N.length := by omega
      obtain ⟨gK, cK, eK, _⟩ := EI (HP20.st.at_row (i := 4) rfl) ha3 Pc;have eK2 : k3 = .slice (some ⟨gK, 0, none⟩) s3.N.length cK := eK;clear eK;subst eK2;obtain ⟨ui, hui⟩ : ∃ ui, us3[at_]? = some ui := ⟨_, Pg (by omega)⟩;obtain ⟨kl, hkl3⟩ : ∃ kl, s3.K[at_]? = some kl := ⟨_, Pg (by omega)⟩;have hgd : s3.K.getD at_ [] = kl := by simp [Pt, hkl3]
      have hin := En hui hkl3;have hll := Gv hkl3;obtain ⟨st7, sm7⟩ := HP20.st.keep (AD (Pn w20.heap.size w20));have HP7 := HP20.same st7 sm7;have S : (St w0 Z (IW g n3 p3 z3 (.slice (some ⟨gK, 0, none⟩) s3.N.length cK) cn3 us3 s3 at_ s2.N.length kl (Al gk 24 #[.int .i64 kx.f0, .string kx.f1, .string kx.f2, .slice A3 kx.f3.length c3] :: (Al gb 24 #[.int .i64 a0, .string a1, .string a2, .slice (some ad) l.length c] :: X)) (fun _ => BK) (.bool BK) (.bool BK)) w20.drew /\ BS w0 Z w20.drew w20.drew) := ⟨st7.emp_new.perm ((Q8 (l₁ := [IN]) (l₂ := Eo g ⟨n3, p3, z3, (.slice (some ⟨gK, 0, none⟩) s3.N.length cK), cn3, us3⟩ s3)).append_right (Al gk 24 #[.int .i64 kx.f0, .string kx.f1, .string kx.f2, .slice A3 kx.f3.length c3] :: (Al gb 24 #[.int .i64 a0, .string a1, .string a2, .slice (some ad) l.length c] :: X))), BS.refl _ _ _⟩;replace hn3 := A7.mk hn3;replace hq3 := A7.mk hq3;have ha0 : (0 : Int) <= (at_ : Int) := by omega
      have ha1 : (at_ : Int) < (s3.N.length : Int) := by have := ha3; omega
      replace ha0 := eq_true ha0;replace ha1 := eq_true ha1;refine Cu (n := 17) (S := fun w' => True) (ds := []) #[BK, BK, BK, BK, BK, BK, BK, BK, BK, BK, BK, BK, BK, BK, BK, BK, BK] (by kernel_rfl) rfl rfl trivial (fun hHeld => ?_);refine BQ add.tab7 add.bits7 (fun HT_ HW_ => ?_);generalize w20.drew = w7 at S hHeld HP7 sm7 ⊢;refine AM (i := 0) (N := some 65) (v := ?_) (a' := ?_) #[true, BK, BK, BK, BK, BK, BK, BK, BK, BK, BK, BK, BK, BK, BK, BK, BK] rfl rfl (AA HT_.out (by kernel_rfl)) (fun _ _ _ h => h) (PD ⟨by rfl, ?_⟩) ?_ ?_;rotate_left
      · intro w';go_simp
        with_reducible rfl
      rotate_left
      · simp only [Ph, GW, Pa, NB, Ar, AB];rfl
      refine AM (i := 1) (N := some 66) (v := ?_) (a' := ?_) #[true, true, BK, BK, BK, BK, BK, BK, BK, BK, BK, BK, BK, BK, BK, BK, BK] rfl rfl (AA HT_.out (by kernel_rfl)) (fun _ _ _ h => h) (PD ⟨by rfl, ?_⟩) ?_ ?_;rotate_left
      · intro w';go_simp
        with_reducible rfl
      rotate_left
      · simp only [Ph, GW, Pa, NB, Ar, AB];rfl
      refine AM (i := 2) (N := some 67) (v := ?_) (a' := ?_) #[true, true, true, BK, BK, BK, BK, BK, BK, BK, BK, BK, BK, BK, BK, BK, BK] rfl rfl (AA HT_.out (by kernel_rfl)) (fun _ _ _ h => h) (PD ⟨by rfl, ?_⟩) ?_ ?_;rotate_left
      · intro w';go_simp
        with_reducible rfl
      rotate_left
      · simp only [Ph, GW, Pa, NB, Ar, AB];rfl
      refine AM (i := 4) (N := some 69) (v := ?_) (a' := ?_) #[true, true, true, BK, true, BK, BK, BK, BK, BK, BK, BK, BK, BK, BK, BK, BK] rfl rfl (AA HT_.out (by kernel_rfl)) (fun _ _ _ h => h) (PD ⟨by rfl, ?_⟩) ?_ ?_;rotate_left
      · intro w';go_simp
        with_reducible rfl
      rotate_left
      · simp only [Ph, GW, Pa, NB, Ar, AB];rfl
      refine AM (i := 5) (N := some 70) (v := ?_) (a' := ?_) #[true, true, true, BK, true, true, BK, BK, BK, BK, BK, BK, BK, BK, BK, BK, BK] rfl rfl (AA HT_.out (by kernel_rfl)) (fun _ _ _ h => h) (PD ⟨by rfl, ?_⟩) ?_ ?_;rotate_left
      · intro w';go_simp
        with_reducible rfl
      rotate_left
      · simp only [Ph, GW, Pa, NB, Ar, AB];rfl
      refine AM (i := 6) (N := some 71) (v := ?_) (a' := ?_) #[true, true, true, BK, true, true, true, BK, BK, BK, BK, BK, BK, BK, BK, BK, BK] rfl rfl (AA HT_.out (by kernel_rfl)) (fun _ _ _ h => h) (PD ⟨by rfl, ?_⟩) ?_ ?_;rotate_left
      · intro w';go_simp
        with_reducible rfl
      rotate_left
      · simp only [Ph, GW, Pa, NB, Ar, AB];rfl
      refine AM (i := 7) (N := some 72) (v := ?_) (a' := ?_) #[true, true, true, BK, true, true, true, true, BK, BK, BK, BK, BK, BK, BK, BK, BK] rfl rfl (AA HT_.out (by kernel_rfl)) (fun _ _ _ h => h) (PD ⟨by rfl, ?_⟩) ?_ ?_;rotate_left
      · intro w';go_simp
        with_reducible rfl
      rotate_left
      · simp only [Ph, GW, Pa, NB, Ar, AB];rfl
      refine AM (i := 9) (N := some 74) (v := ?_) (a' := ?_) #[true, true, true, BK, true, true, true, true, BK, true, BK, BK, BK, BK, BK, BK, BK] rfl rfl (AA HT_.out (by kernel_rfl)) (fun _ _ _ h => h) (PD ⟨by rfl, ?_⟩) ?_ ?_;rotate_left
      · intro w';go_simp
        with_reducible rfl
      rotate_left
      · simp only [Ph, GW, Pa, NB, Ar, AB];rfl
      refine AM (i := 12) (N := some 77) (v := ?_) (a' := ?_) #[true, true, true, BK, true, true, true, true, BK, true, BK, BK, true, BK, BK, BK, BK] rfl rfl (AA HT_.out (by kernel_rfl)) (fun _ _ _ h => h) (PD ⟨by rfl, ?_⟩) ?_ ?_;rotate_left
      · intro w';go_simp
        with_reducible rfl
      rotate_left
      · simp only [Ph, GW, Pa, NB, Ar, AB];rfl
      refine DY [3, 8, 10, 11, 13, 14, 15, 16] (fun a0_ b a w' => ∃ (tt : Pd) (uu : Pd), a = Bm a0_ b [(3, 68, (.slice (some ⟨gK, 0, none⟩) s3.N.length cK)), (8, 73, (.slice (some ⟨gK, 0, none⟩) s3.N.length cK)), (10, 75, .pointer (some ⟨gK, at_, none⟩)), (11, 76, ui), (13, 78, tt), (14, 79, uu), (15, 80, .pointer (some ⟨gK, at_, none⟩))] /\ ((St w0 Z (IW g n3 p3 z3 (.slice (some ⟨gK, 0, none⟩) s3.N.length cK) cn3 us3 s3 at_ s2.N.length kl (Al gk 24 #[.int .i64 kx.f0, .string kx.f1, .string kx.f2, .slice A3 kx.f3.length c3] :: (Al gb 24 #[.int .i64 a0, .string a1, .string a2, .slice (some ad) l.length c] :: X)) b tt uu) w' /\ BS w0 Z w7 w'))) HT_.out HW_.out (by kernel_rfl) (by kernel_rfl) ?_ ?_ ?_
      · exact ⟨.bool BK, .bool BK, by simp only [Bm, R5, if_false], S⟩
      · skip
        clear S;refine Am ?_ ?_
        · rintro b a w' ⟨tt, uu, ha, Q_S⟩ hb_ hon hoff;refine ⟨_, rfl, fun K hK => ?_⟩;have e67 : a.tmps[67]? = some (.pointer (some ⟨g, 3, none⟩)) := by rw [ha]; exact (AU rfl).trans rfl
          replace ha := A7.mk ha;have S := A7.mk Q_S;have hc_ : w'.cell? ⟨g, 3, none⟩ = some (.slice (some ⟨gK, 0, none⟩) s3.N.length cK) := (Aa (S.out.1.at_blk (i := 0) rfl) 3).trans rfl;refine Be (w1 := w') (v := (.slice (some ⟨gK, 0, none⟩) s3.N.length cK)) (by rfl) rfl ?_ ?_
          · go_simp
            (try simp only [Ar])
            try rfl
          refine hK.out _ _ ⟨tt, uu, (by rw [ha.out]; exact At 0 hb_ rfl rfl rfl), Q_S⟩
        refine Am ?_ ?_
        · rintro b a w' ⟨tt, uu, ha, Q_S⟩ hb_ hon hoff;refine ⟨_, rfl, fun K hK => ?_⟩;have e72 : a.tmps[72]? = some (.pointer (some ⟨g, 3, none⟩)) := by rw [ha]; exact (AU rfl).trans rfl
          replace ha := A7.mk ha;have S := A7.mk Q_S;have hc_ : w'.cell? ⟨g, 3, none⟩ = some (.slice (some ⟨gK, 0, none⟩) s3.N.length cK) := (Aa (S.out.1.at_blk (i := 0) rfl) 3).trans rfl;refine Be (w1 := w') (v := (.slice (some ⟨gK, 0, none⟩) s3.N.length cK)) (by rfl) rfl ?_ ?_
          · go_simp
            (try simp only [Ar])
            try rfl
          refine hK.out _ _ ⟨tt, uu, (by rw [ha.out]; exact At 1 hb_ rfl rfl rfl), Q_S⟩
        refine Am ?_ ?_
        · rintro b a w' ⟨tt, uu, ha, Q_S⟩ hb_ hon hoff;refine ⟨_, rfl, fun K hK => ?_⟩;have e73 : a.tmps[73]? = some ((.slice (some ⟨gK, 0, none⟩) s3.N.length cK)) := by rw [ha]; exact Ax (e := (8, 73, (.slice (some ⟨gK, 0, none⟩) s3.N.length cK))) 1 rfl rfl (hon 8 (by kernel_rfl)) rfl
          have e74 : a.tmps[74]? = some (.int .i64 at_) := by rw [ha]; exact (AU rfl).trans rfl
          replace ha := A7.mk ha;have S := A7.mk Q_S;refine Be (w1 := w') (v := .pointer (some ⟨gK, at_, none⟩)) (by rfl) rfl ?_ ?_
          · go_simp
            (try simp only [Ar])
            try rfl
          refine hK.out _ _ ⟨tt, uu, (by rw [ha.out]; exact At 2 hb_ rfl rfl rfl), Q_S⟩
        refine Am ?_ ?_
        · rintro b a w' ⟨tt, uu, ha, Q_S⟩ hb_ hon hoff;refine ⟨_, rfl, fun K hK => ?_⟩;have e75 : a.tmps[75]? = some (.pointer (some ⟨gK, at_, none⟩)) := by rw [ha]; exact Ax (e := (10, 75, .pointer (some ⟨gK, at_, none⟩))) 2 rfl rfl (hon 10 (by kernel_rfl)) rfl
          replace ha := A7.mk ha;have S := A7.mk Q_S;obtain ⟨_, _, ⟨t_, ht_, hc_⟩, hf_⟩ := Da (S.out.1.at_row (i := 4) (by simp only [IW, (hoff 16 (by kernel_rfl))]; rfl)) ha3 Pc;have et_ : t_ = ui := Px (ht_.symm.trans hui);rw [et_] at hc_;refine Be (w1 := w') (v := ui) (by rfl) rfl ?_ ?_
          · go_simp
            (try simp only [Ar])
            try rfl
          refine hK.out _ _ ⟨tt, uu, (by rw [ha.out]; exact At 3 hb_ rfl rfl rfl), Q_S⟩
        refine Am ?_ ?_
        · rintro b a w' ⟨tt, uu, ha, Q_S⟩ hb_ hon hoff;refine ⟨_, rfl, fun K hK => ?_⟩;have e77 : a.tmps[77]? = some (.int .i64 s2.N.length) := by rw [ha]; exact (AU rfl).trans rfl
          replace ha := A7.mk ha;have S := A7.mk Q_S;refine Be (w1 := w'.alloc (.cells #[(.int .i64 s2.N.length)] 3)) (v := .slice (some ⟨w'.heap.size, 0, none⟩) 1 1) (by rfl) rfl ?_ ?_
          · go_simp
            try rfl
          have S2_ := S.out.1.lit (i := 6) (by simp only [IW, hb_]; rfl) 3 1 1 (by decide) (by decide) [(.int .i64 s2.N.length)] rfl;have S3_ : (St w0 Z (IW g n3 p3 z3 (.slice (some ⟨gK, 0, none⟩) s3.N.length cK) cn3 us3 s3 at_ s2.N.length kl (Al gk 24 #[.int .i64 kx.f0, .string kx.f1, .string kx.f2, .slice A3 kx.f3.length c3] :: (Al gb 24 #[.int .i64 a0, .string a1, .string a2, .slice (some ad) l.length c] :: X)) (up b 13) (.slice (some ⟨w'.heap.size, 0, none⟩) 1 1) uu) (w'.alloc (.cells #[(.int .i64 s2.N.length)] 3)) /\ BS w0 Z w7 (w'.alloc (.cells #[(.int .i64 s2.N.length)] 3))) := ⟨by have h_ := S2_.1; simp only [IW, PA, Pu, Pa, NB, GW, up, PH, reduceIte, cond_true, cond_false, hb_, (hoff 14 (by kernel_rfl)), (hoff 16 (by kernel_rfl))] at h_ ⊢; exact h_, S.out.2.trans S2_.2⟩;refine hK.out _ _ ⟨(.slice (some ⟨w'.heap.size, 0, none⟩) 1 1), uu, (by rw [ha.out]; exact At 4 hb_ rfl rfl rfl), S3_⟩
        refine Am ?_ ?_
        · rintro b a w' ⟨tt, uu, ha, Q_S⟩ hb_ hon hoff;refine ⟨_, rfl, fun K hK => ?_⟩;have e76 : a.tmps[76]? = some (ui) := by rw [ha]; exact Ax (e := (11, 76, ui)) 3 rfl rfl (hon 11 (by kernel_rfl)) rfl
          have e78 : a.tmps[78]? = some (tt) := by rw [ha]; exact Ax (e := (13, 78, tt)) 4 rfl rfl (hon 13 (by kernel_rfl)) rfl
          replace ha := A7.mk ha;have S := A7.mk Q_S;have hi5_ : (IW g n3 p3 z3 (.slice (some ⟨gK, 0, none⟩) s3.N.length cK) cn3 us3 s3 at_ s2.N.length kl (Al gk 24 #[.int .i64 kx.f0, .string kx.f1, .string kx.f2, .slice A3 kx.f3.length c3] :: (Al gb 24 #[.int .i64 a0, .string a1, .string a2, .slice (some ad) l.length c] :: X)) b tt uu)[5]? = some (Ei (Eg us3 s3.K)) := by simp only [IW, hb_]; rfl
          refine CI (by rfl) (.tmp 76) (.tmp 78) 36 3 (.int .i64 0) 1 8 rfl Try.underlying36 Ca rfl (by decide) (by decide) ui tt kl.length (BB kl) [(.int .i64 s2.N.length)] (Cx e76) (Cx e78) (by simp [QL]) (S.out.1.sub_row hi5_ hin) (S.out.1.at_row (i := 6) (by simp only [IW, (hon 13 (by kernel_rfl))]; rfl)) (by have := hq3.out; omega) ?_;intro v1 w1 ho hg hat;have S2_ := S.out.1.sub_upd hi5_ hin (IP ho hg hat);have S3_ : (St w0 Z (IW g n3 p3 z3 (.slice (some ⟨gK, 0, none⟩) s3.N.length cK) cn3 us3 s3 at_ s2.N.length kl (Al gk 24 #[.int .i64 kx.f0, .string kx.f1, .string kx.f2, .slice A3 kx.f3.length c3] :: (Al gb 24 #[.int .i64 a0, .string a1, .string a2, .slice (some ad) l.length c] :: X)) (up b 14) tt v1) w1 /\ BS w0 Z w7 w1) := ⟨by have h_ := S2_.1; simp only [IW, PA, Pu, Pa, NB, GW, up, PH, reduceIte, cond_true, cond_false, hb_, (hon 13 (by kernel_rfl)), (hoff 16 (by kernel_rfl))] at h_ ⊢; exact h_, S.out.2.trans S2_.2⟩;refine hK.out _ _ ⟨tt, v1, (by rw [ha.out]; exact At 5 hb_ rfl rfl rfl), S3_⟩
        refine Am ?_ ?_
        · rintro b a w' ⟨tt, uu, ha, Q_S⟩ hb_ hon hoff;refine ⟨_, rfl, fun K hK => ?_⟩;have e68 : a.tmps[68]? = some ((.slice (some ⟨gK, 0, none⟩) s3.N.length cK)) := by rw [ha]; exact Ax (e := (3, 68, (.slice (some ⟨gK, 0, none⟩) s3.N.length cK))) 0 rfl rfl (hon 3 (by kernel_rfl)) rfl
          have e69 : a.tmps[69]? = some (.int .i64 at_) := by rw [ha]; exact (AU rfl).trans rfl
          replace ha := A7.mk ha;have S := A7.mk Q_S;refine Be (w1 := w') (v := .pointer (some ⟨gK, at_, none⟩)) (by rfl) rfl ?_ ?_
          · go_simp
            (try simp only [Ar])
            try rfl
          refine hK.out _ _ ⟨tt, uu, (by rw [ha.out]; exact At 6 hb_ rfl rfl rfl), Q_S⟩
        refine Am ?_ ?_
        · rintro b a w' ⟨tt, uu, ha, Q_S⟩ hb_ hon hoff;refine ⟨_, rfl, fun K hK => ?_⟩;have e80 : a.tmps[80]? = some (.pointer (some ⟨gK, at_, none⟩)) := by rw [ha]; exact Ax (e := (15, 80, .pointer (some ⟨gK, at_, none⟩))) 6 rfl rfl (hon 15 (by kernel_rfl)) rfl
          have e79 : a.tmps[79]? = some (uu) := by rw [ha]; exact Ax (e := (14, 79, uu)) 5 rfl rfl (hon 14 (by kernel_rfl)) rfl
          replace ha := A7.mk ha;have S := A7.mk Q_S;have hi4_ : (IW g n3 p3 z3 (.slice (some ⟨gK, 0, none⟩) s3.N.length cK) cn3 us3 s3 at_ s2.N.length kl (Al gk 24 #[.int .i64 kx.f0, .string kx.f1, .string kx.f2, .slice A3 kx.f3.length c3] :: (Al gb 24 #[.int .i64 a0, .string a1, .string a2, .slice (some ad) l.length c] :: X)) b tt uu)[4]? = some (Bw (.slice (some ⟨gK, 0, none⟩) s3.N.length cK) 36 1 s3.N.length us3) := by simp only [IW, hb_]; rfl
          obtain ⟨ho_, hg_, ⟨t_, ht_, hc_⟩, hf_⟩ := Da (S.out.1.at_row hi4_) ha3 uu;obtain ⟨A_, c_, en_⟩ := BF (S.out.1.sub_row (i := 5) (j := at_) (L := (Eg us3 s3.K).set at_ (Bw uu 3 1 (kl.length + 1) (BB kl ++ [(.int .i64 s2.N.length)]))) (by simp only [IW, (hon 14 (by kernel_rfl))]; rfl) (by rw [List.getElem?_set_self (by have := (Pf.1 hin).1; exact this)]));refine DG (w1 := w'.setCell ⟨gK, at_, none⟩ uu) (by rfl) rfl ?_ ?_
          · rw [en_] at e79 ⊢;go_simp
            try rfl
          have S2_ := S.out.1.row_upd hi4_ ho_ hg_ (.inl rfl);have S3_ : (St w0 Z (IW g n3 p3 z3 (.slice (some ⟨gK, 0, none⟩) s3.N.length cK) cn3 us3 s3 at_ s2.N.length kl (Al gk 24 #[.int .i64 kx.f0, .string kx.f1, .string kx.f2, .slice A3 kx.f3.length c3] :: (Al gb 24 #[.int .i64 a0, .string a1, .string a2, .slice (some ad) l.length c] :: X)) (up b 16) tt uu) (w'.setCell ⟨gK, at_, none⟩ uu) /\ BS w0 Z w7 (w'.setCell ⟨gK, at_, none⟩ uu)) := ⟨by have h_ := S2_.1; simp only [IW, PA, Pu, Pa, NB, GW, up, PH, reduceIte, cond_true, cond_false, hb_, (hon 14 (by kernel_rfl)), (hon 13 (by kernel_rfl))] at h_ ⊢; exact h_, S.out.2.trans S2_.2⟩;refine hK.out _ _ ⟨tt, uu, (by rw [ha.out]; exact BX (v := Pc) rfl), S3_⟩
        exact CB
      · rintro b a w' hall ⟨tt, uu, ha, Q_S⟩;clear S;have hb3_ := hall 3 (by kernel_rfl);have hb8_ := hall 8 (by kernel_rfl);have hb10_ := hall 10 (by kernel_rfl);have hb11_ := hall 11 (by kernel_rfl);have hb13_ := hall 13 (by kernel_rfl);have hb14_ := hall 14 (by kernel_rfl);have hb15_ := hall 15 (by kernel_rfl);have hb16_ := hall 16 (by kernel_rfl);subst ha;simp only [Bm, hb3_, hb8_, hb10_, hb11_, hb13_, hb14_, hb15_, hb16_, if_true, Ph, GW, Pa, NB];have S := A7.mk Q_S;clear Q_S;have S2_ := S.out; simp only [IW, cond_true, hb13_, hb14_, hb16_] at S2_;clear hall hb3_ hb8_ hb10_ hb11_ hb13_ hb14_ hb15_ hb16_;have hpl : Eo g ⟨n3, p3, z3, (.slice (some ⟨gK, 0, none⟩) s3.N.length cK), cn3, us3.set at_ uu⟩ { s3 with K := s3.K.set at_ (kl ++ [(s2.N.length : Int)]) } = [Al g 71 #[n3, p3, z3, (.slice (some ⟨gK, 0, none⟩) s3.N.length cK)], Bw n3 24 4 s3.N.length cn3, Bw p3 3 1 s3.N.length (BB s3.P), Bw z3 3 1 s3.N.length (BB s3.Z), Bw (.slice (some ⟨gK, 0, none⟩) s3.N.length cK) 36 1 s3.N.length (us3.set at_ uu), Ei ((Eg us3 s3.K).set at_ (Bw uu 3 1 (kl.length + 1) (BB kl ++ [(.int .i64 s2.N.length)])))] := by simp only [Eo, Ij _ _ (hu3.trans hk3.symm), PK, PX, Qu, R1, BB, Qs, Py, PZ]
        have st8 : St w0 Z (Eo g ⟨n3, p3, z3, (.slice (some ⟨gK, 0, none⟩) s3.N.length cK), cn3, us3.set at_ uu⟩ { s3 with K := s3.K.set at_ (kl ++ [(s2.N.length : Int)]) } ++ (Al gb 24 #[.int .i64 a0, .string a1, .string a2, .slice (some ad) l.length c] :: X)) w' := by
          rw [hpl];refine (St.perm (l' := [Bw tt 3 1 1 [(.int .i64 s2.N.length)], Al gk 24 #[.int .i64 kx.f0, .string kx.f1, .string kx.f2, .slice A3 kx.f3.length c3]] ++ ([Al g 71 #[n3, p3, z3, (.slice (some ⟨gK, 0, none⟩) s3.N.length cK)], Bw n3 24 4 s3.N.length cn3, Bw p3 3 1 s3.N.length (BB s3.P), Bw z3 3 1 s3.N.length (BB s3.Z), Bw (.slice (some ⟨gK, 0, none⟩) s3.N.length cK) 36 1 s3.N.length (us3.set at_ uu), Ei ((Eg us3 s3.K).set at_ (Bw uu 3 1 (kl.length + 1) (BB kl ++ [(.int .i64 s2.N.length)])))] ++ (Al gb 24 #[.int .i64 a0, .string a1, .string a2, .slice (some ad) l.length c] :: X))) S2_.1 ?_).drop.drop;rw [<- PP];exact (List.Perm.of_eq (by simp only [PA, Pu])).trans ((Q8 (l₁ := [Al g 71 #[n3, p3, z3, (.slice (some ⟨gK, 0, none⟩) s3.N.length cK)], Bw n3 24 4 s3.N.length cn3, Bw p3 3 1 s3.N.length (BB s3.P), Bw z3 3 1 s3.N.length (BB s3.Z), Bw (.slice (some ⟨gK, 0, none⟩) s3.N.length cK) 36 1 s3.N.length (us3.set at_ uu), Ei ((Eg us3 s3.K).set at_ (Bw uu 3 1 (kl.length + 1) (BB kl ++ [(.int .i64 s2.N.length)])))]) (l₂ := [Bw tt 3 1 1 [(.int .i64 s2.N.length)], Al gk 24 #[.int .i64 kx.f0, .string kx.f1, .string kx.f2, .slice A3 kx.f3.length c3]])).append_right _)
        have HP8 : Pl w0 Z Φ g ⟨n3, p3, z3, (.slice (some ⟨gK, 0, none⟩) s3.N.length cK), cn3, us3.set at_ uu⟩ { s3 with K := s3.K.set at_ (kl ++ [(s2.N.length : Int)]) } (Al gb 24 #[.int .i64 a0, .string a1, .string a2, .slice (some ad) l.length c] :: X) w' := ⟨st8, hΦ, fun j x hj => S2_.2.fk (HP7.nodes j x hj) hΦ, HP7.p, HP7.z, by simpa using hk3, by simpa using hu3, HP7.c, HP7.one⟩;have hsm8 := hsm.trans (sm21.trans (sm7.trans S2_.2));have hL2 := hLk.symm.trans hL;rw [hgd] at hL2;have hsb : Db (s3.K.set at_ (kl ++ [(s2.N.length : Int)])) <= Db s3.K + 1 := by have h_ := Gu s3.K at_ (s2.N.length : Int); rw [hgd] at h_; exact h_
        have hjw : Pq (jj + 1) = ((j + 1 : Nat) : Int) := by have h1_ := hjj.out; have h2_ := Fk l; unfold Pq; omega
        replace hgk := A7.mk hgk;replace hjw := A7.mk hjw;clear S S2_ HP7 HP20 hpl st8 st7 sm7 sm21;go_wp2
        go_roundg (l.length - (j + 1))
        case measure => have := hgk.out; omega
        case rel => exact ⟨Pq (jj + 1), j + 1, _, _, by first | rfl | (simp; done), ⟨hjw.out⟩, by omega, rfl, HP8, hsm8, hL2, by show at_ < s3.N.length; exact ha3, by show s3.N.length + _ <= _; have := hn3.out; omega, by show Db (s3.K.set at_ (kl ++ [(s2.N.length : Int)])) + _ <= _; have := hq3.out; omega, hpx.trans ((List.prefix_append _ _).trans hpy)⟩
    · have hjb := decide_eq_false hjl;have hjn : j = l.length := by have := hjj.out; omega
      have hL2 : s2 = C8 l at_ s1 := by rw [<- hL, hjn, List.drop_length]; rfl
      obtain ⟨n2, p2, z2, k2, cn2, us2⟩ := v1;obtain ⟨gZ, cZ, eZ, _⟩ := EI (HP.st.at_row (i := 3) rfl) hat1 Pc;have eZ2 : z2 = .slice (some ⟨gZ, 0, none⟩) s2.N.length cZ := eZ;obtain ⟨An, cnn, eN⟩ := BF (HP.st.at_row (i := 1) rfl);have eN2 : n2 = .slice An s2.N.length cnn := eN;have hbn := A7.mk (show s2.N.length <= 1000000 from by omega);clear eZ eN hgk hb hb2 hL;subst eZ2 eN2;have hz2 : s2.Z.length = s2.N.length := HP.z;have ha1 : (at_ : Int) < (s2.N.length : Int) := by have := hat1; omega
      have ha0 : (0 : Int) <= (at_ : Int) := by omega
      replace hL2 := A7.mk hL2;go_wp2;obtain ⟨st9, sm9⟩ := HP.st.keep (AD (Pn wr.heap.size wr));have HP9 := HP.same st9 sm9;have S : (St w0 Z (O7 g (.slice An s2.N.length cnn) p2 (.slice (some ⟨gZ, 0, none⟩) s2.N.length cZ) k2 cn2 us2 s2 at_ (Pq ((s2.N.length : Int) - (at_ : Int))) (Al gb 24 #[.int .i64 a0, .string a1, .string a2, .slice A l.length c] :: X) (fun _ => BK)) wr.drew /\ BS w0 Z wr.drew wr.drew) := ⟨st9, BS.refl _ _ _⟩;replace ha0 := eq_true ha0;replace ha1 := eq_true ha1;refine Cu (n := 14) (S := fun w' => True) (ds := []) #[BK, BK, BK, BK, BK, BK, BK, BK, BK, BK, BK, BK, BK, BK] (by kernel_rfl) rfl rfl trivial (fun hHeld => ?_);refine BQ add.tab9 add.bits9 (fun HT_ HW_ => ?_);generalize wr.drew = w9 at S hHeld HP9 sm9 ⊢;refine AM (i := 0) (N := some 82) (v := ?_) (a' := ?_) #[true, BK, BK, BK, BK, BK, BK, BK, BK, BK, BK, BK, BK, BK] rfl rfl (AA HT_.out (by kernel_rfl)) (fun _ _ _ h => h) (PD ⟨by rfl, ?_⟩) ?_ ?_;rotate_left
      · intro w';go_simp
        with_reducible rfl
      rotate_left
      · simp only [Ph, GW, Pa, NB, Ar, AB];rfl
      refine AM (i := 1) (N := some 83) (v := ?_) (a' := ?_) #[true, true, BK, BK, BK, BK, BK, BK, BK, BK, BK, BK, BK, BK] rfl rfl (AA HT_.out (by kernel_rfl)) (fun _ _ _ h => h) (PD ⟨by rfl, ?_⟩) ?_ ?_;rotate_left
      · intro w';go_simp
        with_reducible rfl
      rotate_left
      · simp only [Ph, GW, Pa, NB, Ar, AB];rfl
      refine AM (i := 2) (N := some 84) (v := ?_) (a' := ?_) #[true, true, true, BK, BK, BK, BK, BK, BK, BK, BK, BK, BK, BK] rfl rfl (AA HT_.out (by kernel_rfl)) (fun _ _ _ h => h) (PD ⟨by rfl, ?_⟩) ?_ ?_;rotate_left
      · intro w';go_simp
        with_reducible rfl
      rotate_left
      · simp only [Ph, GW, Pa, NB, Ar, AB];rfl
      refine AM (i := 4) (N := some 86) (v := ?_) (a' := ?_) #[true, true, true, BK, true, BK, BK, BK, BK, BK, BK, BK, BK, BK] rfl rfl (AA HT_.out (by kernel_rfl)) (fun _ _ _ h => h) (PD ⟨by rfl, ?_⟩) ?_ ?_;rotate_left
      · intro w';go_simp
        with_reducible rfl
      rotate_left
      · simp only [Ph, GW, Pa, NB, Ar, AB];rfl
      refine AM (i := 5) (N := some 87) (v := ?_) (a' := ?_) #[true, true, true, BK, true, true, BK, BK, BK, BK, BK, BK, BK, BK] rfl rfl (AA HT_.out (by kernel_rfl)) (fun _ _ _ h => h) (PD ⟨by rfl, ?_⟩) ?_ ?_;rotate_left
      · intro w';go_simp
        with_reducible rfl
      rotate_left
      · simp only [Ph, GW, Pa, NB, Ar, AB];rfl
      refine AM (i := 6) (N := some 88) (v := ?_) (a' := ?_) #[true, true, true, BK, true, true, true, BK, BK, BK, BK, BK, BK, BK] rfl rfl (AA HT_.out (by kernel_rfl)) (fun _ _ _ h => h) (PD ⟨by rfl, ?_⟩) ?_ ?_;rotate_left
      · intro w';go_simp
        with_reducible rfl
      rotate_left
      · simp only [Ph, GW, Pa, NB, Ar, AB];rfl
      refine AM (i := 7) (N := some 89) (v := ?_) (a' := ?_) #[true, true, true, BK, true, true, true, true, BK, BK, BK, BK, BK, BK] rfl rfl (AA HT_.out (by kernel_rfl)) (fun _ _ _ h => h) (PD ⟨by rfl, ?_⟩) ?_ ?_;rotate_left
      · intro w';go_simp
        with_reducible rfl
      rotate_left
      · simp only [Ph, GW, Pa, NB, Ar, AB];rfl
      refine AM (i := 10) (N := some 92) (v := ?_) (a' := ?_) #[true, true, true, BK, true, true, true, true, BK, BK, true, BK, BK, BK] rfl rfl (AA HT_.out (by kernel_rfl)) (fun _ _ _ h => h) (PD ⟨by rfl, ?_⟩) ?_ ?_;rotate_left
      · intro w';go_simp
        with_reducible rfl
      rotate_left
      · simp only [Ph, GW, Pa, NB, Ar, AB];rfl
      refine DY [3, 8, 9, 11, 12, 13] (fun a0_ b a w' => a = Bm a0_ b [(3, 85, (.slice (some ⟨gZ, 0, none⟩) s2.N.length cZ)), (8, 90, (.slice An s2.N.length cnn)), (9, 91, .int .i64 s2.N.length), (11, 93, .int .i64 (Pq ((s2.N.length : Int) - (at_ : Int)))), (12, 94, .pointer (some ⟨gZ, at_, none⟩))] /\ ((St w0 Z (O7 g (.slice An s2.N.length cnn) p2 (.slice (some ⟨gZ, 0, none⟩) s2.N.length cZ) k2 cn2 us2 s2 at_ (Pq ((s2.N.length : Int) - (at_ : Int))) (Al gb 24 #[.int .i64 a0, .string a1, .string a2, .slice A l.length c] :: X) b) w' /\ BS w0 Z w9 w'))) HT_.out HW_.out (by kernel_rfl) (by kernel_rfl) ?_ ?_ ?_
      · exact ⟨by simp only [Bm, R5, if_false], S⟩
      · skip
        clear S;refine Am ?_ ?_
        · rintro b a w' ⟨ha, Q_S⟩ hb_ hon hoff;refine ⟨_, rfl, fun K hK => ?_⟩;have e84 : a.tmps[84]? = some (.pointer (some ⟨g, 2, none⟩)) := by rw [ha]; exact (AU rfl).trans rfl
          replace ha := A7.mk ha;have S := A7.mk Q_S;have hc_ : w'.cell? ⟨g, 2, none⟩ = some (.slice (some ⟨gZ, 0, none⟩) s2.N.length cZ) := (Aa (S.out.1.at_blk (i := 0) rfl) 2).trans rfl;refine Be (w1 := w') (v := (.slice (some ⟨gZ, 0, none⟩) s2.N.length cZ)) (by rfl) rfl ?_ ?_
          · go_simp
            (try simp only [Ar])
            try rfl
          refine hK.out _ _ ⟨(by rw [ha.out]; exact At 0 hb_ rfl rfl rfl), Q_S⟩
        refine Am ?_ ?_
        · rintro b a w' ⟨ha, Q_S⟩ hb_ hon hoff;refine ⟨_, rfl, fun K hK => ?_⟩;have e89 : a.tmps[89]? = some (.pointer (some ⟨g, 0, none⟩)) := by rw [ha]; exact (AU rfl).trans rfl
          replace ha := A7.mk ha;have S := A7.mk Q_S;have hc_ : w'.cell? ⟨g, 0, none⟩ = some (.slice An s2.N.length cnn) := (Aa (S.out.1.at_blk (i := 0) rfl) 0).trans rfl;refine Be (w1 := w') (v := (.slice An s2.N.length cnn)) (by rfl) rfl ?_ ?_
          · go_simp
            (try simp only [Ar])
            try rfl
          refine hK.out _ _ ⟨(by rw [ha.out]; exact At 1 hb_ rfl rfl rfl), Q_S⟩
        refine Am ?_ ?_
        · rintro b a w' ⟨ha, Q_S⟩ hb_ hon hoff;refine ⟨_, rfl, fun K hK => ?_⟩;have e90 : a.tmps[90]? = some ((.slice An s2.N.length cnn)) := by rw [ha]; exact Ax (e := (8, 90, (.slice An s2.N.length cnn))) 1 rfl rfl (hon 8 (by kernel_rfl)) rfl
          replace ha := A7.mk ha;have S := A7.mk Q_S;refine Be (w1 := w') (v := .int .i64 s2.N.length) (by rfl) rfl ?_ ?_
          · go_simp
            (try simp only [Ar])
            try rfl
          refine hK.out _ _ ⟨(by rw [ha.out]; exact At 2 hb_ rfl rfl rfl), Q_S⟩
        refine Am ?_ ?_
        · rintro b a w' ⟨ha, Q_S⟩ hb_ hon hoff;refine ⟨_, rfl, fun K hK => ?_⟩;have e91 : a.tmps[91]? = some (.int .i64 s2.N.length) := by rw [ha]; exact Ax (e := (9, 91, .int .i64 s2.N.length)) 2 rfl rfl (hon 9 (by kernel_rfl)) rfl
          have e92 : a.tmps[92]? = some (.int .i64 at_) := by rw [ha]; exact (AU rfl).trans rfl
          replace ha := A7.mk ha;have S := A7.mk Q_S;refine Be (w1 := w') (v := .int .i64 (Pq ((s2.N.length : Int) - (at_ : Int)))) (by rfl) rfl ?_ ?_
          · go_simp
            (try simp only [Ar])
            try rfl
          refine hK.out _ _ ⟨(by rw [ha.out]; exact At 3 hb_ rfl rfl rfl), Q_S⟩
        refine Am ?_ ?_
        · rintro b a w' ⟨ha, Q_S⟩ hb_ hon hoff;refine ⟨_, rfl, fun K hK => ?_⟩;have e85 : a.tmps[85]? = some ((.slice (some ⟨gZ, 0, none⟩) s2.N.length cZ)) := by rw [ha]; exact Ax (e := (3, 85, (.slice (some ⟨gZ, 0, none⟩) s2.N.length cZ))) 0 rfl rfl (hon 3 (by kernel_rfl)) rfl
          have e86 : a.tmps[86]? = some (.int .i64 at_) := by rw [ha]; exact (AU rfl).trans rfl
          replace ha := A7.mk ha;have S := A7.mk Q_S;refine Be (w1 := w') (v := .pointer (some ⟨gZ, at_, none⟩)) (by rfl) rfl ?_ ?_
          · go_simp
            (try simp only [Ar])
            try rfl
          refine hK.out _ _ ⟨(by rw [ha.out]; exact At 4 hb_ rfl rfl rfl), Q_S⟩
        refine Am ?_ ?_
        · rintro b a w' ⟨ha, Q_S⟩ hb_ hon hoff;refine ⟨_, rfl, fun K hK => ?_⟩;have e94 : a.tmps[94]? = some (.pointer (some ⟨gZ, at_, none⟩)) := by rw [ha]; exact Ax (e := (12, 94, .pointer (some ⟨gZ, at_, none⟩))) 4 rfl rfl (hon 12 (by kernel_rfl)) rfl
          have e93 : a.tmps[93]? = some (.int .i64 (Pq ((s2.N.length : Int) - (at_ : Int)))) := by rw [ha]; exact Ax (e := (11, 93, .int .i64 (Pq ((s2.N.length : Int) - (at_ : Int))))) 3 rfl rfl (hon 11 (by kernel_rfl)) rfl
          replace ha := A7.mk ha;have S := A7.mk Q_S;have hi3_ : (O7 g (.slice An s2.N.length cnn) p2 (.slice (some ⟨gZ, 0, none⟩) s2.N.length cZ) k2 cn2 us2 s2 at_ (Pq ((s2.N.length : Int) - (at_ : Int))) (Al gb 24 #[.int .i64 a0, .string a1, .string a2, .slice A l.length c] :: X) b)[3]? = some (Bw (.slice (some ⟨gZ, 0, none⟩) s2.N.length cZ) 3 1 s2.N.length (BB s2.Z)) := by simp only [O7, hb_]; rfl
          obtain ⟨ho_, hg_, ⟨t_, ht_, hc_⟩, hf_⟩ := Da (S.out.1.at_row hi3_) hat1 (.int .i64 (Pq ((s2.N.length : Int) - (at_ : Int))));refine DG (w1 := w'.setCell ⟨gZ, at_, none⟩ (.int .i64 (Pq ((s2.N.length : Int) - (at_ : Int))))) (by rfl) rfl ?_ ?_
          · go_simp
            try rfl
          have S2_ := S.out.1.row_upd hi3_ ho_ hg_ (.inl rfl);have S3_ : (St w0 Z (O7 g (.slice An s2.N.length cnn) p2 (.slice (some ⟨gZ, 0, none⟩) s2.N.length cZ) k2 cn2 us2 s2 at_ (Pq ((s2.N.length : Int) - (at_ : Int))) (Al gb 24 #[.int .i64 a0, .string a1, .string a2, .slice A l.length c] :: X) (up b 13)) (w'.setCell ⟨gZ, at_, none⟩ (.int .i64 (Pq ((s2.N.length : Int) - (at_ : Int))))) /\ BS w0 Z w9 (w'.setCell ⟨gZ, at_, none⟩ (.int .i64 (Pq ((s2.N.length : Int) - (at_ : Int)))))) := ⟨by have h_ := S2_.1; simp only [O7, PA, Pu, Pa, NB, GW, up, PH, reduceIte, cond_true, cond_false, hb_] at h_ ⊢; exact h_, S.out.2.trans S2_.2⟩;refine hK.out _ _ ⟨(by rw [ha.out]; exact BX (v := Pc) rfl), S3_⟩
        exact CB
      · rintro b a w' hall ⟨ha, Q_S⟩;clear S;have hb3_ := hall 3 (by kernel_rfl);have hb8_ := hall 8 (by kernel_rfl);have hb9_ := hall 9 (by kernel_rfl);have hb11_ := hall 11 (by kernel_rfl);have hb12_ := hall 12 (by kernel_rfl);have hb13_ := hall 13 (by kernel_rfl);subst ha;simp only [Bm, hb3_, hb8_, hb9_, hb11_, hb12_, hb13_, if_true, Ph, GW, Pa, NB];have S := A7.mk Q_S;clear Q_S;have S2_ := S.out; simp only [O7, cond_true, hb13_] at S2_;clear hall hb3_ hb8_ hb9_ hb11_ hb12_ hb13_;have hdv : (Pq ((s2.N.length : Int) - (at_ : Int))) = (s2.N.length : Int) - (at_ : Int) := by have h1_ := of_eq_true ha1; have h2_ := of_eq_true ha0; have h3_ := hbn.out; unfold Pq; omega
        go_wp2;have st10 := (S2_.1.perm List.perm_middle).drop;have sm10 := sm9.trans S2_.2;refine bodyPost_ret (results_tmp (t := 6) rfl _ _ _) rfl ?_;refine ⟨by first | (rw [hat]; done) | (rw [hat]; rfl), ⟨⟨(.slice An s2.N.length cnn), p2, (.slice (some ⟨gZ, 0, none⟩) s2.N.length cZ), k2, cn2, us2⟩, ?_, hpx⟩, hsm.trans sm10⟩;rw [hadd, <- hL2.out];refine ⟨?_, hΦ, fun j x hj => S2_.2.fk (HP9.nodes j x hj) hΦ, HP9.p, by simpa using hz2, HP9.k, HP9.u, HP9.c, HP9.one⟩;have hpl : Eo g ⟨(.slice An s2.N.length cnn), p2, (.slice (some ⟨gZ, 0, none⟩) s2.N.length cZ), k2, cn2, us2⟩ { s2 with Z := s2.Z.set at_ ((s2.N.length : Int) - (at_ : Int)) } = [Al g 71 #[(.slice An s2.N.length cnn), p2, (.slice (some ⟨gZ, 0, none⟩) s2.N.length cZ), k2], Bw (.slice An s2.N.length cnn) 24 4 s2.N.length cn2, Bw p2 3 1 s2.N.length (BB s2.P), Bw (.slice (some ⟨gZ, 0, none⟩) s2.N.length cZ) 3 1 s2.N.length ((BB s2.Z).set at_ (.int .i64 (Pq ((s2.N.length : Int) - (at_ : Int))))), Bw k2 36 1 s2.N.length us2, Ei (Eg us2 s2.K)] := by simp only [Eo, BB, List.map_set, hdv]
        rw [hpl];exact st10
end Go.Proofs.Q
