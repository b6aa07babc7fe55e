/- The texts of this claim that lie below its row, in their order: KMovW KRead MShelf KLabel Qx4 KEv KMovL KMovX KAny KRr0. -/
import Derived.Shelf.Strings.Trim
import Derived.Shelf.Strings.Repeat
import Derived.Shelf.Bytes.WriteAt
import Derived.Shelf.Bytes.WriteByteAt
import Derived.Shelf.Bytes.WriteStringAt
import Derived.Shelf.Bytes.LenAt
import Derived.Shelf.Bytes.Bytes
import Derived.Test.YtnnnbeimehfiiaaDoorProg
import Derived.Lib.ConvBytes
import Derived.Laws.BytesArg
import Derived.Test.YtnnnbeimehfiiaaDoorZM1
/-! Rows that a call gathers: bytes, the program's parts. -/
set_option linter.unusedVariables false
set_option linter.unusedSimpArgs false
namespace Go.Proofs.YtnnnbeimehfiiaaDoor.Q
open Go Go.RowKit Go.Proofs.YtnnnbeimehfiiaaDoorW.PrintWords Go.Proofs.YtnnnbeimehfiiaaDoorW.SL
theorem own_base' {w : World} {base e size n k : Nat} {v : Value} {xs : List Value} (h : w.ownsRow base e size v n xs) (hk : v.ownBlock = some k) : base ≤ k := (h.lt k hk).1
/-- Bytes being gathered, in blocks from B on. -/
def Rw (B : Nat) (W : World) (v : Value) (l : List Int) : Prop := W.ownsRow B 5 1 v l.length (us8 l)
theorem Rw.below {B : Nat} {W W' : World} {v : Value} {l : List Int} (h : Rw B W v l) (hb : Below W.heap.size W W') : Rw B W' v l := own_move h (fun k hk => hb.block k (own_lt h k hk))
theorem Rw.new {B : Nat} {W : World} (hB : B ≤ W.heap.size) : Rw B (W.alloc (.cells #[] 5)) (.slice (some ⟨W.heap.size, 0, none⟩) 0 0) [] := World.ownsRow_made W #[] 0 hB (Nat.zero_le _) rfl
theorem Rw.form {B : Nat} {W : World} {v : Value} {l : List Int} (h : Rw B W v l) : ∃ A c, v = .slice A l.length c ∧ l.length ≤ c := own_form h
theorem Rw.out {B : Nat} {W : World} {v : Value} {l : List Int} (h : Rw B W v l) : ∃ A c, v = .slice A l.length c ∧ l.length ≤ c ∧ Kd.C B8 W A l.length l := by
  obtain ⟨A, c, e, h1, h2⟩ := ownF_F (w := W) (Z := fun _ => True) (v := v) (xs := l) ⟨fun _ _ => trivial, own_weaken h (Nat.zero_le _)⟩
  exact ⟨A, c, e, h1, Kd.F_now h2⟩
theorem app_none {P : Program} {w : World} (base : Nat) (t ty e : TypeId) (i : TypeInfo) (size c : Nat) (ht : P.underlying t = some (.slice e)) (hi : P.info? e = some i)
    (v : Value) (n : Nat) (xs : List Value) (hown : w.ownsRow base e size v n xs) :
    (Builtin.append_ #[t, t] ty #[v, .slice none 0 c]).run P w = .ok v w := by
  rcases hown.2 with ⟨rfl, rfl⟩ | ⟨g, cap, cur, rfl, _, _, hnc, _⟩
  · simp [Builtin.append_, run_underlying ht, sizeOf, typeInfo, hi, Builtin.lenOf, Builtin.firstCells]
  · simp [Builtin.append_, run_underlying ht, sizeOf, typeInfo, hi, Builtin.lenOf, Builtin.firstCells, hnc, storeCells]
theorem ys_none {W : World} {ys : List Int} (h : Kd.C B8 W none ys.length ys) : ys = [] := by
  cases ys with
  | nil => rfl
  | cons y r => obtain ⟨a, ha, _⟩ := h.2.2 (by simp); cases ha
/-- What an append does to the row and to the heap: the new world keeps what is no row of the same type's own. -/
structure Grew (B : Nat) (W W' : World) (v : Value) : Prop where
  below : ∀ w0 : World, Below B w0 W → B ≤ W.heap.size → Below B w0 W' ∧ B ≤ W'.heap.size
  keep : ∀ k, k < W.heap.size → v.ownBlock ≠ some k → W'.heap[k]? = W.heap[k]?
theorem Grew.refl (B : Nat) (W : World) (v : Value) : Grew B W W v := ⟨fun w0 h hB => ⟨h, hB⟩, fun _ _ _ => rfl⟩
theorem Grew.of {B : Nat} {W W' : World} {v : Value} (hg : W.grownBy W' v.ownBlock) (hr : ∀ k, v.ownBlock = some k → B ≤ k) : Grew B W W' v :=
  ⟨fun w0 h hB => ⟨h.grown hg hB hr, Nat.le_trans hB hg.size⟩, fun k hk hn => hg.block k hk (fun e => hn e.symm)⟩
section
variable {P : Program} {ops : Array Oper} {o : Oper} {a : Act} {Q : Exit → Act → World → Prop} {K : Act → World → Prop} {W : World} {B : Nat}
/-- append(s, x...), bytes. -/
theorem rw_app (hw : Region.wanted o (yielded ops a.tmps) = true) (s x : Operand)
    (ho : o.op = .call { callee := .builtin .append, args := #[s, x], argTypes := #[22, 22] })
    (ht : P.underlying 22 = some (.slice 5)) (hinfo : (P.info? 5).map (fun i => (i.zero, i.size, i.bytes)) = some (some (.int .u8 0), 1, 1))
    {v : Value} {l ys : List Int} {A : Option Addr} {c : Nat} (hs : a.eval s = v) (hx : a.eval x = .slice A ys.length c)
    (HO : Rw B W v l) (HX : Kd.C B8 W A ys.length ys) (hB : B ≤ W.heap.size) (hl : l.length + ys.length ≤ 140737488355328)
    (h : ∀ v1 w1, Rw B w1 v1 (l ++ ys) → Grew B W w1 v → K (a.put o.dst v1) w1) :
    if Region.wanted o (yielded ops a.tmps) = true then Oper.wp P o a W K Q else K (a.put o.dst undef) W := by
  obtain ⟨i0, hi, hzz⟩ := Option.map_eq_some_iff.1 hinfo
  simp only [Prod.mk.injEq] at hzz
  obtain ⟨hz0, hz1, hz2⟩ := hzz
  rw [if_pos hw]
  cases A with
  | none =>
    obtain rfl := ys_none HX
    have hr := app_none (P := P) (w := W) B 22 o.type 5 i0 1 c ht hi v l.length (us8 l) HO
    unfold Oper.wp execOp
    simp only [List.length_nil] at hx
    simp only [ho, resolve, invoke, builtin, Sem.run_bind, Sem.run_pure, Result.andThen_ok, List.map_toArray, List.map_cons, List.map_nil, hs, hx, hr]
    exact h v W (by rw [List.append_nil]; exact HO) (Grew.refl _ _ _)
  | some ad =>
    obtain ⟨v1, w1, hr, hown, hgr, _, hat⟩ := run_append_own_at (P := P) W B 22 o.type 5 i0 (.int .u8 0) 1 1 ht hi hz0 hz1 hz2 rfl (by decide) v l.length (us8 l) HO ad ys.length c (us8 ys) (by simp)
      (fun j u hj => by
        have hjl : j < ys.length := by have := (List.getElem?_eq_some_iff.1 hj).1; simpa using this
        obtain ⟨ad', he, hc⟩ := Kd.at_int HX (j : Int) (by omega) (by omega)
        injection he with he
        subst he
        simp only [Int.toNat_natCast] at hc
        rw [hc, ← hj, rd_get hjl]
        simp [us8, List.getElem?_eq_getElem hjl]) (fun u hu => by obtain ⟨q, _, rfl⟩ := List.mem_map.1 hu; rfl) (by simp only [maxLen]; omega) (by omega) hB
    unfold Oper.wp execOp
    simp only [ho, resolve, invoke, builtin, Sem.run_bind, Sem.run_pure, Result.andThen_ok, List.map_toArray, List.map_cons, List.map_nil, hs, hx, hr]
    refine h v1 w1 ?_ (Grew.of hgr (fun k hk => own_base' HO hk))
    unfold Rw
    rw [List.length_append, show us8 (l ++ ys) = us8 l ++ us8 ys from List.map_append]
    exact hown
/-- append(s, c): one byte, its literal's row just made. -/
theorem rw_one (hw : Region.wanted o (yielded ops a.tmps) = true) (s x : Operand)
    (ho : o.op = .call { callee := .builtin .append, args := #[s, x], argTypes := #[22, 22] })
    (ht : P.underlying 22 = some (.slice 5)) (hinfo : (P.info? 5).map (fun i => (i.zero, i.size, i.bytes)) = some (some (.int .u8 0), 1, 1))
    {v : Value} {l : List Int} {y : Int} {g : Nat} {cs : Array Value} (hg : W.heap[g]? = some (.cells cs 5 (0, 0))) (hcs : cs = #[.int .u8 y]) (hs : a.eval s = v) (hx : a.eval x = .slice (some ⟨g, 0, none⟩) 1 1)
    (HO : Rw B W v l) (hB : B ≤ W.heap.size) (hl : l.length + 1 ≤ 140737488355328)
    (h : ∀ v1 w1, Rw B w1 v1 (l ++ [y]) → Grew B W w1 v → K (a.put o.dst v1) w1) :
    if Region.wanted o (yielded ops a.tmps) = true then Oper.wp P o a W K Q else K (a.put o.dst undef) W := by
  subst hcs
  refine rw_app hw s x ho ht hinfo (ys := [y]) (A := some ⟨g, 0, none⟩) (c := 1) hs hx HO ?_ hB (by simpa using hl) h
  refine ⟨rfl, by simp, fun _ => ⟨_, rfl, fun j p hj => ?_⟩⟩
  cases j with
  | zero =>
    simp only [List.getElem?_cons_zero, Option.some.injEq] at hj
    subst hj
    refine ⟨_, by rfl, rfl, fun i u hi => ?_⟩
    cases i with
    | zero => rw [base_add, blk_cell hg]; simpa using hi
    | succ i => simp at hi
  | succ j => simp at hj
end
/-- Parts being gathered; what they lead to is kept in blocks that Z tells. -/
def Rp (B : Nat) (Z : Nat → Prop) (W : World) (v : Value) (ps : List Pt) : Prop := ∃ cells, W.ownsRow B 50 5 v ps.length cells ∧ (kpF ps cells).P W Z
theorem Rp.new {B : Nat} {Z : Nat → Prop} {W : World} (hB : B ≤ W.heap.size) : Rp B Z (W.alloc (.cells #[] 50)) (.slice (some ⟨W.heap.size, 0, none⟩) 0 0) [] :=
  ⟨[], World.ownsRow_made W #[] 0 hB (Nat.zero_le _) rfl, rfl, fun j p h => by simp at h⟩
theorem Rp.below {B : Nat} {Z : Nat → Prop} {W W' : World} {v : Value} {ps : List Pt} (h : Rp B Z W v ps) (hb : Below W.heap.size W W') : Rp B Z W' v ps := by
  obtain ⟨cells, h1, h2⟩ := h
  exact ⟨cells, own_move h1 (fun k hk => hb.block k (own_lt h1 k hk)), (kpF ps cells).step h2 (fun k _ hl => hb.block k hl) (fun _ h => h)⟩
theorem Rp.form {B : Nat} {Z : Nat → Prop} {W : World} {v : Value} {ps : List Pt} (h : Rp B Z W v ps) : ∃ A c, v = .slice A ps.length c ∧ ps.length ≤ c := by
  obtain ⟨cells, h1, h2⟩ := h
  exact own_form h1
theorem Rp.out {B : Nat} {Z : Nat → Prop} {W : World} {v : Value} {ps : List Pt} (h : Rp B Z W v ps) : ∃ A c, v = .slice A ps.length c ∧ ps.length ≤ c ∧ Kd.C kP W A ps.length ps := by
  obtain ⟨cells, h1, h2⟩ := h
  exact rowP_C (own_weaken h1 (Nat.zero_le _)) h2
theorem list_ofL {α : Type} {P : Nat → α → Prop} (n : Nat) (h : ∀ i, i < n → ∃ x, P i x) : ∃ l : List α, l.length = n ∧ ∀ i x, l[i]? = some x → P i x := by
  refine ⟨List.ofFn fun i : Fin n => Classical.choose (h i.1 i.2), by simp, fun i x hx => ?_⟩
  rw [List.getElem?_ofFn] at hx
  split at hx
  · rename_i hi
    injection hx with hx
    rw [← hx]
    exact Classical.choose_spec (h i hi)
  · cases hx
theorem flat5 : ∀ (L : List (List Value)), (∀ c ∈ L, c.length = 5) → L.flatten.length = L.length * 5 ∧ ∀ (j : Nat) (c : List Value), L[j]? = some c → (L.flatten.drop (j * 5)).take 5 = c
  | [], _ => ⟨rfl, fun j c h => by simp at h⟩
  | a :: r, h => by
    have ha := h a List.mem_cons_self
    obtain ⟨h1, h2⟩ := flat5 r (fun c hc => h c (List.mem_cons_of_mem _ hc))
    refine ⟨by simp only [List.flatten_cons, List.length_append, List.length_cons, h1, ha]; omega, fun j c hj => ?_⟩
    cases j with
    | zero =>
      simp only [List.getElem?_cons_zero, Option.some.injEq] at hj
      subst hj
      simp [List.flatten_cons, ← ha]
    | succ j =>
      simp only [List.getElem?_cons_succ] at hj
      rw [List.flatten_cons, show (j + 1) * 5 = a.length + j * 5 by omega, List.drop_append]
      have := h2 j c hj
      rw [List.drop_of_length_le (by omega), List.nil_append, Nat.add_sub_cancel_left]
      exact this
theorem parts_cells {w : World} {ok : Nat → Prop} {ad : Addr} {ps : List Pt} (h : Kd.F kP w ok (some ad) ps.length ps) :
    ∃ cells, cells.length = ps.length * 5 ∧ (∀ j u, cells[j]? = some u → w.cell? (ad.add j) = some u) ∧ (kpF ps cells).P w ok ∧ ∀ u ∈ cells, u.oneCell' = true := by
  have hex : ∀ i, i < ps.length → ∃ cs : List Value, cs.length = 5 ∧ (∀ k u, cs[k]? = some u → w.cell? (ad.add (i * 5 + k)) = some u) ∧ (∀ p, ps[i]? = some p → Kd.FK kP w ok p cs) ∧ ∀ u ∈ cs, u.oneCell' = true := by
    intro i hi
    obtain ⟨ad', x, A1, c1, A2, c2, A3, c3, A4, c4, eA, hxi, _, hx0, hx1, hx2, hx3, hx4, g1, g2, g3, g4⟩ := at_Pt h (i : Int) (by omega) (by omega)
    injection eA with eA
    subst eA
    simp only [Int.toNat_natCast] at *
    refine ⟨[.bool x.region, .slice A1 x.text.length c1, .slice A2 x.s0.length c2, .slice A3 x.s1.length c3, .slice A4 x.s2.length c4], rfl, fun k u hk => ?_, fun p hp => ?_, by simp [Value.oneCell']⟩
    · rcases k with _ | _ | _ | _ | _ | k
      · simp only [List.getElem?_cons_zero, Option.some.injEq] at hk; subst hk; exact hx0
      · simp only [List.getElem?_cons_succ, List.getElem?_cons_zero, Option.some.injEq] at hk; subst hk; rw [add_field _ _ _ (by omega)]; exact hx1
      · simp only [List.getElem?_cons_succ, List.getElem?_cons_zero, Option.some.injEq] at hk; subst hk; rw [add_field _ _ _ (by omega)]; exact hx2
      · simp only [List.getElem?_cons_succ, List.getElem?_cons_zero, Option.some.injEq] at hk; subst hk; rw [add_field _ _ _ (by omega)]; exact hx3
      · simp only [List.getElem?_cons_succ, List.getElem?_cons_zero, Option.some.injEq] at hk; subst hk; rw [add_field _ _ _ (by omega)]; exact hx4
      · simp at hk
    · rw [hxi] at hp; injection hp with hp; subst hp
      exact kP_mkF w ok x g1 g2 g3 g4
  obtain ⟨L, hL, hLi⟩ := list_ofL ps.length hex
  have h5 : ∀ c ∈ L, c.length = 5 := fun c hc => by obtain ⟨j, hj⟩ := List.getElem?_of_mem hc; exact (hLi j c hj).1
  obtain ⟨f1, f2⟩ := flat5 L h5
  refine ⟨L.flatten, by rw [f1, hL], fun j u hj => ?_, ⟨by rw [f1, hL], fun j p hp => ?_⟩, fun u hu => ?_⟩
  · have hjl : j < L.length * 5 := by rw [← f1]; exact (List.getElem?_eq_some_iff.1 hj).1
    obtain ⟨c, hc⟩ : ∃ c, L[j / 5]? = some c := ⟨_, List.getElem?_eq_getElem (by omega)⟩
    have h3 := f2 _ c hc
    have h4 : c[j % 5]? = some u := by
      rw [← h3, List.getElem?_take, if_pos (by omega), List.getElem?_drop, show j / 5 * 5 + j % 5 = j by omega]
      exact hj
    have h6 := (hLi _ c hc).2.1 _ u h4
    rwa [show j / 5 * 5 + j % 5 = j by omega] at h6
  · obtain ⟨c, hc⟩ : ∃ c, L[j]? = some c := ⟨_, List.getElem?_eq_getElem (by rw [hL]; exact (List.getElem?_eq_some_iff.1 hp).1)⟩
    rw [f2 j c hc]
    exact (hLi j c hc).2.2.1 p hp
  · obtain ⟨c, hc, hu⟩ := List.mem_flatten.1 hu
    obtain ⟨j, hj⟩ := List.getElem?_of_mem hc
    exact (hLi j c hj).2.2.2 u hu
theorem kpF_app {ps qs : List Pt} {a b : List Value} {w : World} {Z : Nat → Prop} (h : (kpF ps a).P w Z) (k : (kpF qs b).P w Z) : (kpF (ps ++ qs) (a ++ b)).P w Z := by
  refine ⟨by simp [h.1, k.1, Nat.add_mul], fun j q hq => ?_⟩
  by_cases hj : j < ps.length
  · rw [List.getElem?_append_left hj] at hq
    have hle : j * 5 + 5 ≤ a.length := by have := h.1; omega
    rw [List.drop_append_of_le_length (by omega), List.take_append_of_le_length (by rw [List.length_drop]; omega)]
    exact h.2 j q hq
  · rw [List.getElem?_append_right (by omega)] at hq
    have := k.2 _ q hq
    rw [show j * 5 = a.length + (j - ps.length) * 5 by have := h.1; omega, List.drop_append, List.drop_of_length_le (by omega), List.nil_append, Nat.add_sub_cancel_left]
    exact this
section
variable {P : Program} {ops : Array Oper} {o : Oper} {a : Act} {Q : Exit → Act → World → Prop} {K : Act → World → Prop} {W : World} {B : Nat}
theorem rp_cells (hw : Region.wanted o (yielded ops a.tmps) = true) (s x : Operand)
    (ho : o.op = .call { callee := .builtin .append, args := #[s, x], argTypes := #[23, 23] })
    (ht : P.underlying 23 = some (.slice 50)) (hinfo : (P.info? 50).map (fun i => (i.zero, i.size, i.bytes)) = some (some (.agg (rawPt false).toArray), 5, 104))
    {Z : Nat → Prop} (hZ : ∀ k, Z k → k < B) {v : Value} {ps qs : List Pt} {news : List Value} {ad : Addr} {c : Nat} (hs : a.eval s = v) (hx : a.eval x = .slice (some ad) qs.length c)
    (HO : Rp B Z W v ps) (hn : news.length = qs.length * 5) (hc : ∀ j u, news[j]? = some u → W.cell? (ad.add j) = some u) (hk : (kpF qs news).P W Z) (h1 : ∀ u ∈ news, u.oneCell' = true) (hB : B ≤ W.heap.size) (hl : ps.length + qs.length ≤ 100000)
    (h : ∀ v1 w1, Rp B Z w1 v1 (ps ++ qs) → Grew B W w1 v → (v1.ownBlock = v.ownBlock ∨ v1.ownBlock = some W.heap.size) → K (a.put o.dst v1) w1) :
    if Region.wanted o (yielded ops a.tmps) = true then Oper.wp P o a W K Q else K (a.put o.dst undef) W := by
  obtain ⟨i0, hi, hzz⟩ := Option.map_eq_some_iff.1 hinfo
  simp only [Prod.mk.injEq] at hzz
  obtain ⟨hz0, hz1, hz2⟩ := hzz
  rw [if_pos hw]
  obtain ⟨cells, hO, hkc⟩ := HO
  obtain ⟨v1, w1, hr, hown, hgr, _, hat⟩ := run_append_own_at (P := P) W B 23 o.type 50 i0 (.agg (rawPt false).toArray) 5 104 ht hi hz0 hz1 hz2 (by rfl) (by decide) v ps.length cells hO ad qs.length c news hn hc h1 (by simp only [maxLen]; omega) (by omega) hB
  unfold Oper.wp execOp
  simp only [ho, resolve, invoke, builtin, Sem.run_bind, Sem.run_pure, Result.andThen_ok, List.map_toArray, List.map_cons, List.map_nil, hs, hx, hr]
  have hG := Grew.of hgr (fun k hk => own_base' hO hk)
  refine h v1 w1 ⟨cells ++ news, by rw [List.length_append]; exact hown, ?_⟩ hG hat
  exact (kpF (ps ++ qs) (cells ++ news)).step (kpF_app hkc hk) (fun k hz hl => hG.keep k hl (fun e => by have := own_base' hO e; have := hZ k hz; omega)) (fun _ h => h)
/-- append(s, x...), parts. -/
theorem rp_app (hw : Region.wanted o (yielded ops a.tmps) = true) (s x : Operand)
    (ho : o.op = .call { callee := .builtin .append, args := #[s, x], argTypes := #[23, 23] })
    (ht : P.underlying 23 = some (.slice 50)) (hinfo : (P.info? 50).map (fun i => (i.zero, i.size, i.bytes)) = some (some (.agg (rawPt false).toArray), 5, 104))
    {Z : Nat → Prop} (hZ : ∀ k, Z k → k < B) {v : Value} {ps qs : List Pt} {A : Option Addr} {c : Nat} (hs : a.eval s = v) (hx : a.eval x = .slice A qs.length c)
    (HO : Rp B Z W v ps) (HX : Kd.F kP W Z A qs.length qs) (hB : B ≤ W.heap.size) (hl : ps.length + qs.length ≤ 100000)
    (h : ∀ v1 w1, Rp B Z w1 v1 (ps ++ qs) → Grew B W w1 v → (v1.ownBlock = v.ownBlock ∨ v1.ownBlock = some W.heap.size) → K (a.put o.dst v1) w1) :
    if Region.wanted o (yielded ops a.tmps) = true then Oper.wp P o a W K Q else K (a.put o.dst undef) W := by
  cases A with
  | some ad =>
    obtain ⟨news, hn, hc, hk, h1⟩ := parts_cells HX
    exact rp_cells hw s x ho ht hinfo hZ hs hx HO hn hc hk h1 hB hl h
  | none =>
    obtain ⟨i0, hi, hzz⟩ := Option.map_eq_some_iff.1 hinfo
    have hq : qs = [] := by
      cases qs with
      | nil => rfl
      | cons y r => obtain ⟨a, ha, _⟩ := (Kd.F_now HX).2.2 (by simp); cases ha
    subst hq
    rw [if_pos hw]
    obtain ⟨cells, hO, hkc⟩ := HO
    have hr := app_none (P := P) (w := W) B 23 o.type 50 i0 5 c ht hi v ps.length cells hO
    unfold Oper.wp execOp
    simp only [List.length_nil] at hx
    simp only [ho, resolve, invoke, builtin, Sem.run_bind, Sem.run_pure, Result.andThen_ok, List.map_toArray, List.map_cons, List.map_nil, hs, hx, hr]
    exact h v W (by rw [List.append_nil]; exact ⟨cells, hO, hkc⟩) (Grew.refl _ _ _) (.inl rfl)
/-- append(s, p): one part, its literal's row just made. -/
theorem rp_one (hw : Region.wanted o (yielded ops a.tmps) = true) (s x : Operand)
    (ho : o.op = .call { callee := .builtin .append, args := #[s, x], argTypes := #[23, 23] })
    (ht : P.underlying 23 = some (.slice 50)) (hinfo : (P.info? 50).map (fun i => (i.zero, i.size, i.bytes)) = some (some (.agg (rawPt false).toArray), 5, 104))
    {Z : Nat → Prop} (hZ : ∀ k, Z k → k < B) {v : Value} {ps : List Pt} {p : Pt} {cs : List Value} {g : Nat} (hg : W.heap[g]? = some (.cells cs.toArray 50 (0, 0))) (hs : a.eval s = v) (hx : a.eval x = .slice (some ⟨g, 0, none⟩) 1 1)
    (HO : Rp B Z W v ps) (hn : cs.length = 5) (hk : Kd.FK kP W Z p cs) (h1 : ∀ u ∈ cs, u.oneCell' = true) (hB : B ≤ W.heap.size) (hl : ps.length + 1 ≤ 100000)
    (h : ∀ v1 w1, Rp B Z w1 v1 (ps ++ [p]) → Grew B W w1 v → (v1.ownBlock = v.ownBlock ∨ v1.ownBlock = some W.heap.size) → K (a.put o.dst v1) w1) :
    if Region.wanted o (yielded ops a.tmps) = true then Oper.wp P o a W K Q else K (a.put o.dst undef) W := by
  refine rp_cells hw s x ho ht hinfo hZ (qs := [p]) (news := cs) (ad := ⟨g, 0, none⟩) (c := 1) hs hx HO (by simpa using hn) (fun j u hj => ?_) ⟨by simpa using hn, fun j q hq => ?_⟩ h1 hB (by simpa using hl) h
  · rw [base_add]
    refine (blk_cell hg j).trans ?_
    simpa using hj
  · cases j with
    | zero =>
      simp only [List.getElem?_cons_zero, Option.some.injEq] at hq
      subst hq
      rw [Nat.zero_mul, List.drop_zero, List.take_of_length_le (by omega)]
      exact hk
    | succ j => simp at hq
end
theorem wpl {P : Program} {ops : Array Oper} {o : Oper} {rest : List Oper} {a : Act} {Q : Exit → Act → World → Prop} {W : World} (hgd : o.guard = none)
    (h : ∀ K : Act → World → Prop, (∀ a' w', wpList P ops Q rest a' w' → K a' w') → (if Region.wanted o (yielded ops a.tmps) = true then Oper.wp P o a W K Q else K (a.put o.dst undef) W)) : wpList P ops Q (o :: rest) a W := by
  refine wpList_plain hgd fun K hK => ?_
  have hw : Region.wanted o (yielded ops a.tmps) = true := by simp [Region.wanted, hgd]
  have := h K hK
  rwa [if_pos hw] at this
end Go.Proofs.YtnnnbeimehfiiaaDoor.Q

-- Written by a program of this session (wip/gen_read.py) for this claim; Lean checks it.
/-! mark.Read, walked. -/
set_option linter.unusedVariables false
set_option linter.unusedSimpArgs false
namespace Go.Proofs.YtnnnbeimehfiiaaDoor.Q
open Go Go.RowKit Go.Proofs.YtnnnbeimehfiiaaDoorW.PrintWords Go.Proofs.YtnnnbeimehfiiaaDoorW.PrintLast Go.Proofs.YtnnnbeimehfiiaaDoorW.PrintMore Go.Proofs.YtnnnbeimehfiiaaDoorW.SL
attribute [local go_sem] max2_int min2_int max_two min_two max_three min_three max_four min_four
def mread.T17 : Bool × List (List Nat × List Nat) := (true, [([], []), ([], []), ([], []), ([2], [2]), ([], []), ([], []), ([], []), ([6], [6]), ([4, 5], [4, 5]), ([8], [8]), ([9, 7], [7, 9]), ([10], [10]), ([], []), ([11, 12], [11, 12]), ([0, 1], [0, 1]), ([14], [14]), ([15, 3, 0, 1, 2, 3, 4, 5, 6, 7, 8, 9, 10, 11, 12, 13], [3, 15]), ([16, 13, 13, 0, 1, 2, 3, 4, 5, 6, 7, 8, 9, 10, 11, 12, 13], [13, 16])])
def mread.B17 : List Nat := [0, 0, 0, 4, 0, 0, 0, 64, 48, 304, 1008, 2032, 0, 8176, 3, 16387, 65535, 131071]
theorem mread.tab17 : rtab .any (opsOf Tryd.f9 17) = mread.T17 := by kernel_rfl
theorem mread.bits17 : waitsOk mread.T17.2 mread.B17 = true := by kernel_rfl
theorem inf50 : (Tryd.prog.info? 50).map (fun i => (i.zero, i.size, i.bytes)) = some (some (.agg #[.bool false, .slice none 0 0, .slice none 0 0, .slice none 0 0, .slice none 0 0]), 5, 104) := by kernel_rfl
set_option maxHeartbeats 16000000 in
set_option maxRecDepth 100000 in
theorem read_calls (n : Int) (A : Option Addr) (c : Nat) (b : List Int) (w : World) (hr : Kd.C B8 w A b.length b) (hc : b.length ≤ c) (hb : ∀ x ∈ b, byte x) (hlen : b.length ≤ 5000000) :
  Calls Tryd.prog 9 #[.int .i64 n, .slice A b.length c] w fun e w' => ∃ (A' : Option Addr) (c' : Nat), e = .returned (.tuple #[.slice A' (readOf n b).1.length c', .int .i64 (readOf n b).2]) ∧ (readOf n b).1.length ≤ c' ∧ Kd.C kP w' A' (readOf n b).1.length (readOf n b).1 ∧ Below w.heap.size w w' := by
 have HR := Aside0.mk hr; have HC := Aside0.mk hc; have HB := Aside0.mk hb; have HLEN := Aside0.mk hlen
 clear hr hc hb hlen
 by_cases hn : n ≥ 1 ∧ n ≤ 16777216
 · have hright : mark_right.f n = some true := by unfold mark_right.f; rw [if_pos hn.1]; simp [hn.2]
   obtain ⟨N, hN⟩ := Int.eq_ofNat_of_zero_le (by omega : 0 ≤ n)
   have hN1 : 1 ≤ N := by omega
   have hres : readOf n b = match rdAll N (linesOf b) ([], 0) with | some (ps, st) => if st = 0 then (ps, 0) else ([], 5) | none => ([], 5) := by
     unfold readOf; rw [if_pos hn, hN]; rfl
   obtain ⟨R, hR⟩ : ∃ R, readOf n b = R := ⟨_, rfl⟩
   rw [hR] at hres ⊢
   have HRES := Aside0.mk hres; have HRT := Aside0.mk hright
   clear hres hR hn hright
   subst hN
   obtain ⟨L, hL⟩ : ∃ L, linesOf b = L := ⟨_, rfl⟩
   rw [hL] at HRES
   have HLN := Aside0.mk (show L.length ≤ 5000000 by rw [← hL]; exact Nat.le_trans (linesOf_len b) HLEN.out)
   have HLX := Aside0.mk (show ∀ x ∈ L, x ≠ [] ∧ (∀ y ∈ x, byte y) ∧ x.length ≤ 5000000 by rw [← hL]; exact fun x hx => ⟨linesOf_ne b x hx, linesOf_all byte b x HB.out hx, Nat.le_trans (linesOf_mem b x hx) HLEN.out⟩)
   replace hL := Aside0.mk hL
   go_enter Tryd.func9, Tryd.ntmps9
   go_wp2_with (first | (go_at_call 24; refine (mark_right.calls _ true _ HRT.out).mono ?_; rintro e w1 ⟨rfl, hb1⟩; replace hb1 := drawn_below hb1) | (go_at_call 25; refine (split_calls A c b _ (Kd.C_below HR.out hb1) HC.out HB.out (by have := HLEN.out; omega)).mono ?_; rintro e w2 ⟨vl, rfl, hR, hb2⟩; rw [hL.out] at hR; obtain ⟨AL, cL, rfl, hrd⟩ := rd_R hR; replace hR := Aside0.mk hR))
   have hF0 : ∀ a ∈ [rdV kB AL cL L], a.P w2 (fun k => k < w2.heap.size) := by
     intro a ha; rw [List.mem_singleton] at ha; subst ha
     exact FA.step _ hrd (fun _ _ _ => rfl) (fun k hk => hk.2)
   have HS := Aside0.mk (RdI.start (Stt.start w2 hF0))
   have hB2 := Aside0.mk (hb1.trans (below_lo hb2 hb1.size))
   clear hF0 hrd hb1 hb2
   go_loopg [6, 7, 18] L.length (fun kq v6 v7 v18 w'' => ∃ (ps : List Pt) (ii sti : Int) (i : Nat), v18 = .int .i64 ii ∧ Aside0 (ii = (i : Int)) ∧ v7 = .int .i64 sti ∧ (sti = 0 ∨ sti = 1 ∨ sti = 2 ∨ sti = 3) ∧ i ≤ L.length ∧ kq = L.length - i ∧ Aside0 (rdAll N (L.take i) ([], 0) = some (ps, sti.toNat)) ∧ Aside0 (Sz ps i) ∧ Aside0 (RdI w2 [rdV kB AL cL L] ps v6 w''))
   case atStart => exact ⟨[], 0, 0, 0, rfl, ⟨rfl⟩, rfl, .inl rfl, Nat.zero_le _, rfl, ⟨rfl⟩, ⟨sz_nil⟩, HS⟩
   case round =>
    obtain ⟨ps, ii, sti, i, rfl, hii, rfl, hst, hi, hgk, hall, hsz, hI⟩ := hrel
    obtain ⟨wb, rfl⟩ : ∃ q, q = wr := ⟨_, rfl⟩
    by_cases hin : ii < (L.length : Int)
    · have p0 : 0 ≤ ii := by have := hii.out; omega
      obtain ⟨Z, hZ⟩ := hI.out.fr
      have hrd : (rdV kB AL cL L).P wb Z := hZ _ (by simp)
      obtain ⟨al, cs, eA, hcl, hFK, hcc, _⟩ := Kd.F_get hrd.2 [] ii p0 hin
      subst eA
      obtain ⟨x, hx⟩ : ∃ x, x = L.getD ii.toNat [] := ⟨_, rfl⟩
      rw [← hx] at hFK
      have hxi : L[i]? = some x := by
        rw [hx, hii.out]; have : i < L.length := by have := hii.out; omega
        simp [List.getD_eq_getElem?_getD, List.getElem?_eq_getElem this]
      have hxm := HLX.out x (List.mem_of_getElem? hxi)
      obtain ⟨AX, cX, rfl, hxc, hxC⟩ := Kd.FK_now hFK
      obtain ⟨ax, rfl, _⟩ := hxC.2.2 (by have := hxm.1; cases x with | nil => exact absurd rfl this | cons _ _ => simp)
      have hx0 : wb.cell? (al.add (ii.toNat * 1)) = some (.slice (some ax) x.length cX) := hcc 0 _ rfl
      have hx0' : wb.cell? (al.add ii.toNat) = some (.slice (some ax) x.length cX) := by simpa using hx0
      have HX := Aside0.mk (⟨hxi, hxm, hxc, hxC, hi, hgk⟩ : _ ∧ _ ∧ _ ∧ _ ∧ _ ∧ _)
      have HMK := Aside0.mk (markerOf_calls N hN1 (some ax) cX x wb hxC hxc hxm.2.1 (by have := hxm.2.2; omega))
      have hnext := Aside0.mk (rdAll_next hall.out hxi)
      have hsg := mkOf_cases hN1 x
      have hi5_ : i ≤ 5000000 := by have := HLN.out; omega
      obtain ⟨Ao, co, evo, hoc, _⟩ := hI.out.out
      obtain ⟨m, hm⟩ : ∃ m, m = ps.length := ⟨_, rfl⟩
      rw [← hm] at evo
      subst evo
      replace hm := Aside0.mk hm
      have hw1 : wrap64 (ii + 1) = ii + 1 := by have := hii.out; unfold wrap64; omega
      have hinb := eq_true hin
      have p0b := eq_true p0
      have hi5 : i ≤ 5000000 := by have := HLN.out; omega
      have hps5 := Aside0.mk (Nat.le_trans hsz.out.1 hi5)
      clear hZ hrd hcl hFK hcc hx hxi hxm hxc hxC hi hgk hoc
      obtain ⟨sg, hsgq⟩ : ∃ sg, mkOf N x = sg := ⟨_, rfl⟩
      rw [hsgq] at hsg HMK
      replace hsgq := Aside0.mk hsgq
      rcases hsg with rfl | hsg
      · rcases hst with rfl | rfl | rfl | rfl
        · skip
          have hx1_ : wb.cell? (al.add i) = some (.slice (some ax) x.length cX) := by have := hx0'; rwa [show ii.toNat = i by have := hii.out; omega] at this
          have HIX := Aside0.mk (hI.out.wider (rdV B8 (some ax) cX x) (fun Z hZ => row_kept (hZ _ List.mem_cons_self) HX.out.1 hx1_))
          clear hx1_
          obtain rfl | ⟨fr, ⟨rg, T, S0, S1, S2⟩, rfl⟩ := snoc_cases ps
          · obtain rfl : m = 0 := hm.out
            have hyes : rdStep N ([], 0) x = some ([] ++ [addF (nwPt false) x 0], 0) := by simp [rdStep, hsgq.out, addF]
            go_wp2_with (first | ((go_at_call 26; refine HMK.out.mono ?_; rintro e w3 ⟨rfl, hb3⟩); have hI3 := HIX.out.keep hb3) | ((with_reducible refine gate_builtin (b := .append) (xs := #[.tmp 44, .tmp 46]) rfl ?_); at_builtin; refine app_push rfl (.tmp 44) (.tmp 46) 104 rfl Tryd.underlying23 inf50 (by decide) hI3 hps5.out _ rfl false rfl rfl ?_; intro Ao2 co2 w4 hI4; obtain ⟨Zx, hZx⟩ := hI4.fr; have hxC4 := Kd.F_now (hZx (rdV B8 (some ax) cX x) (by simp)).2; obtain ⟨ad4, _, vk_, e1, hreg, hcell, hown, hstep⟩ := hI4.at0 0 (by decide) x; obtain ⟨ak_, ck_, rfl, _⟩ := own_form hown; injection e1 with e1 _ ec; subst e1 ec) | ((with_reducible refine gate_builtin (b := .append) (xs := #[.tmp 56, .tmp 57]) rfl ?_); at_builtin; refine app_spread rfl (.tmp 56) (.tmp 57) rfl Tryd.underlying22 inf5 _ _ _ x ax cX rfl rfl hown (hxC4) ?hl ?_; (case hl => simp [fld]; have := HX.out.2.1.2.2; omega); intro v5_ w5 ho5 hg5 hat5; obtain ⟨A5, c5, rfl, _⟩ := own_form ho5; obtain ⟨hk1, hk2, hI5⟩ := hstep w5 _ ho5 hg5 hat5))
            go_roundg (L.length - (i + 1))
            case rel => exact ⟨[] ++ [addF (nwPt false) x 0], wrap64 (ii + 1), 0, i + 1, by first | rfl | (simp; done) | (simp [hw1]; done), ⟨by rw [hw1]; have := hii.out; omega⟩, by first | rfl | (simp; done), by simp, by have := hii.out; omega, rfl, Aside0.mk (hnext.out.trans hyes), ⟨sz_app hsz.out false HX.out.2.1.2.2 0⟩, ⟨hI5.less⟩⟩
            case measure => have := hii.out; have := HX.out.2.2.2.2.2; omega
          · obtain rfl : m = fr.length + 1 := by rw [hm.out]; simp
            have hwj : wrap64 (fr.length : Int) = (fr.length : Int) := by have := hps5.out; simp at this; unfold wrap64; omega
            cases rg with
            | false =>
              have hyes : rdStep N (fr ++ [⟨false, T, S0, S1, S2⟩], 0) x = some (fr ++ [addF ⟨false, T, S0, S1, S2⟩ x 0], 0) := by simp [rdStep, hsgq.out, onLast_snoc, addF, addText]
              obtain ⟨ad, cap, vk, e1, hreg, hcell, hown, _⟩ := hI.out.at 0 (by decide) x
              obtain ⟨ak, ck, rfl, _⟩ := own_form hown
              injection e1 with eA _ ec
              subst eA ec
              have hreg0 := Aside0.mk hreg
              have hcell0 := Aside0.mk hcell
              clear hreg hcell hown
              go_wp2_with (first | ((go_at_call 26; refine HMK.out.mono ?_; rintro e w3 ⟨rfl, hb3⟩); have hI3 := hI.out.keep hb3; obtain ⟨_, _, vk_, e1, hreg, hcell, hown, hstep⟩ := hI3.at 0 (by decide) x; obtain ⟨ak_, ck_, rfl, _⟩ := own_form hown; injection e1 with e1 _ ec; injection e1 with e1; subst e1 ec) | ((with_reducible refine gate_builtin (b := .append) (xs := #[.tmp 56, .tmp 57]) rfl ?_); at_builtin; refine app_spread rfl (.tmp 56) (.tmp 57) rfl Tryd.underlying22 inf5 _ _ _ x ax cX rfl rfl hown (Kd.C_below HX.out.2.2.2.1 hb3) ?hl ?_; (case hl => have := sz_fld (hsz.out.2 _ (List.mem_append_right _ List.mem_cons_self)) 0; have := hi5; have := HX.out.2.1.2.2; simp only [fld] at *; omega); intro v5_ w5 ho5 hg5 hat5; obtain ⟨A5, c5, rfl, _⟩ := own_form ho5; obtain ⟨hk1, hk2, hI5⟩ := hstep w5 _ ho5 hg5 hat5))
              go_roundg (L.length - (i + 1))
              case rel => exact ⟨fr ++ [addF ⟨false, T, S0, S1, S2⟩ x 0], wrap64 (ii + 1), 0, i + 1, by first | rfl | (simp; done) | (simp [hw1]; done), ⟨by rw [hw1]; have := hii.out; omega⟩, by first | rfl | (simp; done), by simp, by have := hii.out; omega, rfl, Aside0.mk (hnext.out.trans hyes), ⟨sz_add hsz.out x HX.out.2.1.2.2 0⟩, ⟨hI5⟩⟩
              case measure => have := hii.out; have := HX.out.2.2.2.2.2; omega
            | true =>
              have hfl : (fr ++ [(⟨true, T, S0, S1, S2⟩ : Pt)]).length = fr.length + 1 := by simp
              have hwj1 : wrap64 ((fr.length : Int) + 1) = (fr.length : Int) + 1 := by have := hps5.out; simp at this; unfold wrap64; omega
              replace hfl := Aside0.mk hfl
              have hyes : rdStep N (fr ++ [⟨true, T, S0, S1, S2⟩], 0) x = some ((fr ++ [⟨true, T, S0, S1, S2⟩]) ++ [addF (nwPt false) x 0], 0) := by simp [rdStep, hsgq.out, addF]
              obtain ⟨ad, cap, vk, e1, hreg, hcell, hown, _⟩ := hI.out.at 0 (by decide) x
              obtain ⟨ak, ck, rfl, _⟩ := own_form hown
              injection e1 with eA _ ec
              subst eA ec
              have hreg0 := Aside0.mk hreg
              clear hreg hcell hown
              go_wp2_with (first | ((go_at_call 26; refine HMK.out.mono ?_; rintro e w3 ⟨rfl, hb3⟩); have hI3 := HIX.out.keep hb3; obtain ⟨_, _, vk_, e1, hreg, hcell, hown, hstep⟩ := hI3.at 0 (by decide) x; injection e1 with e1 _ ec; injection e1 with e1; subst e1 ec; clear hcell hown hstep) | ((with_reducible refine gate_builtin (b := .append) (xs := #[.tmp 44, .tmp 46]) rfl ?_); at_builtin; refine app_push rfl (.tmp 44) (.tmp 46) 104 rfl Tryd.underlying23 inf50 (by decide) hI3 hps5.out _ hfl.out false rfl rfl ?_; intro Ao2 co2 w4 hI4; obtain ⟨Zx, hZx⟩ := hI4.fr; have hxC4 := Kd.F_now (hZx (rdV B8 (some ax) cX x) (by simp)).2; obtain ⟨ad4, _, vk_, e1, hreg, hcell, hown, hstep⟩ := hI4.atj 0 (by decide) x hfl.out; obtain ⟨ak_, ck_, rfl, _⟩ := own_form hown; injection e1 with e1 _ ec; subst e1 ec) | ((with_reducible refine gate_builtin (b := .append) (xs := #[.tmp 56, .tmp 57]) rfl ?_); at_builtin; refine app_spread rfl (.tmp 56) (.tmp 57) rfl Tryd.underlying22 inf5 _ _ _ x ax cX rfl rfl hown (hxC4) ?hl ?_; (case hl => simp [fld]; have := HX.out.2.1.2.2; omega); intro v5_ w5 ho5 hg5 hat5; obtain ⟨A5, c5, rfl, _⟩ := own_form ho5; obtain ⟨hk1, hk2, hI5⟩ := hstep w5 _ ho5 hg5 hat5))
              go_roundg (L.length - (i + 1))
              case rel => exact ⟨_, wrap64 (ii + 1), 0, i + 1, by first | rfl | (simp; done) | (simp [hw1]; done), ⟨by rw [hw1]; have := hii.out; omega⟩, by first | rfl | (simp; done), by simp, by have := hii.out; omega, rfl, Aside0.mk (hnext.out.trans hyes), ⟨sz_app hsz.out false HX.out.2.1.2.2 0⟩, ⟨hI5.less⟩⟩
              case measure => have := hii.out; have := HX.out.2.2.2.2.2; omega
        · skip
          have hpn : ps ≠ [] := rdAll_ne hall.out (fun h => absurd rfl h) (by simp)
          obtain rfl | ⟨fr, p, rfl⟩ := snoc_cases ps
          · exact absurd rfl hpn
          clear hpn
          obtain rfl : m = fr.length + 1 := by rw [hm.out]; simp
          have hwj : wrap64 (fr.length : Int) = (fr.length : Int) := by have := hps5.out; simp at this; unfold wrap64; omega
          have hyes : rdStep N (fr ++ [p], 1) x = some (fr ++ [addF p x 1], 1) := by simp [rdStep, hsgq.out, onLast_snoc, addF, addSide]
          replace hyes := Aside0.mk hyes
          obtain ⟨ad, cap, vk, e1, _, _, _, _⟩ := hI.out.at 1 (by decide) x
          injection e1 with eA _ ec
          subst eA ec
          have hq0 : wrap64 0 = 0 := by unfold wrap64; omega
          have hjj := eq_true (show (fr.length : Int) < (fr.length : Int) + 1 by omega)
          go_wp2_with ((go_at_call 26; refine HMK.out.mono ?_; rintro e w3 ⟨rfl, hb3⟩))
          have hIw := hI.out.keep (below_drew1 hb3)
          have hXw := Kd.C_below HX.out.2.2.2.1 (below_drew1 hb3)
          obtain ⟨_, _, vk, e1, _, hcell, hown, hstep⟩ := hIw.at 1 (by decide) x
          obtain ⟨ak, ck, rfl, _⟩ := own_form hown
          injection e1 with e1 _ ec
          injection e1 with e1
          subst e1 ec
          have hln : (fld p 1).length + x.length ≤ 140737488355328 := by
            have := sz_fld (hsz.out.2 p (List.mem_append_right _ List.mem_cons_self)) 1
            have := hi5; have := HX.out.2.1.2.2; omega
          replace hln := Aside0.mk hln
          have hst_ : ∀ w1 v1, P1 w3.drew (.slice ak (fld p 1).length ck) (fld p 1) x v1 w1 → _ := fun w1 v1 h => hstep w1 v1 h.1 h.2.1 h.2.2
          replace hst_ := Aside0.mk hst_
          replace hown := Aside0.mk hown
          replace hXw := Aside0.mk hXw
          clear hstep hIw
          have E0 := trivial
          refine start_ (n := 18) (S := fun w' => True) (ds := []) #[false, false, false, false, false, false, false, false, false, false, false, false, false, false, false, false, false, false] (by kernel_rfl) rfl rfl trivial (fun hHeld => ?_)
          refine with_tabW mread.tab17 mread.bits17 (fun HT_ HW_ => ?_)
          generalize w3.drew = wd at hcell hown hst_ hXw hHeld ⊢
          refine pure_ (i := 0) (N := some 64) (v := ?_) (a' := ?_) #[true, false, false, false, false, false, false, false, false, false, false, false, false, false, false, false, false, false] rfl rfl (any_of HT_.out (by kernel_rfl)) (fun _ _ _ h => h) (Or.inl ⟨by rfl, ?_⟩) ?_ ?_
          rotate_left
          · intro w'
            go_simp
            with_reducible rfl
          rotate_left
          · simp only [Act.put, List.setIfInBounds_toArray, List.set_cons_zero, List.set_cons_succ, i64_w, i32_w]
            rfl
          refine pure_ (i := 1) (N := some 65) (v := ?_) (a' := ?_) #[true, true, false, false, false, false, false, false, false, false, false, false, false, false, false, false, false, false] rfl rfl (any_of HT_.out (by kernel_rfl)) (fun _ _ _ h => h) (Or.inl ⟨by rfl, ?_⟩) ?_ ?_
          rotate_left
          · intro w'
            go_simp
            with_reducible rfl
          rotate_left
          · simp only [Act.put, List.setIfInBounds_toArray, List.set_cons_zero, List.set_cons_succ, i64_w, i32_w]
            rfl
          refine pure_ (i := 2) (N := some 66) (v := ?_) (a' := ?_) #[true, true, true, false, false, false, false, false, false, false, false, false, false, false, false, false, false, false] rfl rfl (any_of HT_.out (by kernel_rfl)) (fun _ _ _ h => h) (Or.inl ⟨by rfl, ?_⟩) ?_ ?_
          rotate_left
          · intro w'
            go_simp
            with_reducible rfl
          rotate_left
          · simp only [Act.put, List.setIfInBounds_toArray, List.set_cons_zero, List.set_cons_succ, i64_w, i32_w]
            rfl
          refine pure_ (i := 3) (N := some 67) (v := ?_) (a' := ?_) #[true, true, true, true, false, false, false, false, false, false, false, false, false, false, false, false, false, false] rfl rfl (any_of HT_.out (by kernel_rfl)) (fun _ _ _ h => h) (Or.inl ⟨by rfl, ?_⟩) ?_ ?_
          rotate_left
          · intro w'
            go_simp
            with_reducible rfl
          rotate_left
          · simp only [Act.put, List.setIfInBounds_toArray, List.set_cons_zero, List.set_cons_succ, i64_w, i32_w]
            rfl
          refine pure_ (i := 4) (N := some 68) (v := ?_) (a' := ?_) #[true, true, true, true, true, false, false, false, false, false, false, false, false, false, false, false, false, false] rfl rfl (any_of HT_.out (by kernel_rfl)) (fun _ _ _ h => h) (Or.inl ⟨by rfl, ?_⟩) ?_ ?_
          rotate_left
          · intro w'
            go_simp
            with_reducible rfl
          rotate_left
          · simp only [Act.put, List.setIfInBounds_toArray, List.set_cons_zero, List.set_cons_succ, i64_w, i32_w]
            rfl
          refine pure_ (i := 5) (N := some 69) (v := ?_) (a' := ?_) #[true, true, true, true, true, true, false, false, false, false, false, false, false, false, false, false, false, false] rfl rfl (any_of HT_.out (by kernel_rfl)) (fun _ _ _ h => h) (Or.inl ⟨by rfl, ?_⟩) ?_ ?_
          rotate_left
          · intro w'
            go_simp
            with_reducible rfl
          rotate_left
          · simp only [Act.put, List.setIfInBounds_toArray, List.set_cons_zero, List.set_cons_succ, i64_w, i32_w]
            rfl
          refine pure_ (i := 6) (N := some 70) (v := ?_) (a' := ?_) #[true, true, true, true, true, true, true, false, false, false, false, false, false, false, false, false, false, false] rfl rfl (any_of HT_.out (by kernel_rfl)) (fun _ _ _ h => h) (Or.inl ⟨by rfl, ?_⟩) ?_ ?_
          rotate_left
          · intro w'
            go_simp
            with_reducible rfl
          rotate_left
          · simp only [Act.put, List.setIfInBounds_toArray, List.set_cons_zero, List.set_cons_succ, i64_w, i32_w]
            rfl
          refine pure_ (i := 7) (N := some 71) (v := ?_) (a' := ?_) #[true, true, true, true, true, true, true, true, false, false, false, false, false, false, false, false, false, false] rfl rfl (any_of HT_.out (by kernel_rfl)) (fun _ _ _ h => h) (Or.inl ⟨by rfl, ?_⟩) ?_ ?_
          rotate_left
          · intro w'
            go_simp
            with_reducible rfl
          rotate_left
          · simp only [Act.put, List.setIfInBounds_toArray, List.set_cons_zero, List.set_cons_succ, i64_w, i32_w]
            rfl
          refine pure_ (i := 8) (N := some 72) (v := ?_) (a' := ?_) #[true, true, true, true, true, true, true, true, true, false, false, false, false, false, false, false, false, false] rfl rfl (any_of HT_.out (by kernel_rfl)) (fun _ _ _ h => h) (Or.inl ⟨by rfl, ?_⟩) ?_ ?_
          rotate_left
          · intro w'
            go_simp
            with_reducible rfl
          rotate_left
          · simp only [Act.put, List.setIfInBounds_toArray, List.set_cons_zero, List.set_cons_succ, i64_w, i32_w]
            rfl
          refine pure_ (i := 9) (N := some 73) (v := ?_) (a' := ?_) #[true, true, true, true, true, true, true, true, true, true, false, false, false, false, false, false, false, false] rfl rfl (any_of HT_.out (by kernel_rfl)) (fun _ _ _ h => h) (Or.inl ⟨by rfl, ?_⟩) ?_ ?_
          rotate_left
          · intro w'
            go_simp
            with_reducible rfl
          rotate_left
          · simp only [Act.put, List.setIfInBounds_toArray, List.set_cons_zero, List.set_cons_succ, i64_w, i32_w]
            rfl
          refine pure_ (i := 10) (N := some 74) (v := ?_) (a' := ?_) #[true, true, true, true, true, true, true, true, true, true, true, false, false, false, false, false, false, false] rfl rfl (any_of HT_.out (by kernel_rfl)) (fun _ _ _ h => h) (Or.inl ⟨by rfl, ?_⟩) ?_ ?_
          rotate_left
          · intro w'
            go_simp
            with_reducible rfl
          rotate_left
          · simp only [Act.put, List.setIfInBounds_toArray, List.set_cons_zero, List.set_cons_succ, i64_w, i32_w]
            rfl
          refine pure_ (i := 12) (N := some 76) (v := ?_) (a' := ?_) #[true, true, true, true, true, true, true, true, true, true, true, false, true, false, false, false, false, false] rfl rfl (any_of HT_.out (by kernel_rfl)) (fun _ _ _ h => h) (Or.inl ⟨by rfl, ?_⟩) ?_ ?_
          rotate_left
          · intro w'
            go_simp
            with_reducible rfl
          rotate_left
          · simp only [Act.put, List.setIfInBounds_toArray, List.set_cons_zero, List.set_cons_succ, i64_w, i32_w]
            rfl
          refine pure_ (i := 14) (N := some 78) (v := ?_) (a' := ?_) #[true, true, true, true, true, true, true, true, true, true, true, false, true, false, true, false, false, false] rfl rfl (any_of HT_.out (by kernel_rfl)) (fun _ _ _ h => h) (Or.inl ⟨by rfl, ?_⟩) ?_ ?_
          rotate_left
          · intro w'
            go_simp
            with_reducible rfl
          rotate_left
          · simp only [Act.put, List.setIfInBounds_toArray, List.set_cons_zero, List.set_cons_succ, i64_w, i32_w]
            rfl
          refine pure_ (i := 15) (N := some 79) (v := ?_) (a' := ?_) #[true, true, true, true, true, true, true, true, true, true, true, false, true, false, true, true, false, false] rfl rfl (any_of HT_.out (by kernel_rfl)) (fun _ _ _ h => h) (Or.inl ⟨by rfl, ?_⟩) ?_ ?_
          rotate_left
          · intro w'
            go_simp
            with_reducible rfl
          rotate_left
          · simp only [Act.put, List.setIfInBounds_toArray, List.set_cons_zero, List.set_cons_succ, i64_w, i32_w]
            rfl
          refine inv_at [11, 13, 16, 17] (fun a0_ b a w' => ∃ (vv : Value), a = putSel a0_ b [(11, 75, .slice ak (fld p 1).length ck), (13, 77, vv), (16, 80, .pointer (some ⟨(ad.add (fr.length * 5)).block, (ad.add (fr.length * 5)).off + 2, none⟩))] ∧ (b 13 = false → w' = wd) ∧ (b 13 = true → b 17 = false → P1 wd (.slice ak (fld p 1).length ck) (fld p 1) x vv w') ∧ (b 17 = true → P2 wd (.slice ak (fld p 1).length ck) (fld p 1) x ⟨(ad.add (fr.length * 5)).block, (ad.add (fr.length * 5)).off + 2, none⟩ vv w')) HT_.out HW_.out (by kernel_rfl) (by kernel_rfl) ?_ ?_ ?_
          · exact ⟨.bool false, by simp only [putSel, Bool.false_eq_true, if_false], fun _ => rfl, fun h_ => absurd h_ (by decide), fun h_ => absurd h_ (by decide)⟩
          · skip
            clear E0
            refine steps_cons ?_ ?_
            · rintro b a w' ⟨vv, ha, Q_E0, Q_E1, Q_E2⟩ hb_ hon hoff
              refine ⟨_, rfl, fun K hK => ?_⟩
              have e74 : a.tmps[74]? = some (.pointer (some ⟨(ad.add (fr.length * 5)).block, (ad.add (fr.length * 5)).off + 2, none⟩)) := by rw [ha]; exact (putSel_off rfl).trans rfl
              replace ha := Aside0.mk ha
              have E0 := Aside0.mk (Q_E0 (hoff 13 (by kernel_rfl)))
              have hw_ := E0.out
              have hc_ := hcell
              rw [← hw_] at hc_
              refine value_ (w1 := w') (v := .slice ak (fld p 1).length ck) (by rfl) rfl ?_ ?_
              · go_simp
                (try simp only [i64_w])
                try rfl
              refine hK.out _ _ ⟨vv, (by rw [ha.out]; exact putSel_upk 0 hb_ rfl rfl rfl), Q_E0, fun h0_ _ => absurd ((hoff 13 (by kernel_rfl)).symm.trans h0_) (by decide), fun h0_ => absurd ((hoff 17 (by kernel_rfl)).symm.trans h0_) (by decide)⟩
            refine steps_cons ?_ ?_
            · rintro b a w' ⟨vv, ha, Q_E0, Q_E1, Q_E2⟩ hb_ hon hoff
              refine ⟨_, rfl, fun K hK => ?_⟩
              have e75 : a.tmps[75]? = some (.slice ak (fld p 1).length ck) := by rw [ha]; exact putSel_on (e := (11, 75, .slice ak (fld p 1).length ck)) 0 rfl rfl (hon 11 (by kernel_rfl)) rfl
              have e76 : a.tmps[76]? = some (.slice (some ax) x.length cX) := by rw [ha]; exact (putSel_off rfl).trans rfl
              replace ha := Aside0.mk ha
              have E0 := Aside0.mk (Q_E0 hb_)
              have hw_ := E0.out
              refine app_spread_step (by rfl) (.tmp 75) (.tmp 76) rfl Tryd.underlying22 inf5 (.slice ak (fld p 1).length ck) _ (us8 (fld p 1)) x ax cX (eval_of e75) (eval_of e76) (hw_ ▸ hown.out) (hw_ ▸ hXw.out) hln.out ?_
              intro v1 w1 ho hg hat
              have S3_ : P1 wd (.slice ak (fld p 1).length ck) (fld p 1) x v1 w1 := ⟨ho, hw_ ▸ hg, hw_ ▸ hat⟩
              refine hK.out _ _ ⟨v1, (by rw [ha.out]; exact putSel_upk 1 hb_ rfl rfl rfl), fun h0_ => absurd ((up_self b 13).symm.trans h0_) (by decide), fun _ _ => S3_, fun h0_ => absurd ((hoff 17 (by kernel_rfl)).symm.trans h0_) (by decide)⟩
            refine steps_cons ?_ ?_
            · rintro b a w' ⟨vv, ha, Q_E0, Q_E1, Q_E2⟩ hb_ hon hoff
              refine ⟨_, rfl, fun K hK => ?_⟩
              have e79 : a.tmps[79]? = some (.pointer (some ⟨(ad.add (fr.length * 5)).block, (ad.add (fr.length * 5)).off + 2, none⟩)) := by rw [ha]; exact (putSel_off rfl).trans rfl
              have e67 : a.tmps[67]? = some (.int .i64 (wrap64 0)) := by rw [ha]; exact (putSel_off rfl).trans rfl
              replace ha := Aside0.mk ha
              have E1 := Aside0.mk (Q_E1 (hon 13 (by kernel_rfl)) (hoff 17 (by kernel_rfl)))
              refine value_ (w1 := w') (v := .pointer (some ⟨(ad.add (fr.length * 5)).block, (ad.add (fr.length * 5)).off + 2, none⟩)) (by rfl) rfl ?_ ?_
              · go_simp
                (try simp only [i64_w])
                try rfl
              refine hK.out _ _ ⟨vv, (by rw [ha.out]; exact putSel_upk 2 hb_ rfl rfl rfl), fun h0_ => absurd ((hon 13 (by kernel_rfl)).symm.trans h0_) (by decide), Q_E1, fun h0_ => absurd ((hoff 17 (by kernel_rfl)).symm.trans h0_) (by decide)⟩
            refine steps_cons ?_ ?_
            · rintro b a w' ⟨vv, ha, Q_E0, Q_E1, Q_E2⟩ hb_ hon hoff
              refine ⟨_, rfl, fun K hK => ?_⟩
              have e80 : a.tmps[80]? = some (.pointer (some ⟨(ad.add (fr.length * 5)).block, (ad.add (fr.length * 5)).off + 2, none⟩)) := by rw [ha]; exact putSel_on (e := (16, 80, .pointer (some ⟨(ad.add (fr.length * 5)).block, (ad.add (fr.length * 5)).off + 2, none⟩))) 2 rfl rfl (hon 16 (by kernel_rfl)) rfl
              have e77 : a.tmps[77]? = some (vv) := by rw [ha]; exact putSel_on (e := (13, 77, vv)) 1 rfl rfl (hon 13 (by kernel_rfl)) rfl
              replace ha := Aside0.mk ha
              have E1 := Aside0.mk (Q_E1 (hon 13 (by kernel_rfl)) hb_)
              obtain ⟨A_, c_, en_⟩ := E1.out.form
              obtain ⟨hc_, hf_, _⟩ := hst_.out w' vv E1.out
              refine skip_ (w1 := w'.setCell ⟨(ad.add (fr.length * 5)).block, (ad.add (fr.length * 5)).off + 2, none⟩ vv) (by rfl) rfl ?_ ?_
              · rw [en_] at e77 ⊢
                go_simp
                try rfl
              have S3_ := E1.out
              refine hK.out _ _ ⟨vv, (by rw [ha.out]; exact putSel_none (v := undef) rfl), fun h0_ => absurd ((hon 13 (by kernel_rfl)).symm.trans h0_) (by decide), fun _ h1_ => absurd ((up_self b 17).symm.trans h1_) (by decide), fun _ => ⟨w', S3_, rfl⟩⟩
            exact steps_nil
          · rintro b a w' hall ⟨vv, ha, Q_E0, Q_E1, Q_E2⟩
            clear E0
            have hb11_ := hall 11 (by kernel_rfl)
            have hb13_ := hall 13 (by kernel_rfl)
            have hb16_ := hall 16 (by kernel_rfl)
            have hb17_ := hall 17 (by kernel_rfl)
            subst ha
            simp only [putSel, hb11_, hb13_, hb16_, hb17_, if_true, Act.put, List.setIfInBounds_toArray, List.set_cons_zero, List.set_cons_succ]
            clear Q_E0
            clear Q_E1
            have E2 := Aside0.mk (Q_E2 hb17_)
            clear Q_E2
            clear hall hb11_ hb13_ hb16_ hb17_
            obtain ⟨w1_, h1_, rfl⟩ := E2.out
            obtain ⟨_, _, hI5⟩ := hst_.out w1_ vv h1_
            go_wp2
            go_roundg (L.length - (i + 1))
            case rel => exact ⟨_, wrap64 (ii + 1), 1, i + 1, by first | rfl | (simp; done) | (simp [hw1]; done), ⟨by rw [hw1]; have := hii.out; omega⟩, by first | rfl | (simp; done), by simp, by have := hii.out; omega, rfl, Aside0.mk (hnext.out.trans hyes.out), ⟨sz_add hsz.out x HX.out.2.1.2.2 1⟩, ⟨hI5⟩⟩
            case measure => have := hii.out; have := HX.out.2.2.2.2.2; omega
        · skip
          have hpn : ps ≠ [] := rdAll_ne hall.out (fun h => absurd rfl h) (by simp)
          obtain rfl | ⟨fr, p, rfl⟩ := snoc_cases ps
          · exact absurd rfl hpn
          clear hpn
          obtain rfl : m = fr.length + 1 := by rw [hm.out]; simp
          have hwj : wrap64 (fr.length : Int) = (fr.length : Int) := by have := hps5.out; simp at this; unfold wrap64; omega
          have hyes : rdStep N (fr ++ [p], 2) x = some (fr ++ [addF p x 2], 2) := by simp [rdStep, hsgq.out, onLast_snoc, addF, addSide]
          replace hyes := Aside0.mk hyes
          obtain ⟨ad, cap, vk, e1, _, _, _, _⟩ := hI.out.at 2 (by decide) x
          injection e1 with eA _ ec
          subst eA ec
          have hq0 : wrap64 1 = 1 := by unfold wrap64; omega
          have hjj := eq_true (show (fr.length : Int) < (fr.length : Int) + 1 by omega)
          go_wp2_with ((go_at_call 26; refine HMK.out.mono ?_; rintro e w3 ⟨rfl, hb3⟩))
          have hIw := hI.out.keep (below_drew1 hb3)
          have hXw := Kd.C_below HX.out.2.2.2.1 (below_drew1 hb3)
          obtain ⟨_, _, vk, e1, _, hcell, hown, hstep⟩ := hIw.at 2 (by decide) x
          obtain ⟨ak, ck, rfl, _⟩ := own_form hown
          injection e1 with e1 _ ec
          injection e1 with e1
          subst e1 ec
          have hln : (fld p 2).length + x.length ≤ 140737488355328 := by
            have := sz_fld (hsz.out.2 p (List.mem_append_right _ List.mem_cons_self)) 2
            have := hi5; have := HX.out.2.1.2.2; omega
          replace hln := Aside0.mk hln
          have hst_ : ∀ w1 v1, P1 w3.drew (.slice ak (fld p 2).length ck) (fld p 2) x v1 w1 → _ := fun w1 v1 h => hstep w1 v1 h.1 h.2.1 h.2.2
          replace hst_ := Aside0.mk hst_
          replace hown := Aside0.mk hown
          replace hXw := Aside0.mk hXw
          clear hstep hIw
          have E0 := trivial
          refine start_ (n := 18) (S := fun w' => True) (ds := []) #[false, false, false, false, false, false, false, false, false, false, false, false, false, false, false, false, false, false] (by kernel_rfl) rfl rfl trivial (fun hHeld => ?_)
          refine with_tabW mread.tab17 mread.bits17 (fun HT_ HW_ => ?_)
          generalize w3.drew = wd at hcell hown hst_ hXw hHeld ⊢
          refine pure_ (i := 0) (N := some 64) (v := ?_) (a' := ?_) #[true, false, false, false, false, false, false, false, false, false, false, false, false, false, false, false, false, false] rfl rfl (any_of HT_.out (by kernel_rfl)) (fun _ _ _ h => h) (Or.inl ⟨by rfl, ?_⟩) ?_ ?_
          rotate_left
          · intro w'
            go_simp
            with_reducible rfl
          rotate_left
          · simp only [Act.put, List.setIfInBounds_toArray, List.set_cons_zero, List.set_cons_succ, i64_w, i32_w]
            rfl
          refine pure_ (i := 1) (N := some 65) (v := ?_) (a' := ?_) #[true, true, false, false, false, false, false, false, false, false, false, false, false, false, false, false, false, false] rfl rfl (any_of HT_.out (by kernel_rfl)) (fun _ _ _ h => h) (Or.inl ⟨by rfl, ?_⟩) ?_ ?_
          rotate_left
          · intro w'
            go_simp
            with_reducible rfl
          rotate_left
          · simp only [Act.put, List.setIfInBounds_toArray, List.set_cons_zero, List.set_cons_succ, i64_w, i32_w]
            rfl
          refine pure_ (i := 2) (N := some 66) (v := ?_) (a' := ?_) #[true, true, true, false, false, false, false, false, false, false, false, false, false, false, false, false, false, false] rfl rfl (any_of HT_.out (by kernel_rfl)) (fun _ _ _ h => h) (Or.inl ⟨by rfl, ?_⟩) ?_ ?_
          rotate_left
          · intro w'
            go_simp
            with_reducible rfl
          rotate_left
          · simp only [Act.put, List.setIfInBounds_toArray, List.set_cons_zero, List.set_cons_succ, i64_w, i32_w]
            rfl
          refine pure_ (i := 3) (N := some 67) (v := ?_) (a' := ?_) #[true, true, true, true, false, false, false, false, false, false, false, false, false, false, false, false, false, false] rfl rfl (any_of HT_.out (by kernel_rfl)) (fun _ _ _ h => h) (Or.inl ⟨by rfl, ?_⟩) ?_ ?_
          rotate_left
          · intro w'
            go_simp
            with_reducible rfl
          rotate_left
          · simp only [Act.put, List.setIfInBounds_toArray, List.set_cons_zero, List.set_cons_succ, i64_w, i32_w]
            rfl
          refine pure_ (i := 4) (N := some 68) (v := ?_) (a' := ?_) #[true, true, true, true, true, false, false, false, false, false, false, false, false, false, false, false, false, false] rfl rfl (any_of HT_.out (by kernel_rfl)) (fun _ _ _ h => h) (Or.inl ⟨by rfl, ?_⟩) ?_ ?_
          rotate_left
          · intro w'
            go_simp
            with_reducible rfl
          rotate_left
          · simp only [Act.put, List.setIfInBounds_toArray, List.set_cons_zero, List.set_cons_succ, i64_w, i32_w]
            rfl
          refine pure_ (i := 5) (N := some 69) (v := ?_) (a' := ?_) #[true, true, true, true, true, true, false, false, false, false, false, false, false, false, false, false, false, false] rfl rfl (any_of HT_.out (by kernel_rfl)) (fun _ _ _ h => h) (Or.inl ⟨by rfl, ?_⟩) ?_ ?_
          rotate_left
          · intro w'
            go_simp
            with_reducible rfl
          rotate_left
          · simp only [Act.put, List.setIfInBounds_toArray, List.set_cons_zero, List.set_cons_succ, i64_w, i32_w]
            rfl
          refine pure_ (i := 6) (N := some 70) (v := ?_) (a' := ?_) #[true, true, true, true, true, true, true, false, false, false, false, false, false, false, false, false, false, false] rfl rfl (any_of HT_.out (by kernel_rfl)) (fun _ _ _ h => h) (Or.inl ⟨by rfl, ?_⟩) ?_ ?_
          rotate_left
          · intro w'
            go_simp
            with_reducible rfl
          rotate_left
          · simp only [Act.put, List.setIfInBounds_toArray, List.set_cons_zero, List.set_cons_succ, i64_w, i32_w]
            rfl
          refine pure_ (i := 7) (N := some 71) (v := ?_) (a' := ?_) #[true, true, true, true, true, true, true, true, false, false, false, false, false, false, false, false, false, false] rfl rfl (any_of HT_.out (by kernel_rfl)) (fun _ _ _ h => h) (Or.inl ⟨by rfl, ?_⟩) ?_ ?_
          rotate_left
          · intro w'
            go_simp
            with_reducible rfl
          rotate_left
          · simp only [Act.put, List.setIfInBounds_toArray, List.set_cons_zero, List.set_cons_succ, i64_w, i32_w]
            rfl
          refine pure_ (i := 8) (N := some 72) (v := ?_) (a' := ?_) #[true, true, true, true, true, true, true, true, true, false, false, false, false, false, false, false, false, false] rfl rfl (any_of HT_.out (by kernel_rfl)) (fun _ _ _ h => h) (Or.inl ⟨by rfl, ?_⟩) ?_ ?_
          rotate_left
          · intro w'
            go_simp
            with_reducible rfl
          rotate_left
          · simp only [Act.put, List.setIfInBounds_toArray, List.set_cons_zero, List.set_cons_succ, i64_w, i32_w]
            rfl
          refine pure_ (i := 9) (N := some 73) (v := ?_) (a' := ?_) #[true, true, true, true, true, true, true, true, true, true, false, false, false, false, false, false, false, false] rfl rfl (any_of HT_.out (by kernel_rfl)) (fun _ _ _ h => h) (Or.inl ⟨by rfl, ?_⟩) ?_ ?_
          rotate_left
          · intro w'
            go_simp
            with_reducible rfl
          rotate_left
          · simp only [Act.put, List.setIfInBounds_toArray, List.set_cons_zero, List.set_cons_succ, i64_w, i32_w]
            rfl
          refine pure_ (i := 10) (N := some 74) (v := ?_) (a' := ?_) #[true, true, true, true, true, true, true, true, true, true, true, false, false, false, false, false, false, false] rfl rfl (any_of HT_.out (by kernel_rfl)) (fun _ _ _ h => h) (Or.inl ⟨by rfl, ?_⟩) ?_ ?_
          rotate_left
          · intro w'
            go_simp
            with_reducible rfl
          rotate_left
          · simp only [Act.put, List.setIfInBounds_toArray, List.set_cons_zero, List.set_cons_succ, i64_w, i32_w]
            rfl
          refine pure_ (i := 12) (N := some 76) (v := ?_) (a' := ?_) #[true, true, true, true, true, true, true, true, true, true, true, false, true, false, false, false, false, false] rfl rfl (any_of HT_.out (by kernel_rfl)) (fun _ _ _ h => h) (Or.inl ⟨by rfl, ?_⟩) ?_ ?_
          rotate_left
          · intro w'
            go_simp
            with_reducible rfl
          rotate_left
          · simp only [Act.put, List.setIfInBounds_toArray, List.set_cons_zero, List.set_cons_succ, i64_w, i32_w]
            rfl
          refine pure_ (i := 14) (N := some 78) (v := ?_) (a' := ?_) #[true, true, true, true, true, true, true, true, true, true, true, false, true, false, true, false, false, false] rfl rfl (any_of HT_.out (by kernel_rfl)) (fun _ _ _ h => h) (Or.inl ⟨by rfl, ?_⟩) ?_ ?_
          rotate_left
          · intro w'
            go_simp
            with_reducible rfl
          rotate_left
          · simp only [Act.put, List.setIfInBounds_toArray, List.set_cons_zero, List.set_cons_succ, i64_w, i32_w]
            rfl
          refine pure_ (i := 15) (N := some 79) (v := ?_) (a' := ?_) #[true, true, true, true, true, true, true, true, true, true, true, false, true, false, true, true, false, false] rfl rfl (any_of HT_.out (by kernel_rfl)) (fun _ _ _ h => h) (Or.inl ⟨by rfl, ?_⟩) ?_ ?_
          rotate_left
          · intro w'
            go_simp
            with_reducible rfl
          rotate_left
          · simp only [Act.put, List.setIfInBounds_toArray, List.set_cons_zero, List.set_cons_succ, i64_w, i32_w]
            rfl
          refine inv_at [11, 13, 16, 17] (fun a0_ b a w' => ∃ (vv : Value), a = putSel a0_ b [(11, 75, .slice ak (fld p 2).length ck), (13, 77, vv), (16, 80, .pointer (some ⟨(ad.add (fr.length * 5)).block, (ad.add (fr.length * 5)).off + 2 + 1, none⟩))] ∧ (b 13 = false → w' = wd) ∧ (b 13 = true → b 17 = false → P1 wd (.slice ak (fld p 2).length ck) (fld p 2) x vv w') ∧ (b 17 = true → P2 wd (.slice ak (fld p 2).length ck) (fld p 2) x ⟨(ad.add (fr.length * 5)).block, (ad.add (fr.length * 5)).off + 2 + 1, none⟩ vv w')) HT_.out HW_.out (by kernel_rfl) (by kernel_rfl) ?_ ?_ ?_
          · exact ⟨.bool false, by simp only [putSel, Bool.false_eq_true, if_false], fun _ => rfl, fun h_ => absurd h_ (by decide), fun h_ => absurd h_ (by decide)⟩
          · skip
            clear E0
            refine steps_cons ?_ ?_
            · rintro b a w' ⟨vv, ha, Q_E0, Q_E1, Q_E2⟩ hb_ hon hoff
              refine ⟨_, rfl, fun K hK => ?_⟩
              have e74 : a.tmps[74]? = some (.pointer (some ⟨(ad.add (fr.length * 5)).block, (ad.add (fr.length * 5)).off + 2 + 1, none⟩)) := by rw [ha]; exact (putSel_off rfl).trans rfl
              replace ha := Aside0.mk ha
              have E0 := Aside0.mk (Q_E0 (hoff 13 (by kernel_rfl)))
              have hw_ := E0.out
              have hc_ := hcell
              rw [← hw_] at hc_
              refine value_ (w1 := w') (v := .slice ak (fld p 2).length ck) (by rfl) rfl ?_ ?_
              · go_simp
                (try simp only [i64_w])
                try rfl
              refine hK.out _ _ ⟨vv, (by rw [ha.out]; exact putSel_upk 0 hb_ rfl rfl rfl), Q_E0, fun h0_ _ => absurd ((hoff 13 (by kernel_rfl)).symm.trans h0_) (by decide), fun h0_ => absurd ((hoff 17 (by kernel_rfl)).symm.trans h0_) (by decide)⟩
            refine steps_cons ?_ ?_
            · rintro b a w' ⟨vv, ha, Q_E0, Q_E1, Q_E2⟩ hb_ hon hoff
              refine ⟨_, rfl, fun K hK => ?_⟩
              have e75 : a.tmps[75]? = some (.slice ak (fld p 2).length ck) := by rw [ha]; exact putSel_on (e := (11, 75, .slice ak (fld p 2).length ck)) 0 rfl rfl (hon 11 (by kernel_rfl)) rfl
              have e76 : a.tmps[76]? = some (.slice (some ax) x.length cX) := by rw [ha]; exact (putSel_off rfl).trans rfl
              replace ha := Aside0.mk ha
              have E0 := Aside0.mk (Q_E0 hb_)
              have hw_ := E0.out
              refine app_spread_step (by rfl) (.tmp 75) (.tmp 76) rfl Tryd.underlying22 inf5 (.slice ak (fld p 2).length ck) _ (us8 (fld p 2)) x ax cX (eval_of e75) (eval_of e76) (hw_ ▸ hown.out) (hw_ ▸ hXw.out) hln.out ?_
              intro v1 w1 ho hg hat
              have S3_ : P1 wd (.slice ak (fld p 2).length ck) (fld p 2) x v1 w1 := ⟨ho, hw_ ▸ hg, hw_ ▸ hat⟩
              refine hK.out _ _ ⟨v1, (by rw [ha.out]; exact putSel_upk 1 hb_ rfl rfl rfl), fun h0_ => absurd ((up_self b 13).symm.trans h0_) (by decide), fun _ _ => S3_, fun h0_ => absurd ((hoff 17 (by kernel_rfl)).symm.trans h0_) (by decide)⟩
            refine steps_cons ?_ ?_
            · rintro b a w' ⟨vv, ha, Q_E0, Q_E1, Q_E2⟩ hb_ hon hoff
              refine ⟨_, rfl, fun K hK => ?_⟩
              have e79 : a.tmps[79]? = some (.pointer (some ⟨(ad.add (fr.length * 5)).block, (ad.add (fr.length * 5)).off + 2, none⟩)) := by rw [ha]; exact (putSel_off rfl).trans rfl
              have e67 : a.tmps[67]? = some (.int .i64 (wrap64 1)) := by rw [ha]; exact (putSel_off rfl).trans rfl
              replace ha := Aside0.mk ha
              have E1 := Aside0.mk (Q_E1 (hon 13 (by kernel_rfl)) (hoff 17 (by kernel_rfl)))
              refine value_ (w1 := w') (v := .pointer (some ⟨(ad.add (fr.length * 5)).block, (ad.add (fr.length * 5)).off + 2 + 1, none⟩)) (by rfl) rfl ?_ ?_
              · go_simp
                (try simp only [i64_w])
                try rfl
              refine hK.out _ _ ⟨vv, (by rw [ha.out]; exact putSel_upk 2 hb_ rfl rfl rfl), fun h0_ => absurd ((hon 13 (by kernel_rfl)).symm.trans h0_) (by decide), Q_E1, fun h0_ => absurd ((hoff 17 (by kernel_rfl)).symm.trans h0_) (by decide)⟩
            refine steps_cons ?_ ?_
            · rintro b a w' ⟨vv, ha, Q_E0, Q_E1, Q_E2⟩ hb_ hon hoff
              refine ⟨_, rfl, fun K hK => ?_⟩
              have e80 : a.tmps[80]? = some (.pointer (some ⟨(ad.add (fr.length * 5)).block, (ad.add (fr.length * 5)).off + 2 + 1, none⟩)) := by rw [ha]; exact putSel_on (e := (16, 80, .pointer (some ⟨(ad.add (fr.length * 5)).block, (ad.add (fr.length * 5)).off + 2 + 1, none⟩))) 2 rfl rfl (hon 16 (by kernel_rfl)) rfl
              have e77 : a.tmps[77]? = some (vv) := by rw [ha]; exact putSel_on (e := (13, 77, vv)) 1 rfl rfl (hon 13 (by kernel_rfl)) rfl
              replace ha := Aside0.mk ha
              have E1 := Aside0.mk (Q_E1 (hon 13 (by kernel_rfl)) hb_)
              obtain ⟨A_, c_, en_⟩ := E1.out.form
              obtain ⟨hc_, hf_, _⟩ := hst_.out w' vv E1.out
              refine skip_ (w1 := w'.setCell ⟨(ad.add (fr.length * 5)).block, (ad.add (fr.length * 5)).off + 2 + 1, none⟩ vv) (by rfl) rfl ?_ ?_
              · rw [en_] at e77 ⊢
                go_simp
                try rfl
              have S3_ := E1.out
              refine hK.out _ _ ⟨vv, (by rw [ha.out]; exact putSel_none (v := undef) rfl), fun h0_ => absurd ((hon 13 (by kernel_rfl)).symm.trans h0_) (by decide), fun _ h1_ => absurd ((up_self b 17).symm.trans h1_) (by decide), fun _ => ⟨w', S3_, rfl⟩⟩
            exact steps_nil
          · rintro b a w' hall ⟨vv, ha, Q_E0, Q_E1, Q_E2⟩
            clear E0
            have hb11_ := hall 11 (by kernel_rfl)
            have hb13_ := hall 13 (by kernel_rfl)
            have hb16_ := hall 16 (by kernel_rfl)
            have hb17_ := hall 17 (by kernel_rfl)
            subst ha
            simp only [putSel, hb11_, hb13_, hb16_, hb17_, if_true, Act.put, List.setIfInBounds_toArray, List.set_cons_zero, List.set_cons_succ]
            clear Q_E0
            clear Q_E1
            have E2 := Aside0.mk (Q_E2 hb17_)
            clear Q_E2
            clear hall hb11_ hb13_ hb16_ hb17_
            obtain ⟨w1_, h1_, rfl⟩ := E2.out
            obtain ⟨_, _, hI5⟩ := hst_.out w1_ vv h1_
            go_wp2
            go_roundg (L.length - (i + 1))
            case rel => exact ⟨_, wrap64 (ii + 1), 2, i + 1, by first | rfl | (simp; done) | (simp [hw1]; done), ⟨by rw [hw1]; have := hii.out; omega⟩, by first | rfl | (simp; done), by simp, by have := hii.out; omega, rfl, Aside0.mk (hnext.out.trans hyes.out), ⟨sz_add hsz.out x HX.out.2.1.2.2 2⟩, ⟨hI5⟩⟩
            case measure => have := hii.out; have := HX.out.2.2.2.2.2; omega
        · skip
          have hpn : ps ≠ [] := rdAll_ne hall.out (fun h => absurd rfl h) (by simp)
          obtain rfl | ⟨fr, p, rfl⟩ := snoc_cases ps
          · exact absurd rfl hpn
          clear hpn
          obtain rfl : m = fr.length + 1 := by rw [hm.out]; simp
          have hwj : wrap64 (fr.length : Int) = (fr.length : Int) := by have := hps5.out; simp at this; unfold wrap64; omega
          have hyes : rdStep N (fr ++ [p], 3) x = some (fr ++ [addF p x 3], 3) := by simp [rdStep, hsgq.out, onLast_snoc, addF, addSide]
          replace hyes := Aside0.mk hyes
          obtain ⟨ad, cap, vk, e1, _, _, _, _⟩ := hI.out.at 3 (by decide) x
          injection e1 with eA _ ec
          subst eA ec
          have hq0 : wrap64 2 = 2 := by unfold wrap64; omega
          have hjj := eq_true (show (fr.length : Int) < (fr.length : Int) + 1 by omega)
          go_wp2_with ((go_at_call 26; refine HMK.out.mono ?_; rintro e w3 ⟨rfl, hb3⟩))
          have hIw := hI.out.keep (below_drew1 hb3)
          have hXw := Kd.C_below HX.out.2.2.2.1 (below_drew1 hb3)
          obtain ⟨_, _, vk, e1, _, hcell, hown, hstep⟩ := hIw.at 3 (by decide) x
          obtain ⟨ak, ck, rfl, _⟩ := own_form hown
          injection e1 with e1 _ ec
          injection e1 with e1
          subst e1 ec
          have hln : (fld p 3).length + x.length ≤ 140737488355328 := by
            have := sz_fld (hsz.out.2 p (List.mem_append_right _ List.mem_cons_self)) 3
            have := hi5; have := HX.out.2.1.2.2; omega
          replace hln := Aside0.mk hln
          have hst_ : ∀ w1 v1, P1 w3.drew (.slice ak (fld p 3).length ck) (fld p 3) x v1 w1 → _ := fun w1 v1 h => hstep w1 v1 h.1 h.2.1 h.2.2
          replace hst_ := Aside0.mk hst_
          replace hown := Aside0.mk hown
          replace hXw := Aside0.mk hXw
          clear hstep hIw
          have E0 := trivial
          refine start_ (n := 18) (S := fun w' => True) (ds := []) #[false, false, false, false, false, false, false, false, false, false, false, false, false, false, false, false, false, false] (by kernel_rfl) rfl rfl trivial (fun hHeld => ?_)
          refine with_tabW mread.tab17 mread.bits17 (fun HT_ HW_ => ?_)
          generalize w3.drew = wd at hcell hown hst_ hXw hHeld ⊢
          refine pure_ (i := 0) (N := some 64) (v := ?_) (a' := ?_) #[true, false, false, false, false, false, false, false, false, false, false, false, false, false, false, false, false, false] rfl rfl (any_of HT_.out (by kernel_rfl)) (fun _ _ _ h => h) (Or.inl ⟨by rfl, ?_⟩) ?_ ?_
          rotate_left
          · intro w'
            go_simp
            with_reducible rfl
          rotate_left
          · simp only [Act.put, List.setIfInBounds_toArray, List.set_cons_zero, List.set_cons_succ, i64_w, i32_w]
            rfl
          refine pure_ (i := 1) (N := some 65) (v := ?_) (a' := ?_) #[true, true, false, false, false, false, false, false, false, false, false, false, false, false, false, false, false, false] rfl rfl (any_of HT_.out (by kernel_rfl)) (fun _ _ _ h => h) (Or.inl ⟨by rfl, ?_⟩) ?_ ?_
          rotate_left
          · intro w'
            go_simp
            with_reducible rfl
          rotate_left
          · simp only [Act.put, List.setIfInBounds_toArray, List.set_cons_zero, List.set_cons_succ, i64_w, i32_w]
            rfl
          refine pure_ (i := 2) (N := some 66) (v := ?_) (a' := ?_) #[true, true, true, false, false, false, false, false, false, false, false, false, false, false, false, false, false, false] rfl rfl (any_of HT_.out (by kernel_rfl)) (fun _ _ _ h => h) (Or.inl ⟨by rfl, ?_⟩) ?_ ?_
          rotate_left
          · intro w'
            go_simp
            with_reducible rfl
          rotate_left
          · simp only [Act.put, List.setIfInBounds_toArray, List.set_cons_zero, List.set_cons_succ, i64_w, i32_w]
            rfl
          refine pure_ (i := 3) (N := some 67) (v := ?_) (a' := ?_) #[true, true, true, true, false, false, false, false, false, false, false, false, false, false, false, false, false, false] rfl rfl (any_of HT_.out (by kernel_rfl)) (fun _ _ _ h => h) (Or.inl ⟨by rfl, ?_⟩) ?_ ?_
          rotate_left
          · intro w'
            go_simp
            with_reducible rfl
          rotate_left
          · simp only [Act.put, List.setIfInBounds_toArray, List.set_cons_zero, List.set_cons_succ, i64_w, i32_w]
            rfl
          refine pure_ (i := 4) (N := some 68) (v := ?_) (a' := ?_) #[true, true, true, true, true, false, false, false, false, false, false, false, false, false, false, false, false, false] rfl rfl (any_of HT_.out (by kernel_rfl)) (fun _ _ _ h => h) (Or.inl ⟨by rfl, ?_⟩) ?_ ?_
          rotate_left
          · intro w'
            go_simp
            with_reducible rfl
          rotate_left
          · simp only [Act.put, List.setIfInBounds_toArray, List.set_cons_zero, List.set_cons_succ, i64_w, i32_w]
            rfl
          refine pure_ (i := 5) (N := some 69) (v := ?_) (a' := ?_) #[true, true, true, true, true, true, false, false, false, false, false, false, false, false, false, false, false, false] rfl rfl (any_of HT_.out (by kernel_rfl)) (fun _ _ _ h => h) (Or.inl ⟨by rfl, ?_⟩) ?_ ?_
          rotate_left
          · intro w'
            go_simp
            with_reducible rfl
          rotate_left
          · simp only [Act.put, List.setIfInBounds_toArray, List.set_cons_zero, List.set_cons_succ, i64_w, i32_w]
            rfl
          refine pure_ (i := 6) (N := some 70) (v := ?_) (a' := ?_) #[true, true, true, true, true, true, true, false, false, false, false, false, false, false, false, false, false, false] rfl rfl (any_of HT_.out (by kernel_rfl)) (fun _ _ _ h => h) (Or.inl ⟨by rfl, ?_⟩) ?_ ?_
          rotate_left
          · intro w'
            go_simp
            with_reducible rfl
          rotate_left
          · simp only [Act.put, List.setIfInBounds_toArray, List.set_cons_zero, List.set_cons_succ, i64_w, i32_w]
            rfl
          refine pure_ (i := 7) (N := some 71) (v := ?_) (a' := ?_) #[true, true, true, true, true, true, true, true, false, false, false, false, false, false, false, false, false, false] rfl rfl (any_of HT_.out (by kernel_rfl)) (fun _ _ _ h => h) (Or.inl ⟨by rfl, ?_⟩) ?_ ?_
          rotate_left
          · intro w'
            go_simp
            with_reducible rfl
          rotate_left
          · simp only [Act.put, List.setIfInBounds_toArray, List.set_cons_zero, List.set_cons_succ, i64_w, i32_w]
            rfl
          refine pure_ (i := 8) (N := some 72) (v := ?_) (a' := ?_) #[true, true, true, true, true, true, true, true, true, false, false, false, false, false, false, false, false, false] rfl rfl (any_of HT_.out (by kernel_rfl)) (fun _ _ _ h => h) (Or.inl ⟨by rfl, ?_⟩) ?_ ?_
          rotate_left
          · intro w'
            go_simp
            with_reducible rfl
          rotate_left
          · simp only [Act.put, List.setIfInBounds_toArray, List.set_cons_zero, List.set_cons_succ, i64_w, i32_w]
            rfl
          refine pure_ (i := 9) (N := some 73) (v := ?_) (a' := ?_) #[true, true, true, true, true, true, true, true, true, true, false, false, false, false, false, false, false, false] rfl rfl (any_of HT_.out (by kernel_rfl)) (fun _ _ _ h => h) (Or.inl ⟨by rfl, ?_⟩) ?_ ?_
          rotate_left
          · intro w'
            go_simp
            with_reducible rfl
          rotate_left
          · simp only [Act.put, List.setIfInBounds_toArray, List.set_cons_zero, List.set_cons_succ, i64_w, i32_w]
            rfl
          refine pure_ (i := 10) (N := some 74) (v := ?_) (a' := ?_) #[true, true, true, true, true, true, true, true, true, true, true, false, false, false, false, false, false, false] rfl rfl (any_of HT_.out (by kernel_rfl)) (fun _ _ _ h => h) (Or.inl ⟨by rfl, ?_⟩) ?_ ?_
          rotate_left
          · intro w'
            go_simp
            with_reducible rfl
          rotate_left
          · simp only [Act.put, List.setIfInBounds_toArray, List.set_cons_zero, List.set_cons_succ, i64_w, i32_w]
            rfl
          refine pure_ (i := 12) (N := some 76) (v := ?_) (a' := ?_) #[true, true, true, true, true, true, true, true, true, true, true, false, true, false, false, false, false, false] rfl rfl (any_of HT_.out (by kernel_rfl)) (fun _ _ _ h => h) (Or.inl ⟨by rfl, ?_⟩) ?_ ?_
          rotate_left
          · intro w'
            go_simp
            with_reducible rfl
          rotate_left
          · simp only [Act.put, List.setIfInBounds_toArray, List.set_cons_zero, List.set_cons_succ, i64_w, i32_w]
            rfl
          refine pure_ (i := 14) (N := some 78) (v := ?_) (a' := ?_) #[true, true, true, true, true, true, true, true, true, true, true, false, true, false, true, false, false, false] rfl rfl (any_of HT_.out (by kernel_rfl)) (fun _ _ _ h => h) (Or.inl ⟨by rfl, ?_⟩) ?_ ?_
          rotate_left
          · intro w'
            go_simp
            with_reducible rfl
          rotate_left
          · simp only [Act.put, List.setIfInBounds_toArray, List.set_cons_zero, List.set_cons_succ, i64_w, i32_w]
            rfl
          refine pure_ (i := 15) (N := some 79) (v := ?_) (a' := ?_) #[true, true, true, true, true, true, true, true, true, true, true, false, true, false, true, true, false, false] rfl rfl (any_of HT_.out (by kernel_rfl)) (fun _ _ _ h => h) (Or.inl ⟨by rfl, ?_⟩) ?_ ?_
          rotate_left
          · intro w'
            go_simp
            with_reducible rfl
          rotate_left
          · simp only [Act.put, List.setIfInBounds_toArray, List.set_cons_zero, List.set_cons_succ, i64_w, i32_w]
            rfl
          refine inv_at [11, 13, 16, 17] (fun a0_ b a w' => ∃ (vv : Value), a = putSel a0_ b [(11, 75, .slice ak (fld p 3).length ck), (13, 77, vv), (16, 80, .pointer (some ⟨(ad.add (fr.length * 5)).block, (ad.add (fr.length * 5)).off + 2 + 2, none⟩))] ∧ (b 13 = false → w' = wd) ∧ (b 13 = true → b 17 = false → P1 wd (.slice ak (fld p 3).length ck) (fld p 3) x vv w') ∧ (b 17 = true → P2 wd (.slice ak (fld p 3).length ck) (fld p 3) x ⟨(ad.add (fr.length * 5)).block, (ad.add (fr.length * 5)).off + 2 + 2, none⟩ vv w')) HT_.out HW_.out (by kernel_rfl) (by kernel_rfl) ?_ ?_ ?_
          · exact ⟨.bool false, by simp only [putSel, Bool.false_eq_true, if_false], fun _ => rfl, fun h_ => absurd h_ (by decide), fun h_ => absurd h_ (by decide)⟩
          · skip
            clear E0
            refine steps_cons ?_ ?_
            · rintro b a w' ⟨vv, ha, Q_E0, Q_E1, Q_E2⟩ hb_ hon hoff
              refine ⟨_, rfl, fun K hK => ?_⟩
              have e74 : a.tmps[74]? = some (.pointer (some ⟨(ad.add (fr.length * 5)).block, (ad.add (fr.length * 5)).off + 2 + 2, none⟩)) := by rw [ha]; exact (putSel_off rfl).trans rfl
              replace ha := Aside0.mk ha
              have E0 := Aside0.mk (Q_E0 (hoff 13 (by kernel_rfl)))
              have hw_ := E0.out
              have hc_ := hcell
              rw [← hw_] at hc_
              refine value_ (w1 := w') (v := .slice ak (fld p 3).length ck) (by rfl) rfl ?_ ?_
              · go_simp
                (try simp only [i64_w])
                try rfl
              refine hK.out _ _ ⟨vv, (by rw [ha.out]; exact putSel_upk 0 hb_ rfl rfl rfl), Q_E0, fun h0_ _ => absurd ((hoff 13 (by kernel_rfl)).symm.trans h0_) (by decide), fun h0_ => absurd ((hoff 17 (by kernel_rfl)).symm.trans h0_) (by decide)⟩
            refine steps_cons ?_ ?_
            · rintro b a w' ⟨vv, ha, Q_E0, Q_E1, Q_E2⟩ hb_ hon hoff
              refine ⟨_, rfl, fun K hK => ?_⟩
              have e75 : a.tmps[75]? = some (.slice ak (fld p 3).length ck) := by rw [ha]; exact putSel_on (e := (11, 75, .slice ak (fld p 3).length ck)) 0 rfl rfl (hon 11 (by kernel_rfl)) rfl
              have e76 : a.tmps[76]? = some (.slice (some ax) x.length cX) := by rw [ha]; exact (putSel_off rfl).trans rfl
              replace ha := Aside0.mk ha
              have E0 := Aside0.mk (Q_E0 hb_)
              have hw_ := E0.out
              refine app_spread_step (by rfl) (.tmp 75) (.tmp 76) rfl Tryd.underlying22 inf5 (.slice ak (fld p 3).length ck) _ (us8 (fld p 3)) x ax cX (eval_of e75) (eval_of e76) (hw_ ▸ hown.out) (hw_ ▸ hXw.out) hln.out ?_
              intro v1 w1 ho hg hat
              have S3_ : P1 wd (.slice ak (fld p 3).length ck) (fld p 3) x v1 w1 := ⟨ho, hw_ ▸ hg, hw_ ▸ hat⟩
              refine hK.out _ _ ⟨v1, (by rw [ha.out]; exact putSel_upk 1 hb_ rfl rfl rfl), fun h0_ => absurd ((up_self b 13).symm.trans h0_) (by decide), fun _ _ => S3_, fun h0_ => absurd ((hoff 17 (by kernel_rfl)).symm.trans h0_) (by decide)⟩
            refine steps_cons ?_ ?_
            · rintro b a w' ⟨vv, ha, Q_E0, Q_E1, Q_E2⟩ hb_ hon hoff
              refine ⟨_, rfl, fun K hK => ?_⟩
              have e79 : a.tmps[79]? = some (.pointer (some ⟨(ad.add (fr.length * 5)).block, (ad.add (fr.length * 5)).off + 2, none⟩)) := by rw [ha]; exact (putSel_off rfl).trans rfl
              have e67 : a.tmps[67]? = some (.int .i64 (wrap64 2)) := by rw [ha]; exact (putSel_off rfl).trans rfl
              replace ha := Aside0.mk ha
              have E1 := Aside0.mk (Q_E1 (hon 13 (by kernel_rfl)) (hoff 17 (by kernel_rfl)))
              refine value_ (w1 := w') (v := .pointer (some ⟨(ad.add (fr.length * 5)).block, (ad.add (fr.length * 5)).off + 2 + 2, none⟩)) (by rfl) rfl ?_ ?_
              · go_simp
                (try simp only [i64_w])
                try rfl
              refine hK.out _ _ ⟨vv, (by rw [ha.out]; exact putSel_upk 2 hb_ rfl rfl rfl), fun h0_ => absurd ((hon 13 (by kernel_rfl)).symm.trans h0_) (by decide), Q_E1, fun h0_ => absurd ((hoff 17 (by kernel_rfl)).symm.trans h0_) (by decide)⟩
            refine steps_cons ?_ ?_
            · rintro b a w' ⟨vv, ha, Q_E0, Q_E1, Q_E2⟩ hb_ hon hoff
              refine ⟨_, rfl, fun K hK => ?_⟩
              have e80 : a.tmps[80]? = some (.pointer (some ⟨(ad.add (fr.length * 5)).block, (ad.add (fr.length * 5)).off + 2 + 2, none⟩)) := by rw [ha]; exact putSel_on (e := (16, 80, .pointer (some ⟨(ad.add (fr.length * 5)).block, (ad.add (fr.length * 5)).off + 2 + 2, none⟩))) 2 rfl rfl (hon 16 (by kernel_rfl)) rfl
              have e77 : a.tmps[77]? = some (vv) := by rw [ha]; exact putSel_on (e := (13, 77, vv)) 1 rfl rfl (hon 13 (by kernel_rfl)) rfl
              replace ha := Aside0.mk ha
              have E1 := Aside0.mk (Q_E1 (hon 13 (by kernel_rfl)) hb_)
              obtain ⟨A_, c_, en_⟩ := E1.out.form
              obtain ⟨hc_, hf_, _⟩ := hst_.out w' vv E1.out
              refine skip_ (w1 := w'.setCell ⟨(ad.add (fr.length * 5)).block, (ad.add (fr.length * 5)).off + 2 + 2, none⟩ vv) (by rfl) rfl ?_ ?_
              · rw [en_] at e77 ⊢
                go_simp
                try rfl
              have S3_ := E1.out
              refine hK.out _ _ ⟨vv, (by rw [ha.out]; exact putSel_none (v := undef) rfl), fun h0_ => absurd ((hon 13 (by kernel_rfl)).symm.trans h0_) (by decide), fun _ h1_ => absurd ((up_self b 17).symm.trans h1_) (by decide), fun _ => ⟨w', S3_, rfl⟩⟩
            exact steps_nil
          · rintro b a w' hall ⟨vv, ha, Q_E0, Q_E1, Q_E2⟩
            clear E0
            have hb11_ := hall 11 (by kernel_rfl)
            have hb13_ := hall 13 (by kernel_rfl)
            have hb16_ := hall 16 (by kernel_rfl)
            have hb17_ := hall 17 (by kernel_rfl)
            subst ha
            simp only [putSel, hb11_, hb13_, hb16_, hb17_, if_true, Act.put, List.setIfInBounds_toArray, List.set_cons_zero, List.set_cons_succ]
            clear Q_E0
            clear Q_E1
            have E2 := Aside0.mk (Q_E2 hb17_)
            clear Q_E2
            clear hall hb11_ hb13_ hb16_ hb17_
            obtain ⟨w1_, h1_, rfl⟩ := E2.out
            obtain ⟨_, _, hI5⟩ := hst_.out w1_ vv h1_
            go_wp2
            go_roundg (L.length - (i + 1))
            case rel => exact ⟨_, wrap64 (ii + 1), 3, i + 1, by first | rfl | (simp; done) | (simp [hw1]; done), ⟨by rw [hw1]; have := hii.out; omega⟩, by first | rfl | (simp; done), by simp, by have := hii.out; omega, rfl, Aside0.mk (hnext.out.trans hyes.out), ⟨sz_add hsz.out x HX.out.2.1.2.2 3⟩, ⟨hI5⟩⟩
            case measure => have := hii.out; have := HX.out.2.2.2.2.2; omega
      rcases hsg with rfl | hsg
      · rcases hst with rfl | rfl | rfl | rfl
        · skip
          have hyes : rdStep N (ps, 0) x = some (ps ++ [nwPt true], 1) := by simp [rdStep, hsgq.out]
          go_wp2_with (first | ((go_at_call 26; refine HMK.out.mono ?_; rintro e w3 ⟨rfl, hb3⟩); have hI3 := hI.out.keep hb3) | ((with_reducible refine gate_builtin (b := .append) (xs := #[.tmp 88, .tmp 90]) rfl ?_); at_builtin; refine app_push rfl (.tmp 88) (.tmp 90) 104 rfl Tryd.underlying23 inf50 (by decide) hI3 hps5.out _ hm.out.symm true rfl rfl ?_; intro Ao2 co2 w4 hI4))
          go_roundg (L.length - (i + 1))
          case rel => exact ⟨ps ++ [nwPt true], wrap64 (ii + 1), 1, i + 1, by first | rfl | (simp; done) | (simp [hw1]; done), ⟨by rw [hw1]; have := hii.out; omega⟩, by first | rfl | (simp; done), by simp, by have := hii.out; omega, rfl, Aside0.mk (hnext.out.trans hyes), ⟨sz_push hsz.out true⟩, ⟨hI4⟩⟩
          case measure => have := hii.out; have := HX.out.2.2.2.2.2; omega
        · skip
          have hno : rdStep N (ps, 1) x = none := by simp [rdStep, hsgq.out]
          have hR0 : R = ([], 5) := by
            rw [HRES.out, rdAll_none (hnext.out.trans hno)]
          go_wp2_with ((go_at_call 26; refine HMK.out.mono ?_; rintro e w3 ⟨rfl, hb3⟩))
          refine bodyPost_ret (results_tmp2 rfl _ _ _) rfl ?_
          rw [hR0]
          exact ⟨none, 0, rfl, Nat.zero_le _, Kd.C_nil kP _, hB2.out.trans (below_lo (hI.out.below.trans (below_lo hb3 hI.out.below.size)) hB2.out.size)⟩
        · skip
          have hno : rdStep N (ps, 2) x = none := by simp [rdStep, hsgq.out]
          have hR0 : R = ([], 5) := by
            rw [HRES.out, rdAll_none (hnext.out.trans hno)]
          go_wp2_with ((go_at_call 26; refine HMK.out.mono ?_; rintro e w3 ⟨rfl, hb3⟩))
          refine bodyPost_ret (results_tmp2 rfl _ _ _) rfl ?_
          rw [hR0]
          exact ⟨none, 0, rfl, Nat.zero_le _, Kd.C_nil kP _, hB2.out.trans (below_lo (hI.out.below.trans (below_lo hb3 hI.out.below.size)) hB2.out.size)⟩
        · skip
          have hno : rdStep N (ps, 3) x = none := by simp [rdStep, hsgq.out]
          have hR0 : R = ([], 5) := by
            rw [HRES.out, rdAll_none (hnext.out.trans hno)]
          go_wp2_with ((go_at_call 26; refine HMK.out.mono ?_; rintro e w3 ⟨rfl, hb3⟩))
          refine bodyPost_ret (results_tmp2 rfl _ _ _) rfl ?_
          rw [hR0]
          exact ⟨none, 0, rfl, Nat.zero_le _, Kd.C_nil kP _, hB2.out.trans (below_lo (hI.out.below.trans (below_lo hb3 hI.out.below.size)) hB2.out.size)⟩
      rcases hsg with rfl | hsg
      · rcases hst with rfl | rfl | rfl | rfl
        · skip
          have hno : rdStep N (ps, 0) x = none := by simp [rdStep, hsgq.out]
          have hR0 : R = ([], 5) := by
            rw [HRES.out, rdAll_none (hnext.out.trans hno)]
          go_wp2_with ((go_at_call 26; refine HMK.out.mono ?_; rintro e w3 ⟨rfl, hb3⟩))
          refine bodyPost_ret (results_tmp2 rfl _ _ _) rfl ?_
          rw [hR0]
          exact ⟨none, 0, rfl, Nat.zero_le _, Kd.C_nil kP _, hB2.out.trans (below_lo (hI.out.below.trans (below_lo hb3 hI.out.below.size)) hB2.out.size)⟩
        · skip
          have hyes : rdStep N (ps, 1) x = some (ps, 2) := by simp [rdStep, hsgq.out]
          go_wp2_with ((go_at_call 26; refine HMK.out.mono ?_; rintro e w3 ⟨rfl, hb3⟩); have hI3 := hI.out.keep hb3)
          go_roundg (L.length - (i + 1))
          case rel => exact ⟨ps, wrap64 (ii + 1), 2, i + 1, by first | rfl | (simp; done) | (simp [hw1]; done), ⟨by rw [hw1]; have := hii.out; omega⟩, by first | rfl | (simp; done), by simp, by have := hii.out; omega, rfl, Aside0.mk (hnext.out.trans hyes), ⟨sz_mono hsz.out⟩, ⟨hI3⟩⟩
          case measure => have := hii.out; have := HX.out.2.2.2.2.2; omega
        · skip
          have hno : rdStep N (ps, 2) x = none := by simp [rdStep, hsgq.out]
          have hR0 : R = ([], 5) := by
            rw [HRES.out, rdAll_none (hnext.out.trans hno)]
          go_wp2_with ((go_at_call 26; refine HMK.out.mono ?_; rintro e w3 ⟨rfl, hb3⟩))
          refine bodyPost_ret (results_tmp2 rfl _ _ _) rfl ?_
          rw [hR0]
          exact ⟨none, 0, rfl, Nat.zero_le _, Kd.C_nil kP _, hB2.out.trans (below_lo (hI.out.below.trans (below_lo hb3 hI.out.below.size)) hB2.out.size)⟩
        · skip
          have hno : rdStep N (ps, 3) x = none := by simp [rdStep, hsgq.out]
          have hR0 : R = ([], 5) := by
            rw [HRES.out, rdAll_none (hnext.out.trans hno)]
          go_wp2_with ((go_at_call 26; refine HMK.out.mono ?_; rintro e w3 ⟨rfl, hb3⟩))
          refine bodyPost_ret (results_tmp2 rfl _ _ _) rfl ?_
          rw [hR0]
          exact ⟨none, 0, rfl, Nat.zero_le _, Kd.C_nil kP _, hB2.out.trans (below_lo (hI.out.below.trans (below_lo hb3 hI.out.below.size)) hB2.out.size)⟩
      rcases hsg with rfl | hsg
      · rcases hst with rfl | rfl | rfl | rfl
        · skip
          have hno : rdStep N (ps, 0) x = none := by simp [rdStep, hsgq.out]
          have hR0 : R = ([], 5) := by
            rw [HRES.out, rdAll_none (hnext.out.trans hno)]
          go_wp2_with ((go_at_call 26; refine HMK.out.mono ?_; rintro e w3 ⟨rfl, hb3⟩))
          refine bodyPost_ret (results_tmp2 rfl _ _ _) rfl ?_
          rw [hR0]
          exact ⟨none, 0, rfl, Nat.zero_le _, Kd.C_nil kP _, hB2.out.trans (below_lo (hI.out.below.trans (below_lo hb3 hI.out.below.size)) hB2.out.size)⟩
        · skip
          have hno : rdStep N (ps, 1) x = none := by simp [rdStep, hsgq.out]
          have hR0 : R = ([], 5) := by
            rw [HRES.out, rdAll_none (hnext.out.trans hno)]
          go_wp2_with ((go_at_call 26; refine HMK.out.mono ?_; rintro e w3 ⟨rfl, hb3⟩))
          refine bodyPost_ret (results_tmp2 rfl _ _ _) rfl ?_
          rw [hR0]
          exact ⟨none, 0, rfl, Nat.zero_le _, Kd.C_nil kP _, hB2.out.trans (below_lo (hI.out.below.trans (below_lo hb3 hI.out.below.size)) hB2.out.size)⟩
        · skip
          have hyes : rdStep N (ps, 2) x = some (ps, 3) := by simp [rdStep, hsgq.out]
          go_wp2_with ((go_at_call 26; refine HMK.out.mono ?_; rintro e w3 ⟨rfl, hb3⟩); have hI3 := hI.out.keep hb3)
          go_roundg (L.length - (i + 1))
          case rel => exact ⟨ps, wrap64 (ii + 1), 3, i + 1, by first | rfl | (simp; done) | (simp [hw1]; done), ⟨by rw [hw1]; have := hii.out; omega⟩, by first | rfl | (simp; done), by simp, by have := hii.out; omega, rfl, Aside0.mk (hnext.out.trans hyes), ⟨sz_mono hsz.out⟩, ⟨hI3⟩⟩
          case measure => have := hii.out; have := HX.out.2.2.2.2.2; omega
        · skip
          have hno : rdStep N (ps, 3) x = none := by simp [rdStep, hsgq.out]
          have hR0 : R = ([], 5) := by
            rw [HRES.out, rdAll_none (hnext.out.trans hno)]
          go_wp2_with ((go_at_call 26; refine HMK.out.mono ?_; rintro e w3 ⟨rfl, hb3⟩))
          refine bodyPost_ret (results_tmp2 rfl _ _ _) rfl ?_
          rw [hR0]
          exact ⟨none, 0, rfl, Nat.zero_le _, Kd.C_nil kP _, hB2.out.trans (below_lo (hI.out.below.trans (below_lo hb3 hI.out.below.size)) hB2.out.size)⟩
      subst hsg
      rcases hst with rfl | rfl | rfl | rfl
      · skip
        have hno : rdStep N (ps, 0) x = none := by simp [rdStep, hsgq.out]
        have hR0 : R = ([], 5) := by
          rw [HRES.out, rdAll_none (hnext.out.trans hno)]
        go_wp2_with ((go_at_call 26; refine HMK.out.mono ?_; rintro e w3 ⟨rfl, hb3⟩))
        refine bodyPost_ret (results_tmp2 rfl _ _ _) rfl ?_
        rw [hR0]
        exact ⟨none, 0, rfl, Nat.zero_le _, Kd.C_nil kP _, hB2.out.trans (below_lo (hI.out.below.trans (below_lo hb3 hI.out.below.size)) hB2.out.size)⟩
      · skip
        have hno : rdStep N (ps, 1) x = none := by simp [rdStep, hsgq.out]
        have hR0 : R = ([], 5) := by
          rw [HRES.out, rdAll_none (hnext.out.trans hno)]
        go_wp2_with ((go_at_call 26; refine HMK.out.mono ?_; rintro e w3 ⟨rfl, hb3⟩))
        refine bodyPost_ret (results_tmp2 rfl _ _ _) rfl ?_
        rw [hR0]
        exact ⟨none, 0, rfl, Nat.zero_le _, Kd.C_nil kP _, hB2.out.trans (below_lo (hI.out.below.trans (below_lo hb3 hI.out.below.size)) hB2.out.size)⟩
      · skip
        have hno : rdStep N (ps, 2) x = none := by simp [rdStep, hsgq.out]
        have hR0 : R = ([], 5) := by
          rw [HRES.out, rdAll_none (hnext.out.trans hno)]
        go_wp2_with ((go_at_call 26; refine HMK.out.mono ?_; rintro e w3 ⟨rfl, hb3⟩))
        refine bodyPost_ret (results_tmp2 rfl _ _ _) rfl ?_
        rw [hR0]
        exact ⟨none, 0, rfl, Nat.zero_le _, Kd.C_nil kP _, hB2.out.trans (below_lo (hI.out.below.trans (below_lo hb3 hI.out.below.size)) hB2.out.size)⟩
      · skip
        have hyes : rdStep N (ps, 3) x = some (ps, 0) := by simp [rdStep, hsgq.out]
        go_wp2_with ((go_at_call 26; refine HMK.out.mono ?_; rintro e w3 ⟨rfl, hb3⟩); have hI3 := hI.out.keep hb3)
        go_roundg (L.length - (i + 1))
        case rel => exact ⟨ps, wrap64 (ii + 1), 0, i + 1, by first | rfl | (simp; done) | (simp [hw1]; done), ⟨by rw [hw1]; have := hii.out; omega⟩, by first | rfl | (simp; done), by simp, by have := hii.out; omega, rfl, Aside0.mk (hnext.out.trans hyes), ⟨sz_mono hsz.out⟩, ⟨hI3⟩⟩
        case measure => have := hii.out; have := HX.out.2.2.2.2.2; omega
    · have hi' : i = L.length := by have := hii.out; omega
      have hall2 : rdAll N L ([], 0) = some (ps, sti.toNat) := by have := hall.out; rwa [hi', List.take_length] at this
      rcases hst with rfl | rfl | rfl | rfl
      · obtain ⟨Ao, co, rfl, hoc, hC⟩ := hI.out.out
        replace hall2 := Aside0.mk hall2
        clear hi'
        go_wp2
        refine bodyPost_ret (results_tmp2 rfl _ _ _) rfl ?_
        have hR0 : R = (ps, 0) := by rw [HRES.out, hall2.out]; rfl
        rw [hR0]
        exact ⟨Ao, co, rfl, hoc, hC, hB2.out.trans (below_lo hI.out.below hB2.out.size)⟩
      all_goals
        replace hall2 := Aside0.mk hall2
        clear hi'
        go_wp2
        refine bodyPost_ret (results_tmp2 rfl _ _ _) rfl ?_
        have hR0 : R = ([], 5) := by rw [HRES.out, hall2.out]; rfl
        rw [hR0]
        exact ⟨none, 0, rfl, Nat.zero_le _, Kd.C_nil kP _, hB2.out.trans (below_lo hI.out.below hB2.out.size)⟩
 · have hright : mark_right.f n = some false := by
     unfold mark_right.f
     by_cases h : n ≥ 1
     · rw [if_pos h]; have : ¬ n ≤ 16777216 := fun h2 => hn ⟨h, h2⟩; simp [this]
     · rw [if_neg h]
   have hres : readOf n b = ([], 1) := by unfold readOf; rw [if_neg hn]
   rw [hres]
   clear hn hres
   go_enter Tryd.func9, Tryd.ntmps9
   go_wp2_with (go_at_call 24; refine (mark_right.calls _ false _ hright).mono ?_; rintro e w1 ⟨rfl, hb1⟩; replace hb1 := drawn_below hb1)
   refine bodyPost_ret (results_tmp2 rfl _ _ _) rfl ?_
   exact ⟨none, 0, rfl, Nat.zero_le _, Kd.C_nil kP _, hb1⟩
end Go.Proofs.YtnnnbeimehfiiaaDoor.Q

/-
  DERIVED: THE SHELF's CONTRACTS AT THIS DUMP, IN PLAIN WORDS (tools/lay-plain.mjs out of 'YtnnnbeimehfiiaaDoorXShelf.lean', which tools/lay-shelf.mjs wrote): THE SAME DECLARATIONS UNDER THE SAME NAMES: 'import', 'namespace', 'open', 'def', 'theorem' AND NOTHING ELSE: no command of the shelf's: FOR A HAND-IN. Each laying: the table of numbers ('.._ren') and one theorem, a field a fact of the dump's own or the kernel's comparison; each contract: ONE APPLICATION.
-/
namespace Go.Proofs
open Go.Shelf
def Tryd.lays162_ren : Go.Shelf.Ren := ⟨fun | 162 => 30 | 232 => 44 | 227 => 45 | 234 => 46 | 236 => 47 | 228 => 60 | 271 => 61 | 151 => 62 | 120 => 74 | 197 => 75 | 152 => 76 | 260 => 84 | 137 => 48 | 119 => 85 | 224 => 86 | 225 => 87 | 217 => 63 | 266 => 77 | n => n, fun | 9 => 9 | 4 => 4 | 3 => 3 | 5 => 5 | 117 => 89 | 116 => 88 | 0 => 0 | 124 => 92 | 21 => 21 | 105 => 107 | 46 => 111 | 119 => 132 | 139 => 135 | 138 => 134 | n => n, fun | 3 => 2 | 4 => 3 | n => n⟩
theorem Tryd.lays162 : Go.Proofs.Lays.n162 Tryd.prog Tryd.lays162_ren := {
  mixed := by kernel_rfl
  f119 := Tryd.func85.trans (congrArg some (by kernel_rfl))
  f120 := Tryd.func74.trans (congrArg some (by kernel_rfl))
  f137 := Tryd.func48.trans (congrArg some (by kernel_rfl))
  f151 := Tryd.func62.trans (congrArg some (by kernel_rfl))
  f152 := Tryd.func76.trans (congrArg some (by kernel_rfl))
  f162 := Tryd.func30.trans (congrArg some (by kernel_rfl))
  f197 := Tryd.func75.trans (congrArg some (by kernel_rfl))
  f217 := Tryd.func63.trans (congrArg some (by kernel_rfl))
  f224 := Tryd.func86.trans (congrArg some (by kernel_rfl))
  f225 := Tryd.func87.trans (congrArg some (by kernel_rfl))
  f227 := Tryd.func45.trans (congrArg some (by kernel_rfl))
  f228 := Tryd.func60.trans (congrArg some (by kernel_rfl))
  f232 := Tryd.func44.trans (congrArg some (by kernel_rfl))
  f234 := Tryd.func46.trans (congrArg some (by kernel_rfl))
  f236 := Tryd.func47.trans (congrArg some (by kernel_rfl))
  f260 := Tryd.func84.trans (congrArg some (by kernel_rfl))
  f266 := Tryd.func77.trans (congrArg some (by kernel_rfl))
  f271 := Tryd.func61.trans (congrArg some (by kernel_rfl))
  t0 := Tryd.underlying0
  a0 := Tryd.isAgg0
  z0 := Tryd.sizeOf0
  v0 := Tryd.zeroValue0
  t3 := Tryd.underlying3
  a3 := Tryd.isAgg3
  z3 := Tryd.sizeOf3
  v3 := Tryd.zeroValue3
  t4 := Tryd.underlying4
  a4 := Tryd.isAgg4
  z4 := Tryd.sizeOf4
  v4 := Tryd.zeroValue4
  t5 := Tryd.underlying5
  a5 := Tryd.isAgg5
  z5 := Tryd.sizeOf5
  v5 := Tryd.zeroValue5
  t9 := Tryd.underlying9
  a9 := Tryd.isAgg9
  z9 := Tryd.sizeOf9
  v9 := Tryd.zeroValue9
  t21 := Tryd.underlying21
  a21 := Tryd.isAgg21
  z21 := Tryd.sizeOf21
  v21 := Tryd.zeroValue21
  t46 := Tryd.underlying111
  a46 := Tryd.isAgg111
  z46 := Tryd.sizeOf111
  v46 := Tryd.zeroValue111
  t105 := Tryd.underlying107
  a105 := Tryd.isAgg107
  z105 := Tryd.sizeOf107
  v105 := Tryd.zeroValue107
  t116 := Tryd.underlying88
  a116 := Tryd.isAgg88
  z116 := Tryd.sizeOf88
  t117 := Tryd.underlying89
  a117 := Tryd.isAgg89
  z117 := Tryd.sizeOf89
  v117 := Tryd.zeroValue89
  t119 := Tryd.underlying132
  a119 := Tryd.isAgg132
  z119 := Tryd.sizeOf132
  t124 := Tryd.underlying92
  a124 := Tryd.isAgg92
  z124 := Tryd.sizeOf92
  v124 := Tryd.zeroValue92
  t138 := Tryd.underlying134
  a138 := Tryd.isAgg134
  z138 := Tryd.sizeOf134
  v138 := Tryd.zeroValue134
  t139 := Tryd.underlying135
  a139 := Tryd.isAgg135
  z139 := Tryd.sizeOf135
  v139 := Tryd.zeroValue135
  g3 := by kernel_rfl
  g4 := by kernel_rfl }
def Tryd.lays105_ren : Go.Shelf.Ren := ⟨fun | 105 => 55 | 212 => 66 | 99 => 67 | 165 => 68 | 166 => 69 | 170 => 70 | 169 => 71 | 263 => 79 | 264 => 80 | 206 => 81 | 240 => 82 | 241 => 83 | 276 => 88 | 277 => 89 | n => n, fun | 9 => 9 | 3 => 3 | 4 => 4 | 20 => 20 | 0 => 0 | 46 => 111 | 109 => 112 | 5 => 5 | 72 => 117 | 76 => 76 | 51 => 121 | 146 => 122 | 53 => 49 | 148 => 124 | 70 => 115 | 37 => 22 | 75 => 75 | 127 => 126 | 164 => 129 | 80 => 119 | n => n, fun | n => n⟩
theorem Tryd.lays105 : Go.Proofs.Lays.n105 Tryd.prog Tryd.lays105_ren := {
  mixed := by kernel_rfl
  f99 := Tryd.func67.trans (congrArg some (by kernel_rfl))
  f105 := Tryd.func55.trans (congrArg some (by kernel_rfl))
  f165 := Tryd.func68.trans (congrArg some (by kernel_rfl))
  f166 := Tryd.func69.trans (congrArg some (by kernel_rfl))
  f169 := Tryd.func71.trans (congrArg some (by kernel_rfl))
  f170 := Tryd.func70.trans (congrArg some (by kernel_rfl))
  f206 := Tryd.func81.trans (congrArg some (by kernel_rfl))
  f212 := Tryd.func66.trans (congrArg some (by kernel_rfl))
  f240 := Tryd.func82.trans (congrArg some (by kernel_rfl))
  f241 := Tryd.func83.trans (congrArg some (by kernel_rfl))
  f263 := Tryd.func79.trans (congrArg some (by kernel_rfl))
  f264 := Tryd.func80.trans (congrArg some (by kernel_rfl))
  f276 := Tryd.func88.trans (congrArg some (by kernel_rfl))
  f277 := Tryd.func89.trans (congrArg some (by kernel_rfl))
  t0 := Tryd.underlying0
  a0 := Tryd.isAgg0
  z0 := Tryd.sizeOf0
  v0 := Tryd.zeroValue0
  t3 := Tryd.underlying3
  a3 := Tryd.isAgg3
  z3 := Tryd.sizeOf3
  v3 := Tryd.zeroValue3
  t4 := Tryd.underlying4
  a4 := Tryd.isAgg4
  z4 := Tryd.sizeOf4
  v4 := Tryd.zeroValue4
  t5 := Tryd.underlying5
  a5 := Tryd.isAgg5
  z5 := Tryd.sizeOf5
  v5 := Tryd.zeroValue5
  t9 := Tryd.underlying9
  a9 := Tryd.isAgg9
  z9 := Tryd.sizeOf9
  v9 := Tryd.zeroValue9
  t20 := Tryd.underlying20
  a20 := Tryd.isAgg20
  z20 := Tryd.sizeOf20
  v20 := Tryd.zeroValue20
  t37 := Tryd.underlying22
  a37 := Tryd.isAgg22
  z37 := Tryd.sizeOf22
  v37 := Tryd.zeroValue22
  t46 := Tryd.underlying111
  a46 := Tryd.isAgg111
  z46 := Tryd.sizeOf111
  v46 := Tryd.zeroValue111
  t51 := Tryd.underlying121
  a51 := Tryd.isAgg121
  z51 := Tryd.sizeOf121
  v51 := Tryd.zeroValue121
  t53 := Tryd.underlying49
  a53 := Tryd.isAgg49
  z53 := Tryd.sizeOf49
  v53 := Tryd.zeroValue49
  t70 := Tryd.underlying115
  a70 := Tryd.isAgg115
  z70 := Tryd.sizeOf115
  v70 := Tryd.zeroValue115
  t72 := Tryd.underlying117
  a72 := Tryd.isAgg117
  z72 := Tryd.sizeOf117
  v72 := Tryd.zeroValue117
  t75 := Tryd.underlying75
  a75 := Tryd.isAgg75
  z75 := Tryd.sizeOf75
  v75 := Tryd.zeroValue75
  t76 := Tryd.underlying76
  a76 := Tryd.isAgg76
  z76 := Tryd.sizeOf76
  v76 := Tryd.zeroValue76
  t109 := Tryd.underlying112
  a109 := Tryd.isAgg112
  z109 := Tryd.sizeOf112
  v109 := Tryd.zeroValue112
  t127 := Tryd.underlying126
  a127 := Tryd.isAgg126
  z127 := Tryd.sizeOf126
  v127 := Tryd.zeroValue126
  t146 := Tryd.underlying122
  a146 := Tryd.isAgg122
  z146 := Tryd.sizeOf122
  v146 := Tryd.zeroValue122
  t148 := Tryd.underlying124
  a148 := Tryd.isAgg124
  z148 := Tryd.sizeOf124
  v148 := Tryd.zeroValue124
  t164 := Tryd.underlying129
  a164 := Tryd.isAgg129
  z164 := Tryd.sizeOf129
  v164 := Tryd.zeroValue129 }
def Tryd.lays178_ren : Go.Shelf.Ren := ⟨fun | 178 => 54 | 251 => 49 | 252 => 50 | 181 => 51 | 184 => 64 | 290 => 65 | 324 => 78 | n => n, fun | 130 => 94 | 9 => 9 | 3 => 3 | 75 => 75 | 0 => 0 | 93 => 71 | 91 => 69 | 131 => 95 | 4 => 4 | 37 => 22 | 20 => 20 | 80 => 119 | 5 => 5 | n => n, fun | 14 => 0 | n => n⟩
theorem Tryd.lays178 : Go.Proofs.LaysM.n178 Tryd.prog Tryd.lays178_ren := {
  mixed := by kernel_rfl
  f178 := Tryd.func54.trans (congrArg some (by kernel_rfl))
  f181 := Tryd.func51.trans (congrArg some (by kernel_rfl))
  f184 := Tryd.func64.trans (congrArg some (by kernel_rfl))
  f251 := Tryd.func49.trans (congrArg some (by kernel_rfl))
  f252 := Tryd.func50.trans (congrArg some (by kernel_rfl))
  f290 := Tryd.func65.trans (congrArg some (by kernel_rfl))
  f324 := Tryd.func78.trans (congrArg some (by kernel_rfl))
  t0 := Tryd.underlying0
  a0 := Tryd.isAgg0
  z0 := Tryd.sizeOf0
  v0 := Tryd.zeroValue0
  t3 := Tryd.underlying3
  a3 := Tryd.isAgg3
  z3 := Tryd.sizeOf3
  v3 := Tryd.zeroValue3
  t4 := Tryd.underlying4
  a4 := Tryd.isAgg4
  z4 := Tryd.sizeOf4
  v4 := Tryd.zeroValue4
  t9 := Tryd.underlying9
  a9 := Tryd.isAgg9
  z9 := Tryd.sizeOf9
  v9 := Tryd.zeroValue9
  t20 := Tryd.underlying20
  a20 := Tryd.isAgg20
  z20 := Tryd.sizeOf20
  v20 := Tryd.zeroValue20
  t37 := Tryd.underlying22
  a37 := Tryd.isAgg22
  z37 := Tryd.sizeOf22
  v37 := Tryd.zeroValue22
  t75 := Tryd.underlying75
  a75 := Tryd.isAgg75
  z75 := Tryd.sizeOf75
  v75 := Tryd.zeroValue75
  t91 := Tryd.underlying69
  a91 := Tryd.isAgg69
  z91 := Tryd.sizeOf69
  v91 := Tryd.zeroValue69
  t93 := Tryd.underlying71
  a93 := Tryd.isAgg71
  z93 := Tryd.sizeOf71
  v93 := Tryd.zeroValue71
  t130 := Tryd.underlying94
  a130 := Tryd.isAgg94
  z130 := Tryd.sizeOf94
  v130 := Tryd.zeroValue94
  t131 := Tryd.underlying95
  a131 := Tryd.isAgg95
  z131 := Tryd.sizeOf95
  v131 := Tryd.zeroValue95
  g14 := by kernel_rfl
  t5 := Tryd.underlying5
  a5 := Tryd.isAgg5
  z5 := Tryd.sizeOf5
  v5 := Tryd.zeroValue5
  t80 := Tryd.underlying119
  a80 := Tryd.isAgg119
  z80 := Tryd.sizeOf119
  v80 := Tryd.zeroValue119
  i0 := by kernel_rfl
  i3 := by kernel_rfl
  i4 := by kernel_rfl
  i5 := by kernel_rfl
  i9 := by kernel_rfl
  i20 := by kernel_rfl
  i37 := by kernel_rfl
  i75 := by kernel_rfl
  i80 := by kernel_rfl
  i91 := by kernel_rfl
  i93 := by kernel_rfl
  i130 := by kernel_rfl
  i131 := by kernel_rfl
  m14 := by kernel_rfl }
def Tryd.lays179_ren : Go.Shelf.Ren := ⟨fun | 179 => 53 | 251 => 49 | 252 => 50 | 181 => 51 | 184 => 64 | 290 => 65 | 324 => 78 | n => n, fun | 130 => 94 | 5 => 5 | 75 => 75 | 0 => 0 | 93 => 71 | 91 => 69 | 3 => 3 | 131 => 95 | 4 => 4 | 37 => 22 | 20 => 20 | 80 => 119 | 9 => 9 | n => n, fun | 14 => 0 | n => n⟩
theorem Tryd.lays179 : Go.Proofs.LaysM.n179 Tryd.prog Tryd.lays179_ren := {
  mixed := by kernel_rfl
  f179 := Tryd.func53.trans (congrArg some (by kernel_rfl))
  f181 := Tryd.func51.trans (congrArg some (by kernel_rfl))
  f184 := Tryd.func64.trans (congrArg some (by kernel_rfl))
  f251 := Tryd.func49.trans (congrArg some (by kernel_rfl))
  f252 := Tryd.func50.trans (congrArg some (by kernel_rfl))
  f290 := Tryd.func65.trans (congrArg some (by kernel_rfl))
  f324 := Tryd.func78.trans (congrArg some (by kernel_rfl))
  t0 := Tryd.underlying0
  a0 := Tryd.isAgg0
  z0 := Tryd.sizeOf0
  v0 := Tryd.zeroValue0
  t3 := Tryd.underlying3
  a3 := Tryd.isAgg3
  z3 := Tryd.sizeOf3
  v3 := Tryd.zeroValue3
  t4 := Tryd.underlying4
  a4 := Tryd.isAgg4
  z4 := Tryd.sizeOf4
  v4 := Tryd.zeroValue4
  t5 := Tryd.underlying5
  a5 := Tryd.isAgg5
  z5 := Tryd.sizeOf5
  v5 := Tryd.zeroValue5
  t20 := Tryd.underlying20
  a20 := Tryd.isAgg20
  z20 := Tryd.sizeOf20
  v20 := Tryd.zeroValue20
  t37 := Tryd.underlying22
  a37 := Tryd.isAgg22
  z37 := Tryd.sizeOf22
  v37 := Tryd.zeroValue22
  t75 := Tryd.underlying75
  a75 := Tryd.isAgg75
  z75 := Tryd.sizeOf75
  v75 := Tryd.zeroValue75
  t91 := Tryd.underlying69
  a91 := Tryd.isAgg69
  z91 := Tryd.sizeOf69
  v91 := Tryd.zeroValue69
  t93 := Tryd.underlying71
  a93 := Tryd.isAgg71
  z93 := Tryd.sizeOf71
  v93 := Tryd.zeroValue71
  t130 := Tryd.underlying94
  a130 := Tryd.isAgg94
  z130 := Tryd.sizeOf94
  v130 := Tryd.zeroValue94
  t131 := Tryd.underlying95
  a131 := Tryd.isAgg95
  z131 := Tryd.sizeOf95
  v131 := Tryd.zeroValue95
  g14 := by kernel_rfl
  t9 := Tryd.underlying9
  a9 := Tryd.isAgg9
  z9 := Tryd.sizeOf9
  v9 := Tryd.zeroValue9
  t80 := Tryd.underlying119
  a80 := Tryd.isAgg119
  z80 := Tryd.sizeOf119
  v80 := Tryd.zeroValue119
  i0 := by kernel_rfl
  i3 := by kernel_rfl
  i4 := by kernel_rfl
  i5 := by kernel_rfl
  i9 := by kernel_rfl
  i20 := by kernel_rfl
  i37 := by kernel_rfl
  i75 := by kernel_rfl
  i80 := by kernel_rfl
  i91 := by kernel_rfl
  i93 := by kernel_rfl
  i130 := by kernel_rfl
  i131 := by kernel_rfl
  m14 := by kernel_rfl }
def Tryd.lays180_ren : Go.Shelf.Ren := ⟨fun | 180 => 34 | 251 => 49 | 252 => 50 | 181 => 51 | 184 => 64 | 290 => 65 | 324 => 78 | n => n, fun | 130 => 94 | 37 => 22 | 3 => 3 | 75 => 75 | 0 => 0 | 93 => 71 | 91 => 69 | 131 => 95 | 4 => 4 | 20 => 20 | 5 => 5 | 80 => 119 | 9 => 9 | n => n, fun | 14 => 0 | n => n⟩
theorem Tryd.lays180 : Go.Proofs.LaysM.n180 Tryd.prog Tryd.lays180_ren := {
  mixed := by kernel_rfl
  f180 := Tryd.func34.trans (congrArg some (by kernel_rfl))
  f181 := Tryd.func51.trans (congrArg some (by kernel_rfl))
  f184 := Tryd.func64.trans (congrArg some (by kernel_rfl))
  f251 := Tryd.func49.trans (congrArg some (by kernel_rfl))
  f252 := Tryd.func50.trans (congrArg some (by kernel_rfl))
  f290 := Tryd.func65.trans (congrArg some (by kernel_rfl))
  f324 := Tryd.func78.trans (congrArg some (by kernel_rfl))
  t0 := Tryd.underlying0
  a0 := Tryd.isAgg0
  z0 := Tryd.sizeOf0
  v0 := Tryd.zeroValue0
  t3 := Tryd.underlying3
  a3 := Tryd.isAgg3
  z3 := Tryd.sizeOf3
  v3 := Tryd.zeroValue3
  t4 := Tryd.underlying4
  a4 := Tryd.isAgg4
  z4 := Tryd.sizeOf4
  v4 := Tryd.zeroValue4
  t20 := Tryd.underlying20
  a20 := Tryd.isAgg20
  z20 := Tryd.sizeOf20
  v20 := Tryd.zeroValue20
  t37 := Tryd.underlying22
  a37 := Tryd.isAgg22
  z37 := Tryd.sizeOf22
  v37 := Tryd.zeroValue22
  t75 := Tryd.underlying75
  a75 := Tryd.isAgg75
  z75 := Tryd.sizeOf75
  v75 := Tryd.zeroValue75
  t91 := Tryd.underlying69
  a91 := Tryd.isAgg69
  z91 := Tryd.sizeOf69
  v91 := Tryd.zeroValue69
  t93 := Tryd.underlying71
  a93 := Tryd.isAgg71
  z93 := Tryd.sizeOf71
  v93 := Tryd.zeroValue71
  t130 := Tryd.underlying94
  a130 := Tryd.isAgg94
  z130 := Tryd.sizeOf94
  v130 := Tryd.zeroValue94
  t131 := Tryd.underlying95
  a131 := Tryd.isAgg95
  z131 := Tryd.sizeOf95
  v131 := Tryd.zeroValue95
  g14 := by kernel_rfl
  t5 := Tryd.underlying5
  a5 := Tryd.isAgg5
  z5 := Tryd.sizeOf5
  v5 := Tryd.zeroValue5
  t9 := Tryd.underlying9
  a9 := Tryd.isAgg9
  z9 := Tryd.sizeOf9
  v9 := Tryd.zeroValue9
  t80 := Tryd.underlying119
  a80 := Tryd.isAgg119
  z80 := Tryd.sizeOf119
  v80 := Tryd.zeroValue119
  i0 := by kernel_rfl
  i3 := by kernel_rfl
  i4 := by kernel_rfl
  i5 := by kernel_rfl
  i9 := by kernel_rfl
  i20 := by kernel_rfl
  i37 := by kernel_rfl
  i75 := by kernel_rfl
  i80 := by kernel_rfl
  i91 := by kernel_rfl
  i93 := by kernel_rfl
  i130 := by kernel_rfl
  i131 := by kernel_rfl
  m14 := by kernel_rfl }
def Tryd.lays181_ren : Go.Shelf.Ren := ⟨fun | 181 => 51 | n => n, fun | 130 => 94 | 3 => 3 | 0 => 0 | 93 => 71 | 37 => 22 | 91 => 69 | 5 => 5 | n => n, fun | n => n⟩
theorem Tryd.lays181 : Go.Proofs.LaysM.n181 Tryd.prog Tryd.lays181_ren := {
  mixed := by kernel_rfl
  f181 := Tryd.func51.trans (congrArg some (by kernel_rfl))
  t0 := Tryd.underlying0
  a0 := Tryd.isAgg0
  z0 := Tryd.sizeOf0
  v0 := Tryd.zeroValue0
  t3 := Tryd.underlying3
  a3 := Tryd.isAgg3
  z3 := Tryd.sizeOf3
  v3 := Tryd.zeroValue3
  t37 := Tryd.underlying22
  a37 := Tryd.isAgg22
  z37 := Tryd.sizeOf22
  v37 := Tryd.zeroValue22
  t93 := Tryd.underlying71
  a93 := Tryd.isAgg71
  z93 := Tryd.sizeOf71
  v93 := Tryd.zeroValue71
  t130 := Tryd.underlying94
  a130 := Tryd.isAgg94
  z130 := Tryd.sizeOf94
  v130 := Tryd.zeroValue94
  t5 := Tryd.underlying5
  a5 := Tryd.isAgg5
  z5 := Tryd.sizeOf5
  v5 := Tryd.zeroValue5
  t91 := Tryd.underlying69
  a91 := Tryd.isAgg69
  z91 := Tryd.sizeOf69
  v91 := Tryd.zeroValue69
  i0 := by kernel_rfl
  i3 := by kernel_rfl
  i5 := by kernel_rfl
  i37 := by kernel_rfl
  i91 := by kernel_rfl
  i93 := by kernel_rfl
  i130 := by kernel_rfl }
def Tryd.lays183_ren : Go.Shelf.Ren := ⟨fun | 183 => 52 | n => n, fun | 130 => 94 | 37 => 22 | 0 => 0 | 93 => 71 | 3 => 3 | 5 => 5 | 91 => 69 | n => n, fun | n => n⟩
theorem Tryd.lays183 : Go.Proofs.LaysM.n183 Tryd.prog Tryd.lays183_ren := {
  mixed := by kernel_rfl
  f183 := Tryd.func52.trans (congrArg some (by kernel_rfl))
  t0 := Tryd.underlying0
  a0 := Tryd.isAgg0
  z0 := Tryd.sizeOf0
  v0 := Tryd.zeroValue0
  t3 := Tryd.underlying3
  a3 := Tryd.isAgg3
  z3 := Tryd.sizeOf3
  v3 := Tryd.zeroValue3
  t37 := Tryd.underlying22
  a37 := Tryd.isAgg22
  z37 := Tryd.sizeOf22
  v37 := Tryd.zeroValue22
  t93 := Tryd.underlying71
  a93 := Tryd.isAgg71
  z93 := Tryd.sizeOf71
  v93 := Tryd.zeroValue71
  t130 := Tryd.underlying94
  a130 := Tryd.isAgg94
  z130 := Tryd.sizeOf94
  v130 := Tryd.zeroValue94
  t5 := Tryd.underlying5
  a5 := Tryd.isAgg5
  z5 := Tryd.sizeOf5
  v5 := Tryd.zeroValue5
  t91 := Tryd.underlying69
  a91 := Tryd.isAgg69
  z91 := Tryd.sizeOf69
  v91 := Tryd.zeroValue69
  i0 := by kernel_rfl
  i3 := by kernel_rfl
  i5 := by kernel_rfl
  i37 := by kernel_rfl
  i91 := by kernel_rfl
  i93 := by kernel_rfl
  i130 := by kernel_rfl }
end Go.Proofs

/-! mark.Label, walked. -/
set_option linter.unusedVariables false
set_option linter.unusedSimpArgs false
namespace Go.Proofs.YtnnnbeimehfiiaaDoor.Q
open Go Go.RowKit Go.Proofs.YtnnnbeimehfiiaaDoorW.PrintWords Go.Proofs.YtnnnbeimehfiiaaDoorW.PrintLast Go.Proofs.YtnnnbeimehfiiaaDoorW.PrintMore Go.Proofs.YtnnnbeimehfiiaaDoorW.SL
attribute [local go_sem] max2_int min2_int max_two min_two max_three min_three max_four min_four
def fixC (c : UInt8) : UInt8 := if c < 32 ∨ c > 126 then 63 else c
def labB (s : ByteArray) : ByteArray := ⟨(Lib.trimRightB ((s.data.toList.take 200).map fixC) 32).toArray⟩
def bnum (c : UInt8) : Int := (c.toNat : Int)
/-- The row that is being changed. -/
def LabI (w : World) (g m : Nat) (t : List UInt8) (i : Nat) (W : World) : Prop :=
  ∃ cur : Array Value, W.heap[g]? = some (.cells cur 5 (m, m + 1)) ∧ cur.size = m ∧ (∀ j c, t[j]? = some c → cur[j]? = some (Value.int .u8 (bnum (if j < i then fixC c else c)))) ∧ Below w.heap.size w W
theorem LabI.cell {w : World} {g m : Nat} {t : List UInt8} {i : Nat} {W : World} (h : LabI w g m t i W) {c : UInt8} (hc : t[i]? = some c) : W.cell? ⟨g, i, none⟩ = some (.int .u8 (bnum c)) := by
  obtain ⟨cur, h1, h2, h3, _⟩ := h
  have := h3 i c hc
  rw [if_neg (Nat.lt_irrefl _)] at this
  unfold World.cell?
  rw [h1]
  exact this
theorem LabI.frozen {w : World} {g m : Nat} {t : List UInt8} {i : Nat} {W : World} (h : LabI w g m t i W) {c : UInt8} (hc : t[i]? = some c) : W.frozen? ⟨g, i, none⟩ = false := by
  obtain ⟨cur, h1, h2, h3, _⟩ := h
  have hlt : i < m := by rw [← h2]; exact (Array.getElem?_eq_some_iff.1 (h3 i c hc)).1
  simp [World.frozen?, h1]
  omega
theorem LabI.keep {w : World} {g m : Nat} {t : List UInt8} {i : Nat} {W : World} (h : LabI w g m t i W) {c : UInt8} (hc : t[i]? = some c) (hf : fixC c = c) : LabI w g m t (i + 1) W := by
  obtain ⟨cur, h1, h2, h3, h4⟩ := h
  refine ⟨cur, h1, h2, fun j d hd => ?_, h4⟩
  rw [h3 j d hd]
  by_cases hj : j < i
  · rw [if_pos hj, if_pos (by omega)]
  · by_cases hj2 : j = i
    · subst hj2; rw [hc] at hd; injection hd with hd; subst hd; rw [if_neg hj, if_pos (by omega), hf]
    · rw [if_neg hj, if_neg (by omega)]
theorem LabI.set {w : World} {g m : Nat} {t : List UInt8} {i : Nat} {W : World} (h : LabI w g m t i W) {c : UInt8} (hc : t[i]? = some c) (hf : fixC c = 63) (hg : w.heap.size ≤ g) : LabI w g m t (i + 1) (W.setCell ⟨g, i, none⟩ (.int .u8 63)) := by
  obtain ⟨cur, h1, h2, h3, h4⟩ := h
  have hlt : i < cur.size := (Array.getElem?_eq_some_iff.1 (h3 i c hc)).1
  refine ⟨cur.setIfInBounds i (.int .u8 63), ?_, by simpa using h2, fun j d hd => ?_, h4.setCell (p := ⟨g, i, none⟩) hg _⟩
  · exact Lib.heap_setCell_same (i := i) h1 _
  · by_cases hj : j = i
    · subst hj
      rw [hc] at hd; injection hd with hd; subst hd
      rw [if_pos (by omega), hf]
      simp [hlt]; rfl
    · rw [Array.getElem?_setIfInBounds_ne (by omega), h3 j d hd]
      by_cases hj2 : j < i
      · rw [if_pos hj2, if_pos (by omega)]
      · rw [if_neg hj2, if_neg (by omega)]
theorem bytesWorld_LabI (w : World) (s : ByteArray) : LabI w w.heap.size (Lib.bytesCells w 5 s).size s.data.toList 0 (Lib.bytesWorld w 5 s) := by
  refine ⟨_, Lib.bytesWorld_at_new w 5 s, rfl, fun j c hc => ?_, ⟨rfl, rfl, rfl, by rw [Lib.bytesWorld_size]; omega, fun k hk => Lib.bytesWorld_at_old w 5 s k hk⟩⟩
  have hlt : j < s.data.size := by have := (List.getElem?_eq_some_iff.1 hc).1; simpa using this
  rw [if_neg (by omega)]
  have : s.data[j]? = some c := by simpa using hc
  rw [Lib.bytesCells, Array.getElem?_append_left (by simpa using hlt), Array.getElem?_map, this]
  rfl
theorem LabI.text {w : World} {g m : Nat} {t : List UInt8} {W : World} (h : LabI w g m t t.length W) (i : Nat) (hi : i < t.length) : W.cell? ⟨g, 0 + i, none⟩ = some (.int .u8 (((t.map fixC).map bnum).getD i 0)) := by
  obtain ⟨cur, h1, h2, h3, _⟩ := h
  have := h3 i t[i] (List.getElem?_eq_getElem hi)
  rw [if_pos hi] at this
  unfold World.cell?
  rw [h1, Nat.zero_add]
  refine this.trans ?_
  simp [List.getD_eq_getElem?_getD, List.getElem?_eq_getElem hi]
theorem strOf_fix (t : List UInt8) : strOfNums (t.map bnum) = ⟨t.toArray⟩ := by
  unfold strOfNums
  congr 1
  rw [List.map_map]
  congr 1
  refine (List.map_congr_left fun c _ => ?_).trans (List.map_id t)
  simp [bnum]
theorem fix_lo {c : UInt8} (h : bnum c < 32) : fixC c = 63 := by
  unfold fixC bnum at *
  rw [if_pos (.inl (UInt8.lt_iff_toNat_lt.2 (by have : (32 : UInt8).toNat = 32 := rfl; omega)))]
theorem fix_hi {c : UInt8} (h : bnum c > 126) : fixC c = 63 := by
  unfold fixC bnum at *
  rw [if_pos (.inr (UInt8.lt_iff_toNat_lt.2 (by have : (126 : UInt8).toNat = 126 := rfl; omega)))]
theorem fix_mid {c : UInt8} (h : ¬ bnum c < 32) (h2 : ¬ bnum c > 126) : fixC c = c := by
  unfold fixC bnum at *
  rw [if_neg]
  rintro (h3 | h3)
  · have := UInt8.lt_iff_toNat_lt.1 h3; have : (32 : UInt8).toNat = 32 := rfl; omega
  · have := UInt8.lt_iff_toNat_lt.1 h3; have : (126 : UInt8).toNat = 126 := rfl; omega
set_option maxHeartbeats 16000000 in
set_option maxRecDepth 100000 in
theorem Label_calls (s : ByteArray) (w : World) (hs : s.size ≤ 9223372036854775807) :
    Calls Tryd.prog 14 #[.string s] w fun e w' => e = .returned (.string (labB s)) ∧ Below w.heap.size w w' := by
  have hcv : ∀ (W : World) (x : ByteArray), (convert 9 22 (.string x)).run Tryd.prog W = .ok (.slice (some ⟨W.heap.size, 0, none⟩) x.size (grownCap W x.size 0 5)) (Lib.bytesWorld W 5 x) := fun W x => Lib.run_convert_string_bytes W 9 22 5 x Tryd.underlying9 Tryd.underlying22 Tryd.underlying5
  have HS := Aside0.mk hs
  clear hs
  by_cases hcase : (s.size : Int) ≤ 200
  · have hcase2 := eq_true hcase
    have hres : labB s = ⟨(Lib.trimRightB (s.data.toList.map fixC) 32).toArray⟩ := by unfold labB; rw [List.take_of_length_le]; rw [Array.length_toList]; have : s.data.size = s.size := rfl; omega
    obtain ⟨R, hR⟩ : ∃ R, labB s = R := ⟨_, rfl⟩
    rw [hR] at hres ⊢
    replace hres := Aside0.mk hres
    clear hR
    obtain ⟨t, ht⟩ : ∃ t, t = s.data.toList := ⟨_, rfl⟩
    rw [← ht] at hres
    have htl : t.length = s.size := by rw [ht, Array.length_toList]; rfl
    have HI := Aside0.mk (bytesWorld_LabI w s)
    rw [← ht] at HI
    replace ht := Aside0.mk ht
    replace htl := Aside0.mk htl
    obtain ⟨m, hm⟩ : ∃ m, (Lib.bytesCells w 5 s).size = m := ⟨_, rfl⟩
    rw [hm] at HI
    clear hm
    go_enter Tryd.func14, Tryd.ntmps14
    go_wp2
    generalize Lib.bytesWorld w 5 s = w1 at HI ⊢
    go_loopg [14] s.size (fun kq v14 W => ∃ (ii : Int) (i : Nat), v14 = .int .i64 ii ∧ Aside0 (ii = (i : Int)) ∧ i ≤ s.size ∧ kq = s.size - i ∧ Aside0 (LabI w w.heap.size m t i W))
    case atStart => exact ⟨0, 0, rfl, ⟨rfl⟩, Nat.zero_le _, rfl, HI⟩
    case round =>
      obtain ⟨ii, i, rfl, hii, hi, hgk, hI⟩ := hrel
      obtain ⟨wb, rfl⟩ : ∃ q, q = wr := ⟨_, rfl⟩
      by_cases hin : ii < (s.size : Int)
      · have p0 : 0 ≤ ii := by have := hii.out; omega
        have e0 : ii.toNat = i := by have := hii.out; omega
        have hit : i < t.length := by rw [htl.out]; have := hii.out; omega
        obtain ⟨c, hc⟩ : ∃ c, t[i]? = some c := ⟨_, List.getElem?_eq_getElem hit⟩
        have hx0 : wb.cell? ⟨w.heap.size, ii.toNat, none⟩ = some (.int .u8 (bnum c)) := by rw [e0]; exact hI.out.cell hc
        have hf0 : wb.frozen? ⟨w.heap.size, ii.toNat, none⟩ = false := by rw [e0]; exact hI.out.frozen hc
        have hw1 : wrap64 (ii + 1) = ii + 1 := by have := HS.out; have := hii.out; unfold wrap64; omega
        replace e0 := Aside0.mk e0
        replace hc := Aside0.mk hc
        have hinb := eq_true hin
        have p0b := eq_true p0
        clear hit
        by_cases hlo : bnum c < 32
        · have hlo2 := eq_true hlo
          go_wp2
          go_roundg (s.size - (i + 1))
          case rel => exact ⟨wrap64 (ii + 1), i + 1, by first | rfl | (simp; done) | (simp [hw1]; done), ⟨by rw [hw1]; have := hii.out; omega⟩, by have := hii.out; omega, rfl, ⟨by have := hI.out.set hc.out (fix_lo hlo) (Nat.le_refl _); rwa [← e0.out] at this ⊢⟩⟩
          case measure => have := hii.out; omega
        · by_cases hhi : bnum c > 126
          · have hhi2 := eq_true hhi
            go_wp2
            go_roundg (s.size - (i + 1))
            case rel => exact ⟨wrap64 (ii + 1), i + 1, by first | rfl | (simp; done) | (simp [hw1]; done), ⟨by rw [hw1]; have := hii.out; omega⟩, by have := hii.out; omega, rfl, ⟨by have := hI.out.set hc.out (fix_hi hhi) (Nat.le_refl _); rwa [← e0.out] at this ⊢⟩⟩
            case measure => have := hii.out; omega
          · go_wp2
            go_roundg (s.size - (i + 1))
            case rel => exact ⟨wrap64 (ii + 1), i + 1, by first | rfl | (simp; done) | (simp [hw1]; done), ⟨by rw [hw1]; have := hii.out; omega⟩, by have := hii.out; omega, rfl, ⟨hI.out.keep hc.out (fix_mid (by omega) (by omega))⟩⟩
            case measure => have := hii.out; omega
      · have hi' : i = t.length := by rw [htl.out]; have := hii.out; omega
        have hI2 := hI.out
        rw [hi'] at hI2
        have hcv2 := run_convert_bytes_arg (P := Tryd.prog) wb 22 5 Tryd.underlying22 Tryd.underlying5 w.heap.size 0 s.size (grownCap w s.size 0 5) ((t.map fixC).map bnum) (by simp [htl.out]) (fun j hj => hI2.text j (by rw [htl.out]; exact hj)) 9 Tryd.underlying9
        rw [strOf_fix] at hcv2
        have hbl := Aside0.mk hI2.choose_spec.2.2.2
        clear hi' hI2
        go_wp2_with (go_at_call 30; refine (Any.strings_TrimRight_one Tryd.lays162 _ 32 (by decide) wb (by show (t.map fixC).toArray.size ≤ _; simp; rw [htl.out]; exact HS.out)).mono ?_; rintro e w3 ⟨rfl, rfl⟩)
        go_ret
        exact ⟨by rw [hres.out]; rfl, hbl.out⟩
  · have hcase1 : (200 : Int) < (s.size : Int) := by omega
    have hcase2 := eq_true hcase1
    have hm200 : min 200 s.size = 200 := by omega
    have hres : labB s = ⟨(Lib.trimRightB ((s.extract 0 200).data.toList.map fixC) 32).toArray⟩ := by unfold labB; simp
    obtain ⟨R, hR⟩ : ∃ R, labB s = R := ⟨_, rfl⟩
    rw [hR] at hres ⊢
    replace hres := Aside0.mk hres
    clear hR
    obtain ⟨t, ht⟩ : ∃ t, t = (s.extract 0 200).data.toList := ⟨_, rfl⟩
    rw [← ht] at hres
    have htl : t.length = 200 := by rw [ht, Array.length_toList]; show (s.extract 0 200).size = 200; simp; omega
    have HI := Aside0.mk (bytesWorld_LabI w (s.extract 0 200))
    rw [← ht] at HI
    replace ht := Aside0.mk ht
    replace htl := Aside0.mk htl
    obtain ⟨m, hm⟩ : ∃ m, (Lib.bytesCells w 5 (s.extract 0 200)).size = m := ⟨_, rfl⟩
    rw [hm] at HI
    clear hm
    go_enter Tryd.func14, Tryd.ntmps14
    go_wp2
    generalize Lib.bytesWorld w 5 (s.extract 0 200) = w1 at HI ⊢
    go_loopg [14] 200 (fun kq v14 W => ∃ (ii : Int) (i : Nat), v14 = .int .i64 ii ∧ Aside0 (ii = (i : Int)) ∧ i ≤ 200 ∧ kq = 200 - i ∧ Aside0 (LabI w w.heap.size m t i W))
    case atStart => exact ⟨0, 0, rfl, ⟨rfl⟩, Nat.zero_le _, rfl, HI⟩
    case round =>
      obtain ⟨ii, i, rfl, hii, hi, hgk, hI⟩ := hrel
      obtain ⟨wb, rfl⟩ : ∃ q, q = wr := ⟨_, rfl⟩
      by_cases hin : ii < (200 : Int)
      · have p0 : 0 ≤ ii := by have := hii.out; omega
        have e0 : ii.toNat = i := by have := hii.out; omega
        have hit : i < t.length := by rw [htl.out]; have := hii.out; omega
        obtain ⟨c, hc⟩ : ∃ c, t[i]? = some c := ⟨_, List.getElem?_eq_getElem hit⟩
        have hx0 : wb.cell? ⟨w.heap.size, ii.toNat, none⟩ = some (.int .u8 (bnum c)) := by rw [e0]; exact hI.out.cell hc
        have hf0 : wb.frozen? ⟨w.heap.size, ii.toNat, none⟩ = false := by rw [e0]; exact hI.out.frozen hc
        have hw1 : wrap64 (ii + 1) = ii + 1 := by have := HS.out; have := hii.out; unfold wrap64; omega
        replace e0 := Aside0.mk e0
        replace hc := Aside0.mk hc
        have hinb := eq_true hin
        have p0b := eq_true p0
        clear hit
        by_cases hlo : bnum c < 32
        · have hlo2 := eq_true hlo
          go_wp2
          go_roundg (200 - (i + 1))
          case rel => exact ⟨wrap64 (ii + 1), i + 1, by first | rfl | (simp; done) | (simp [hw1]; done), ⟨by rw [hw1]; have := hii.out; omega⟩, by have := hii.out; omega, rfl, ⟨by have := hI.out.set hc.out (fix_lo hlo) (Nat.le_refl _); rwa [← e0.out] at this ⊢⟩⟩
          case measure => have := hii.out; omega
        · by_cases hhi : bnum c > 126
          · have hhi2 := eq_true hhi
            go_wp2
            go_roundg (200 - (i + 1))
            case rel => exact ⟨wrap64 (ii + 1), i + 1, by first | rfl | (simp; done) | (simp [hw1]; done), ⟨by rw [hw1]; have := hii.out; omega⟩, by have := hii.out; omega, rfl, ⟨by have := hI.out.set hc.out (fix_hi hhi) (Nat.le_refl _); rwa [← e0.out] at this ⊢⟩⟩
            case measure => have := hii.out; omega
          · go_wp2
            go_roundg (200 - (i + 1))
            case rel => exact ⟨wrap64 (ii + 1), i + 1, by first | rfl | (simp; done) | (simp [hw1]; done), ⟨by rw [hw1]; have := hii.out; omega⟩, by have := hii.out; omega, rfl, ⟨hI.out.keep hc.out (fix_mid (by omega) (by omega))⟩⟩
            case measure => have := hii.out; omega
      · have hi' : i = t.length := by rw [htl.out]; have := hii.out; omega
        have hI2 := hI.out
        rw [hi'] at hI2
        have hcv2 := run_convert_bytes_arg (P := Tryd.prog) wb 22 5 Tryd.underlying22 Tryd.underlying5 w.heap.size 0 200 (grownCap w 200 0 5) ((t.map fixC).map bnum) (by simp [htl.out]) (fun j hj => hI2.text j (by rw [htl.out]; exact hj)) 9 Tryd.underlying9
        rw [strOf_fix] at hcv2
        have hbl := Aside0.mk hI2.choose_spec.2.2.2
        clear hi' hI2
        go_wp2_with (go_at_call 30; refine (Any.strings_TrimRight_one Tryd.lays162 _ 32 (by decide) wb (by show (t.map fixC).toArray.size ≤ _; simp; rw [htl.out]; decide)).mono ?_; rintro e w3 ⟨rfl, rfl⟩)
        go_ret
        exact ⟨by rw [hres.out]; rfl, hbl.out⟩
end Go.Proofs.YtnnnbeimehfiiaaDoor.Q

-- Written by a program of this session (wip/mkprint.py, wip/pr.sh) for this claim; Lean checks it.
namespace Go.Proofs.YtnnnbeimehfiiaaDoor.Q
open Go.RowKit Go.Proofs.YtnnnbeimehfiiaaDoorW.PrintWords Go.Proofs.YtnnnbeimehfiiaaDoorW.PrintLast Go.Proofs.YtnnnbeimehfiiaaDoorW.PrintMore
attribute [local go_sem] max2_int min2_int max_two min_two max_three min_three max_four min_four   -- for this text's walks alone
set_option linter.unusedVariables false
set_option linter.unusedSimpArgs false

/-! ### mark_Length: function 16 -/
mutual
def mark_Length.j0 : Nat → Int → List (List Int) → Bool → Option (Int)
 | 0, _, _, _ => none
 | k + 1, x0, x1, x16 => if x16 = true then (mark_Length.j1 k 7 x1) else (mark_Length.j1 k x0 x1)
def mark_Length.j1 : Nat → Int → List (List Int) → Option (Int)
 | 0, _, _ => none
 | k + 1, x0, x1 => mark_Length.l0 k x0 x1 (x1.length : Int) 0
def mark_Length.l0 : Nat → Int → List (List Int) → Int → Int → Option (Int)
 | 0, _, _, _, _ => none
 | k + 1, x0, x17, x18, x19 => if x19 < x18 then (if 0 ≤ x19 then (if x19 < (x17.length : Int) then ((line_Split.f (rd_L1 x17 x19)).bind fun t163 => (mark_Length.l1 k x0 x17 x18 x19 t163 (t163.length : Int) 0)) else (none)) else (none)) else (some x0)
def mark_Length.l1 : Nat → Int → List (List Int) → Int → Int → List (List Int) → Int → Int → Option (Int)
 | 0, _, _, _, _, _, _, _ => none
 | k + 1, x0, x17, x18, x19, x24, x25, x26 => if x26 < x25 then (if 0 ≤ x26 then (if x26 < (x24.length : Int) then ((mark_signs.f k (rd_L1 x24 x26)).bind fun bt167 => (if bt167.1 > 0 then (mark_Length.l1 k (mx x0 (wrap64 (bt167.1 + 1))) x17 x18 x19 x24 x25 (wrap64 (x26 + 1))) else (mark_Length.l1 k x0 x17 x18 x19 x24 x25 (wrap64 (x26 + 1))))) else (none)) else (none)) else (mark_Length.l0 k x0 x17 x18 (wrap64 (x19 + 1)))
end
def mark_Length.f (k : Nat) (a0 : Int) (l1 : List (List Int)) : Option (Int) := if a0 < 1 then (mark_Length.j0 k a0 l1 true) else (mark_Length.j0 k a0 l1 (decide (a0 > 1000)))
theorem mark_Length.mono_l : ∀ k, (∀ y0 y1 y2, LeO (mark_Length.j0 k y0 y1 y2) (mark_Length.j0 (k + 1) y0 y1 y2)) ∧ (∀ y0 y1, LeO (mark_Length.j1 k y0 y1) (mark_Length.j1 (k + 1) y0 y1)) ∧ (∀ y0 y1 y2 y3, LeO (mark_Length.l0 k y0 y1 y2 y3) (mark_Length.l0 (k + 1) y0 y1 y2 y3)) ∧ (∀ y0 y1 y2 y3 y4 y5 y6, LeO (mark_Length.l1 k y0 y1 y2 y3 y4 y5 y6) (mark_Length.l1 (k + 1) y0 y1 y2 y3 y4 y5 y6))
 | 0 => ⟨fun _ _ _ r h => by simp [mark_Length.j0] at h, fun _ _ r h => by simp [mark_Length.j1] at h, fun _ _ _ _ r h => by simp [mark_Length.l0] at h, fun _ _ _ _ _ _ _ r h => by simp [mark_Length.l1] at h⟩
 | k + 1 => by
  obtain ⟨ih0, ih1, ih2, ih3⟩ := mark_Length.mono_l k
  refine ⟨?_, ?_, ?_, ?_⟩
  ·intro y0 y1 y2
   unfold mark_Length.j0
   repeat' first
   | (with_reducible exact ih0 _ _ _)
   | (with_reducible exact ih1 _ _)
   | (with_reducible exact ih2 _ _ _ _)
   | (with_reducible exact ih3 _ _ _ _ _ _ _)
   | (with_reducible exact mark_signs.mono _ _)
   | (with_reducible exact LeO.refl _)
   | (with_reducible exact LeO.none _)
   | (with_reducible refine LeO.ite ?_ ?_)
   | (with_reducible refine LeO.bind ?_ (fun _ => ?_))
   | exact ih0 _ _ _
   | exact ih1 _ _
   | exact ih2 _ _ _ _
   | exact ih3 _ _ _ _ _ _ _
   | exact mark_signs.mono _ _
   | exact LeO.none _
   | refine LeO.ite ?_ ?_
   | refine LeO.bind ?_ (fun _ => ?_)
  ·intro y0 y1
   unfold mark_Length.j1
   repeat' first
   | (with_reducible exact ih0 _ _ _)
   | (with_reducible exact ih1 _ _)
   | (with_reducible exact ih2 _ _ _ _)
   | (with_reducible exact ih3 _ _ _ _ _ _ _)
   | (with_reducible exact mark_signs.mono _ _)
   | (with_reducible exact LeO.refl _)
   | (with_reducible exact LeO.none _)
   | (with_reducible refine LeO.ite ?_ ?_)
   | (with_reducible refine LeO.bind ?_ (fun _ => ?_))
   | exact ih0 _ _ _
   | exact ih1 _ _
   | exact ih2 _ _ _ _
   | exact ih3 _ _ _ _ _ _ _
   | exact mark_signs.mono _ _
   | exact LeO.none _
   | refine LeO.ite ?_ ?_
   | refine LeO.bind ?_ (fun _ => ?_)
  ·intro y0 y1 y2 y3
   unfold mark_Length.l0
   repeat' first
   | (with_reducible exact ih0 _ _ _)
   | (with_reducible exact ih1 _ _)
   | (with_reducible exact ih2 _ _ _ _)
   | (with_reducible exact ih3 _ _ _ _ _ _ _)
   | (with_reducible exact mark_signs.mono _ _)
   | (with_reducible exact LeO.refl _)
   | (with_reducible exact LeO.none _)
   | (with_reducible refine LeO.ite ?_ ?_)
   | (with_reducible refine LeO.bind ?_ (fun _ => ?_))
   | exact ih0 _ _ _
   | exact ih1 _ _
   | exact ih2 _ _ _ _
   | exact ih3 _ _ _ _ _ _ _
   | exact mark_signs.mono _ _
   | exact LeO.none _
   | refine LeO.ite ?_ ?_
   | refine LeO.bind ?_ (fun _ => ?_)
  ·intro y0 y1 y2 y3 y4 y5 y6
   unfold mark_Length.l1
   repeat' first
   | (with_reducible exact ih0 _ _ _)
   | (with_reducible exact ih1 _ _)
   | (with_reducible exact ih2 _ _ _ _)
   | (with_reducible exact ih3 _ _ _ _ _ _ _)
   | (with_reducible exact mark_signs.mono _ _)
   | (with_reducible exact LeO.refl _)
   | (with_reducible exact LeO.none _)
   | (with_reducible refine LeO.ite ?_ ?_)
   | (with_reducible refine LeO.bind ?_ (fun _ => ?_))
   | exact ih0 _ _ _
   | exact ih1 _ _
   | exact ih2 _ _ _ _
   | exact ih3 _ _ _ _ _ _ _
   | exact mark_signs.mono _ _
   | exact LeO.none _
   | refine LeO.ite ?_ ?_
   | refine LeO.bind ?_ (fun _ => ?_)
theorem mark_Length.mono : ∀ a0 a1 k, LeO (mark_Length.f k a0 a1) (mark_Length.f (k + 1) a0 a1) := by
 intro a0 a1 k
 obtain ⟨ih0, ih1, ih2, ih3⟩ := mark_Length.mono_l k
 unfold mark_Length.f
 repeat' first
   | (with_reducible exact ih0 _ _ _)
   | (with_reducible exact ih1 _ _)
   | (with_reducible exact ih2 _ _ _ _)
   | (with_reducible exact ih3 _ _ _ _ _ _ _)
   | (with_reducible exact mark_signs.mono _ _)
   | (with_reducible exact LeO.refl _)
   | (with_reducible exact LeO.none _)
   | (with_reducible refine LeO.ite ?_ ?_)
   | (with_reducible refine LeO.bind ?_ (fun _ => ?_))
   | exact ih0 _ _ _
   | exact ih1 _ _
   | exact ih2 _ _ _ _
   | exact ih3 _ _ _ _ _ _ _
   | exact mark_signs.mono _ _
   | exact LeO.none _
   | refine LeO.ite ?_ ?_
   | refine LeO.bind ?_ (fun _ => ?_)
set_option maxHeartbeats 8000000 in
set_option maxRecDepth 100000 in
theorem mark_Length.calls (k : Nat) (a0 : Int) (A1 : Option Addr) (c1 : Nat) (l1 : List (List Int)) (r : Int) (w : World) (hr1 : Kd.C (Kd.slice 5 (Kd.int .u8)) w A1 l1.length l1) (hc1 : l1.length ≤ c1) (h : mark_Length.f k a0 l1 = some r) :
  Calls Tryd.prog 16 #[.int .i64 a0, .slice A1 l1.length c1] w fun e w' => e = .returned (.int .i64 r) ∧ Below w.heap.size w w' := by
 have HR1 := Aside0.mk hr1
 have HC1 := Aside0.mk hc1
 clear hr1 hc1
 have HB := Aside0.mk (Below.refl w.heap.size w)
 have H : (if a0 < 1 then (mark_Length.j0 k a0 l1 true) else (mark_Length.j0 k a0 l1 (decide (a0 > 1000)))) = some r := h
 clear h
 have HC3 := Aside0.mk H
 clear H
 go_enter Tryd.func16, Tryd.ntmps16
 go_upto_region 1 with (fail)
 go_cut [16] (fun v16 wc => ∃ (kq : Nat) (x16_2 : Bool), v16 = .bool x16_2 ∧ Aside0 (mark_Length.j0 kq a0 l1 x16_2 = some r) ∧ Aside0 (kq ≤ k) ∧ Aside0 (Below w.heap.size w wc))
 case first =>
  have H := HC3.out
  clear HC3
  by_cases c4 : a0 < 1
  ·rw [if_pos c4] at H
   have c4b0 : decide (a0 < 1) = true := decide_eq_true c4
   clear c4
   (first | rw [c4b0] | (simp only [i64_w, i32_w]; rw [c4b0]) | skip)
   have H' := Aside0.mk H
   clear H
   go_wp2
   go_meet
   case rel => exact ⟨_, (true), (by first | rfl | (simp; done) | (simp [*]; done)), H', ⟨by first | omega | exact Nat.le_refl _⟩, ⟨by repeat (first | (with_reducible first | exact HB.out | apply below_alloc | apply pw_below_drewN | apply below_drew1) | exact HB.out)⟩⟩
  ·rw [if_neg c4] at H
   have c4b0 : decide (a0 < 1) = false := decide_eq_false c4
   clear c4
   (first | rw [c4b0] | (simp only [i64_w, i32_w]; rw [c4b0]) | skip)
   have H' := Aside0.mk H
   clear H
   go_wp2
   go_meet
   case rel => exact ⟨_, (decide (a0 > 1000)), (by first | rfl | (simp; done) | (simp [*]; done)), H', ⟨by first | omega | exact Nat.le_refl _⟩, ⟨by repeat (first | (with_reducible first | exact HB.out | apply below_alloc | apply pw_below_drewN | apply below_drew1) | exact HB.out)⟩⟩
 case rest =>
  clear HC3
  try clear c1
  try clear p2
  try clear c4
  try clear c4b0
  obtain ⟨kq, x16_2, rfl, HA, HJ2, HB⟩ := hcut
  cases kq with
  | zero => exact absurd HA.out (by simp [mark_Length.j0])
  | succ kj2 =>
   have H := HA.out
   clear HA
   simp only [mark_Length.j0] at H
   have HC5 := Aside0.mk H
   clear H
   go_upto_if 16 with (fail)
   go_cut [0] (fun v0 wc => ∃ (kq : Nat) (x0_4 : Int), v0 = .int .i64 x0_4 ∧ Aside0 (mark_Length.j1 kq x0_4 l1 = some r) ∧ Aside0 (kq ≤ kj2) ∧ Aside0 (Below w.heap.size w wc))
   case first =>
    have H := HC5.out
    clear HC5
    by_cases c6 : x16_2 = true
    ·subst c6
     have H1 : (mark_Length.j1 kj2 7 l1) = some r := by rw [if_pos rfl] at H; exact H
     clear H
     have H := H1
     clear H1
     have H' := Aside0.mk H
     clear H
     go_wp2
     go_meet
     case rel => exact ⟨_, (7), (by first | rfl | (simp; done) | (simp [*]; done)), H', ⟨by have := HJ2.out; first | omega | exact Nat.le_refl _⟩, ⟨by repeat (first | (with_reducible first | exact HB.out | apply below_alloc | apply pw_below_drewN | apply below_drew1) | exact HB.out)⟩⟩
    ·replace c6 := Bool.eq_false_iff.mpr c6
     subst c6
     have H1 : (mark_Length.j1 kj2 a0 l1) = some r := by rw [if_neg (show ¬ (false = true) by decide)] at H; exact H
     clear H
     have H := H1
     clear H1
     have H' := Aside0.mk H
     clear H
     go_wp2
     go_meet
     case rel => exact ⟨_, (a0), (by first | rfl | (simp; done) | (simp [*]; done)), H', ⟨by have := HJ2.out; first | omega | exact Nat.le_refl _⟩, ⟨by repeat (first | (with_reducible first | exact HB.out | apply below_alloc | apply pw_below_drewN | apply below_drew1) | exact HB.out)⟩⟩
   case rest =>
    clear HC5
    try clear c1
    try clear p2
    try clear c4
    try clear c4b0
    try clear c6
    try clear p2
    obtain ⟨kq, x0_4, rfl, HA, HJ4, HB⟩ := hcut
    cases kq with
    | zero => exact absurd HA.out (by simp [mark_Length.j1])
    | succ kj4 =>
     have H := HA.out
     clear HA
     simp only [mark_Length.j1] at H
     have H' := Aside0.mk H
     clear H
     go_wp2
     go_loopg [0, 19] kj4 (fun kq v0 v19 w' => ∃ (x0_3 : Int) (x19_3 : Int), v0 = .int .i64 x0_3 ∧ v19 = .int .i64 x19_3 ∧ Aside0 (mark_Length.l0 kq x0_3 l1 (l1.length : Int) x19_3 = some r) ∧ Aside0 (kq ≤ kj4) ∧ Aside0 (Below w.heap.size w w'))
     case atStart => exact ⟨(x0_4), (0), (by first | rfl | (simp; done) | (simp [*]; done)), (by first | rfl | (simp; done) | (simp [*]; done)), H', ⟨Nat.le_refl _⟩, ⟨by repeat (first | (with_reducible first | exact HB.out | apply below_alloc | apply pw_below_drewN | apply below_drew1) | exact HB.out)⟩⟩
     case round =>
      clear H'
      try clear c1
      try clear p2
      try clear c4
      try clear c4b0
      try clear c6
      try clear p2
      obtain ⟨x0_3, x19_3, rfl, rfl, HA, HK3, HB⟩ := hrel
      cases gk with
      | zero => exact absurd HA.out (by simp [mark_Length.l0])
      | succ k3 =>
       have H := HA.out
       clear HA
       simp only [mark_Length.l0] at H
       by_cases c7 : x19_3 < (l1.length : Int)
       ·rw [if_pos c7] at H
        have c7b0 : decide (x19_3 < (l1.length : Int)) = true := decide_eq_true c7
        clear c7
        by_cases c8 : 0 ≤ x19_3
        ·rw [if_pos c8] at H
         have c8b0 : decide (0 ≤ x19_3) = true := decide_eq_true c8
         clear c8
         by_cases c9 : x19_3 < (l1.length : Int)
         ·rw [if_pos c9] at H
          have c9b0 : decide (x19_3 < (l1.length : Int)) = true := decide_eq_true c9
          clear c9
          replace H := Option.bind_eq_some_iff.mp H
          obtain ⟨t163, A100, H⟩ := H
          replace H : (mark_Length.l1 k3 x0_3 l1 (l1.length : Int) x19_3 t163 (t163.length : Int) 0) = some r := H
          have A10 := Aside0.mk A100
          clear A100
          have H' := Aside0.mk H
          clear H
          have p162 : 0 ≤ (x19_3 : Int) := of_decide_eq_true (by first | (with_reducible assumption) | assumption)
          have q162 : x19_3 < (l1.length : Int) := of_decide_eq_true (by first | (with_reducible assumption) | assumption)
          obtain ⟨ad162, A162_0, c162_0, e162, hx162_0, hl162_0, hi162_0⟩ := at_L1 HR1.out x19_3 p162 q162
          cases e162
          replace hx162_0 := (HB.out.cell (World.block_lt_of_cell? w _ hx162_0)).trans hx162_0
          have HR162_0 := Aside0.mk hi162_0
          have HC162_0 := Aside0.mk hl162_0
          clear hi162_0 hl162_0
          replace p162 := eq_true p162
          replace q162 := eq_true q162
          go_wp2_with (first | ((with_reducible refine gate_callee (f := 25) rfl ?_); refine goesL_ (some 24) rfl rfl Tryd.func25 (by kernel_rfl) rfl #[.slice A162_0 (rd_L1 l1 x19_3).length c162_0] rfl (by (try simp only [List.map_toArray, List.map_cons, List.map_nil]); first | done | rfl | (simp only [List.length_drop, List.length_take]; rfl)) ?_; (with_reducible refine (line_Split.calls _ _ (rd_L1 l1 x19_3) t163 _ ?side1 ?side2 A10.out).mono ?_); (case side1 => repeat (first | exact (Kd.C_below HR162_0.out HB.out) | (with_reducible refine Kd.C_alloc ?_ _) | (with_reducible refine Kd.C_drewN ?_ _) | (with_reducible refine Kd.C_drew ?_))); (case side2 => exact HC162_0.out); rintro e w11 ⟨v164, rfl, ho0, hb⟩; refine ⟨_, rfl, ?_⟩; have n0_ := Aside0.mk (Kd.N_lower (Kd.N_mono (ok' := fun k_ => True) ho0 (fun k_ hk_ => trivial)) (below_size (by repeat (first | (with_reducible first | exact HB.out | apply below_alloc | apply pw_below_drewN | apply below_drew1) | exact HB.out)))); have n1_ := Aside0.mk (below_step (by repeat (first | (with_reducible first | exact HB.out | apply below_alloc | apply pw_below_drewN | apply below_drew1) | exact HB.out)) hb); clear HB; have HO165 := n0_; have HB := n1_; clear n0_ n1_; (try clear hb); (try clear hb2); (try clear hk); (try clear hi); (try clear ho0); obtain ⟨Ao12, co12, eo12⟩ := Kd.N_slice HO165.out; subst eo12))
          go_loopg [0, 26] k3 (fun kq v0 v26 w' => ∃ (x0_4 : Int) (x26_4 : Int), v0 = .int .i64 x0_4 ∧ v26 = .int .i64 x26_4 ∧ Aside0 (mark_Length.l1 kq x0_4 l1 (l1.length : Int) x19_3 t163 (t163.length : Int) x26_4 = some r) ∧ Aside0 (kq ≤ k3) ∧ Aside0 (Kd.N (Kd.slice 5 (Kd.int .u8)) 22 w' w.heap.size (fun _ => True) (.slice Ao12 t163.length co12) t163) ∧ Aside0 (Below w.heap.size w w'))
          case atStart => exact ⟨(x0_3), (0), (by first | rfl | (simp; done) | (simp [*]; done)), (by first | rfl | (simp; done) | (simp [*]; done)), H', ⟨Nat.le_refl _⟩, ⟨by (with_reducible repeat (first | apply Kd.N_alloc | apply Kd.N_drewN | apply Kd.N_drew)); exact HO165.out⟩, ⟨by repeat (first | (with_reducible first | exact HB.out | apply below_alloc | apply pw_below_drewN | apply below_drew1) | exact HB.out)⟩⟩
          case round =>
           clear H'
           try clear c1
           try clear p1
           try clear q1
           try clear hx1
           try clear c2
           try clear p2
           try clear c4
           try clear c4b0
           try clear c6
           try clear c7
           try clear c7b0
           try clear c8
           try clear c8b0
           try clear c9
           try clear c9b0
           try clear hx162_0
           try clear p162
           try clear p2
           try clear q162
           obtain ⟨x0_4, x26_4, rfl, rfl, HA, HK4, HO_24, HB⟩ := hrel
           cases gk with
           | zero => exact absurd HA.out (by simp [mark_Length.l1])
           | succ k4 =>
            have H := HA.out
            clear HA
            simp only [mark_Length.l1] at H
            by_cases c13 : x26_4 < (t163.length : Int)
            ·rw [if_pos c13] at H
             have c13b0 : decide (x26_4 < (t163.length : Int)) = true := decide_eq_true c13
             clear c13
             by_cases c14 : 0 ≤ x26_4
             ·rw [if_pos c14] at H
              have c14b0 : decide (0 ≤ x26_4) = true := decide_eq_true c14
              clear c14
              by_cases c15 : x26_4 < (t163.length : Int)
              ·rw [if_pos c15] at H
               have c15b0 : decide (x26_4 < (t163.length : Int)) = true := decide_eq_true c15
               clear c15
               replace H := Option.bind_eq_some_iff.mp H
               obtain ⟨⟨t167, t168⟩, A160, H⟩ := H
               replace H : (if t167 > 0 then (mark_Length.l1 k4 (mx x0_4 (wrap64 (t167 + 1))) l1 (l1.length : Int) x19_3 t163 (t163.length : Int) (wrap64 (x26_4 + 1))) else (mark_Length.l1 k4 x0_4 l1 (l1.length : Int) x19_3 t163 (t163.length : Int) (wrap64 (x26_4 + 1)))) = some r := H
               have A16 := Aside0.mk A160
               clear A160
               by_cases c17 : t167 > 0
               ·rw [if_pos c17] at H
                have c17b0 : decide (0 < t167) = true := decide_eq_true c17
                clear c17
                obtain ⟨ji18, hji18⟩ : ∃ j_ : Int, (mx x0_4 (wrap64 (t167 + 1))) = j_ := ⟨_, rfl⟩
                replace H : (mark_Length.l1 k4 ji18 l1 (l1.length : Int) x19_3 t163 (t163.length : Int) (wrap64 (x26_4 + 1))) = some r := by first | (rw [hji18] at H; exact H) | (simp only [hji18] at H ⊢; exact H)
                (try rw [hji18] at A16)
                have hji18_ : (if x0_4 < (wrap64 (t167 + 1)) then (wrap64 (t167 + 1)) else x0_4) = ji18 := hji18
                have H' := Aside0.mk H
                clear H
                have p166 : 0 ≤ (x26_4 : Int) := of_decide_eq_true (by first | (with_reducible assumption) | assumption)
                have q166 : x26_4 < (t163.length : Int) := of_decide_eq_true (by first | (with_reducible assumption) | assumption)
                obtain ⟨ad166, A166_0, c166_0, e166, hx166_0, hl166_0, hi166_0⟩ := at_L1 (Kd.N_reads' HO_24.out).2.2 x26_4 p166 q166
                cases e166
                obtain ⟨ce166, hce166, hMe166, hcc166⟩ := Kd.N_get HO_24.out [] x26_4 p166 (by first | exact q166 | exact of_decide_eq_true (by first | (with_reducible assumption) | assumption) | (have e_ := (Kd.N_reads' HO_24.out).1; omega))
                obtain ⟨ua166_0, uc166_0, rfl, ul166_0, ge166_0⟩ := Kd.FK_slice_open hMe166
                have hv166_0 := hcc166 0 _ rfl
                rw [Nat.add_zero, show ((Kd.slice 5 (Kd.int .u8))).sz = 1 from rfl, Nat.mul_one] at hv166_0
                replace hv166_0 := Option.some.inj (hv166_0.symm.trans hx166_0)
                injection hv166_0 with hva_ hvn_ hvc_
                rw [hva_] at ge166_0
                rw [hvc_] at ul166_0
                have HL166_0 := Aside0.mk (show Kd.V (Kd.int .u8) 5 _ w.heap.size _ _ (rd_L1 t163 x26_4) from Kd.V_mk ul166_0 ge166_0)
                clear hva_ hvn_ hvc_ ge166_0 ul166_0
                clear hcc166 hce166
                have HR166_0 := Aside0.mk hi166_0
                have HC166_0 := Aside0.mk hl166_0
                clear hi166_0 hl166_0
                replace p166 := eq_true p166
                replace q166 := eq_true q166
                go_wp2_with (first | ((with_reducible refine gate_callee (f := 31) rfl ?_); refine goesL_ (some 32) rfl rfl Tryd.func31 (by kernel_rfl) rfl #[.slice A166_0 (rd_L1 t163 x26_4).length c166_0] rfl (by (try simp only [List.map_toArray, List.map_cons, List.map_nil]); first | done | rfl | (simp only [List.length_drop, List.length_take]; rfl)) ?_; (with_reducible refine (mark_signs.calls k4 _ _ (rd_L1 t163 x26_4) t167 t168 _ ?side1 ?side2 A16.out).mono ?_); (case side1 => repeat (first | exact (by repeat (first | (with_reducible exact HR166_0.out) | (with_reducible refine Kd.C_alloc ?_ _) | (with_reducible refine Kd.C_drewN ?_ _) | (with_reducible refine Kd.C_drew ?_) | exact HR166_0.out)) | (with_reducible refine Kd.C_alloc ?_ _) | (with_reducible refine Kd.C_drewN ?_ _) | (with_reducible refine Kd.C_drew ?_))); (case side2 => exact HC166_0.out); rintro e w19 ⟨rfl, hb⟩; refine ⟨_, rfl, ?_⟩; have n0_ := Aside0.mk (Kd.N_below (by (with_reducible repeat (first | apply Kd.N_alloc | apply Kd.N_drewN | apply Kd.N_drew)); exact HO_24.out) hb); have n1_ := Aside0.mk (Kd.V_below (by (with_reducible repeat (first | apply Kd.V_alloc | apply Kd.V_drewN | apply Kd.V_drew)); exact HL166_0.out) hb); have n2_ := Aside0.mk (Kd.C_below (by repeat (first | (with_reducible exact HR166_0.out) | (with_reducible refine Kd.C_alloc ?_ _) | (with_reducible refine Kd.C_drewN ?_ _) | (with_reducible refine Kd.C_drew ?_) | exact HR166_0.out)) hb); have n3_ := Aside0.mk (below_step (by repeat (first | (with_reducible first | exact HB.out | apply below_alloc | apply pw_below_drewN | apply below_drew1) | exact HB.out)) hb); clear HO_24; clear HL166_0; clear HR166_0; clear HB; have HO_24 := n0_; have HL166_0 := n1_; have HR166_0 := n2_; have HB := n3_; clear n0_ n1_ n2_ n3_; (try clear hb); (try clear hb2); (try clear hk); (try clear hi)))
                go_roundg k4
                case measure => have := HJ2.out; have := HJ4.out; have := HK3.out; have := HK4.out; omega
                case rel => exact ⟨(ji18), (wrap64 (x26_4 + 1)), (by first | rfl | (simp; done) | (simp only [← hji18] <;> (first | rfl | simp)) | (simp [*]; done)), (by first | rfl | (simp; done) | (simp [*]; done)), H', ⟨by have := HJ2.out; have := HJ4.out; have := HK3.out; have := HK4.out; omega⟩, ⟨by (with_reducible repeat (first | apply Kd.N_alloc | apply Kd.N_drewN | apply Kd.N_drew)); exact HO_24.out⟩, ⟨by repeat (first | (with_reducible first | exact HB.out | apply below_alloc | apply pw_below_drewN | apply below_drew1) | exact HB.out)⟩⟩
               ·rw [if_neg c17] at H
                have c17b0 : decide (0 < t167) = false := decide_eq_false c17
                clear c17
                have H' := Aside0.mk H
                clear H
                (try clear hx166_0)
                (repeat (first | clear HS0_ | clear HS1_ | clear HS2_ | clear HS3_ | clear HS4_ | clear HS5_ | clear HS6_ | clear HS7_ | clear HS8_ | clear HS9_ | clear HS10_ | clear HS11_ | clear HS12_ | clear HS13_ | clear HS14_ | clear HS15_ | clear HS16_ | clear HS17_ | clear HS18_ | clear HS19_ | clear HS20_ | clear HS21_ | clear HS22_ | clear HS23_))
                (try clear hHeld)
                have p166 : 0 ≤ (x26_4 : Int) := of_decide_eq_true (by first | (with_reducible assumption) | assumption)
                have q166 : x26_4 < (t163.length : Int) := of_decide_eq_true (by first | (with_reducible assumption) | assumption)
                obtain ⟨ad166, A166_0, c166_0, e166, hx166_0, hl166_0, hi166_0⟩ := at_L1 (Kd.N_reads' HO_24.out).2.2 x26_4 p166 q166
                cases e166
                obtain ⟨ce166, hce166, hMe166, hcc166⟩ := Kd.N_get HO_24.out [] x26_4 p166 (by first | exact q166 | exact of_decide_eq_true (by first | (with_reducible assumption) | assumption) | (have e_ := (Kd.N_reads' HO_24.out).1; omega))
                obtain ⟨ua166_0, uc166_0, rfl, ul166_0, ge166_0⟩ := Kd.FK_slice_open hMe166
                have hv166_0 := hcc166 0 _ rfl
                rw [Nat.add_zero, show ((Kd.slice 5 (Kd.int .u8))).sz = 1 from rfl, Nat.mul_one] at hv166_0
                replace hv166_0 := Option.some.inj (hv166_0.symm.trans hx166_0)
                injection hv166_0 with hva_ hvn_ hvc_
                rw [hva_] at ge166_0
                rw [hvc_] at ul166_0
                have HL166_0 := Aside0.mk (show Kd.V (Kd.int .u8) 5 _ w.heap.size _ _ (rd_L1 t163 x26_4) from Kd.V_mk ul166_0 ge166_0)
                clear hva_ hvn_ hvc_ ge166_0 ul166_0
                clear hcc166 hce166
                have HR166_0 := Aside0.mk hi166_0
                have HC166_0 := Aside0.mk hl166_0
                clear hi166_0 hl166_0
                replace p166 := eq_true p166
                replace q166 := eq_true q166
                go_wp2_with (first | ((with_reducible refine gate_callee (f := 31) rfl ?_); refine goesL_ (some 32) rfl rfl Tryd.func31 (by kernel_rfl) rfl #[.slice A166_0 (rd_L1 t163 x26_4).length c166_0] rfl (by (try simp only [List.map_toArray, List.map_cons, List.map_nil]); first | done | rfl | (simp only [List.length_drop, List.length_take]; rfl)) ?_; (with_reducible refine (mark_signs.calls k4 _ _ (rd_L1 t163 x26_4) t167 t168 _ ?side1 ?side2 A16.out).mono ?_); (case side1 => repeat (first | exact (by repeat (first | (with_reducible exact HR166_0.out) | (with_reducible refine Kd.C_alloc ?_ _) | (with_reducible refine Kd.C_drewN ?_ _) | (with_reducible refine Kd.C_drew ?_) | exact HR166_0.out)) | (with_reducible refine Kd.C_alloc ?_ _) | (with_reducible refine Kd.C_drewN ?_ _) | (with_reducible refine Kd.C_drew ?_))); (case side2 => exact HC166_0.out); rintro e w20 ⟨rfl, hb⟩; refine ⟨_, rfl, ?_⟩; have n0_ := Aside0.mk (Kd.N_below (by (with_reducible repeat (first | apply Kd.N_alloc | apply Kd.N_drewN | apply Kd.N_drew)); exact HO_24.out) hb); have n1_ := Aside0.mk (Kd.V_below (by (with_reducible repeat (first | apply Kd.V_alloc | apply Kd.V_drewN | apply Kd.V_drew)); exact HL166_0.out) hb); have n2_ := Aside0.mk (Kd.C_below (by repeat (first | (with_reducible exact HR166_0.out) | (with_reducible refine Kd.C_alloc ?_ _) | (with_reducible refine Kd.C_drewN ?_ _) | (with_reducible refine Kd.C_drew ?_) | exact HR166_0.out)) hb); have n3_ := Aside0.mk (below_step (by repeat (first | (with_reducible first | exact HB.out | apply below_alloc | apply pw_below_drewN | apply below_drew1) | exact HB.out)) hb); clear HO_24; clear HL166_0; clear HR166_0; clear HB; have HO_24 := n0_; have HL166_0 := n1_; have HR166_0 := n2_; have HB := n3_; clear n0_ n1_ n2_ n3_; (try clear hb); (try clear hb2); (try clear hk); (try clear hi)))
                go_roundg k4
                case measure => have := HJ2.out; have := HJ4.out; have := HK3.out; have := HK4.out; omega
                case rel => exact ⟨(x0_4), (wrap64 (x26_4 + 1)), (by first | rfl | (simp; done) | (simp [*]; done)), (by first | rfl | (simp; done) | (simp [*]; done)), H', ⟨by have := HJ2.out; have := HJ4.out; have := HK3.out; have := HK4.out; omega⟩, ⟨by (with_reducible repeat (first | apply Kd.N_alloc | apply Kd.N_drewN | apply Kd.N_drew)); exact HO_24.out⟩, ⟨by repeat (first | (with_reducible first | exact HB.out | apply below_alloc | apply pw_below_drewN | apply below_drew1) | exact HB.out)⟩⟩
              ·rw [if_neg c15] at H
               exact absurd H (by simp)
             ·rw [if_neg c14] at H
              exact absurd H (by simp)
            ·rw [if_neg c13] at H
             have c13b0 : decide (x26_4 < (t163.length : Int)) = false := decide_eq_false c13
             clear c13
             have H' := Aside0.mk H
             clear H
             go_wp2
             go_roundg k4
             case measure => have := HJ2.out; have := HJ4.out; have := HK3.out; have := HK4.out; omega
             case rel => exact ⟨(x0_4), (wrap64 (x19_3 + 1)), (by first | rfl | (simp; done) | (simp [*]; done)), (by first | rfl | (simp; done) | (simp [*]; done)), H', ⟨by have := HJ2.out; have := HJ4.out; have := HK3.out; have := HK4.out; omega⟩, ⟨by repeat (first | (with_reducible first | exact HB.out | apply below_alloc | apply pw_below_drewN | apply below_drew1) | exact HB.out)⟩⟩
         ·rw [if_neg c9] at H
          exact absurd H (by simp)
        ·rw [if_neg c8] at H
         exact absurd H (by simp)
       ·rw [if_neg c7] at H
        have c7b0 : decide (x19_3 < (l1.length : Int)) = false := decide_eq_false c7
        clear c7
        obtain rfl := Option.some.inj H
        go_wp2
        go_ret
        exact ⟨by first | rfl | (simp [errW_none, errW_some] <;> rfl) | (simp [*, errW_none, errW_some] <;> rfl), by repeat (first | (with_reducible first | exact HB.out | apply below_alloc | apply pw_below_drewN | apply below_drew1) | exact HB.out)⟩

/-! ### scarfref18_Length: function 17 -/
mutual
def scarfref18_Length.j0 : Nat → Int → List (List Int) → Int → Bool → Option (Int)
 | 0, _, _, _, _ => none
 | k + 1, x0, x1, x5, x15 => if x15 = true then (scarfref18_Length.j1 k x1 x0) else (scarfref18_Length.j1 k x1 x5)
def scarfref18_Length.j1 : Nat → List (List Int) → Int → Option (Int)
 | 0, _, _ => none
 | k + 1, x1, x5 => scarfref18_Length.l0 k x1 x5 0
def scarfref18_Length.l0 : Nat → List (List Int) → Int → Int → Option (Int)
 | 0, _, _, _ => none
 | k + 1, x1, x5, x6 => if x6 < (x1.length : Int) then (if 0 ≤ x6 then ((scarfref02_Split.f k (rd_L1 x1 x6)).bind fun t170 => (scarfref18_Length.l1 k x1 x5 x6 t170 0)) else (none)) else (some x5)
def scarfref18_Length.l1 : Nat → List (List Int) → Int → Int → List (List Int) → Int → Option (Int)
 | 0, _, _, _, _, _ => none
 | k + 1, x1, x5, x6, x7, x8 => if x8 < (x7.length : Int) then (if 0 ≤ x8 then ((scarfref18_runs.f k (rd_L1 x7 x8)).bind fun t174 => (if t174 > 0 then (if t174 ≥ x5 then (scarfref18_Length.l1 k x1 (wrap64 (t174 + 1)) x6 x7 (wrap64 (x8 + 1))) else (scarfref18_Length.l1 k x1 x5 x6 x7 (wrap64 (x8 + 1)))) else (scarfref18_Length.l1 k x1 x5 x6 x7 (wrap64 (x8 + 1))))) else (none)) else (scarfref18_Length.l0 k x1 x5 (wrap64 (x6 + 1)))
end
def scarfref18_Length.f (k : Nat) (a0 : Int) (l1 : List (List Int)) : Option (Int) := if a0 ≥ 1 then (scarfref18_Length.j0 k a0 l1 7 (decide (a0 ≤ 1000))) else (scarfref18_Length.j0 k a0 l1 7 false)
theorem scarfref18_Length.mono_l : ∀ k, (∀ y0 y1 y2 y3, LeO (scarfref18_Length.j0 k y0 y1 y2 y3) (scarfref18_Length.j0 (k + 1) y0 y1 y2 y3)) ∧ (∀ y0 y1, LeO (scarfref18_Length.j1 k y0 y1) (scarfref18_Length.j1 (k + 1) y0 y1)) ∧ (∀ y0 y1 y2, LeO (scarfref18_Length.l0 k y0 y1 y2) (scarfref18_Length.l0 (k + 1) y0 y1 y2)) ∧ (∀ y0 y1 y2 y3 y4, LeO (scarfref18_Length.l1 k y0 y1 y2 y3 y4) (scarfref18_Length.l1 (k + 1) y0 y1 y2 y3 y4))
 | 0 => ⟨fun _ _ _ _ r h => by simp [scarfref18_Length.j0] at h, fun _ _ r h => by simp [scarfref18_Length.j1] at h, fun _ _ _ r h => by simp [scarfref18_Length.l0] at h, fun _ _ _ _ _ r h => by simp [scarfref18_Length.l1] at h⟩
 | k + 1 => by
  obtain ⟨ih0, ih1, ih2, ih3⟩ := scarfref18_Length.mono_l k
  refine ⟨?_, ?_, ?_, ?_⟩
  ·intro y0 y1 y2 y3
   unfold scarfref18_Length.j0
   repeat' first
   | (with_reducible exact ih0 _ _ _ _)
   | (with_reducible exact ih1 _ _)
   | (with_reducible exact ih2 _ _ _)
   | (with_reducible exact ih3 _ _ _ _ _)
   | (with_reducible exact scarfref02_Split.mono _ _)
   | (with_reducible exact scarfref18_runs.mono _ _)
   | (with_reducible exact LeO.refl _)
   | (with_reducible exact LeO.none _)
   | (with_reducible refine LeO.ite ?_ ?_)
   | (with_reducible refine LeO.bind ?_ (fun _ => ?_))
   | exact ih0 _ _ _ _
   | exact ih1 _ _
   | exact ih2 _ _ _
   | exact ih3 _ _ _ _ _
   | exact scarfref02_Split.mono _ _
   | exact scarfref18_runs.mono _ _
   | exact LeO.none _
   | refine LeO.ite ?_ ?_
   | refine LeO.bind ?_ (fun _ => ?_)
  ·intro y0 y1
   unfold scarfref18_Length.j1
   repeat' first
   | (with_reducible exact ih0 _ _ _ _)
   | (with_reducible exact ih1 _ _)
   | (with_reducible exact ih2 _ _ _)
   | (with_reducible exact ih3 _ _ _ _ _)
   | (with_reducible exact scarfref02_Split.mono _ _)
   | (with_reducible exact scarfref18_runs.mono _ _)
   | (with_reducible exact LeO.refl _)
   | (with_reducible exact LeO.none _)
   | (with_reducible refine LeO.ite ?_ ?_)
   | (with_reducible refine LeO.bind ?_ (fun _ => ?_))
   | exact ih0 _ _ _ _
   | exact ih1 _ _
   | exact ih2 _ _ _
   | exact ih3 _ _ _ _ _
   | exact scarfref02_Split.mono _ _
   | exact scarfref18_runs.mono _ _
   | exact LeO.none _
   | refine LeO.ite ?_ ?_
   | refine LeO.bind ?_ (fun _ => ?_)
  ·intro y0 y1 y2
   unfold scarfref18_Length.l0
   repeat' first
   | (with_reducible exact ih0 _ _ _ _)
   | (with_reducible exact ih1 _ _)
   | (with_reducible exact ih2 _ _ _)
   | (with_reducible exact ih3 _ _ _ _ _)
   | (with_reducible exact scarfref02_Split.mono _ _)
   | (with_reducible exact scarfref18_runs.mono _ _)
   | (with_reducible exact LeO.refl _)
   | (with_reducible exact LeO.none _)
   | (with_reducible refine LeO.ite ?_ ?_)
   | (with_reducible refine LeO.bind ?_ (fun _ => ?_))
   | exact ih0 _ _ _ _
   | exact ih1 _ _
   | exact ih2 _ _ _
   | exact ih3 _ _ _ _ _
   | exact scarfref02_Split.mono _ _
   | exact scarfref18_runs.mono _ _
   | exact LeO.none _
   | refine LeO.ite ?_ ?_
   | refine LeO.bind ?_ (fun _ => ?_)
  ·intro y0 y1 y2 y3 y4
   unfold scarfref18_Length.l1
   repeat' first
   | (with_reducible exact ih0 _ _ _ _)
   | (with_reducible exact ih1 _ _)
   | (with_reducible exact ih2 _ _ _)
   | (with_reducible exact ih3 _ _ _ _ _)
   | (with_reducible exact scarfref02_Split.mono _ _)
   | (with_reducible exact scarfref18_runs.mono _ _)
   | (with_reducible exact LeO.refl _)
   | (with_reducible exact LeO.none _)
   | (with_reducible refine LeO.ite ?_ ?_)
   | (with_reducible refine LeO.bind ?_ (fun _ => ?_))
   | exact ih0 _ _ _ _
   | exact ih1 _ _
   | exact ih2 _ _ _
   | exact ih3 _ _ _ _ _
   | exact scarfref02_Split.mono _ _
   | exact scarfref18_runs.mono _ _
   | exact LeO.none _
   | refine LeO.ite ?_ ?_
   | refine LeO.bind ?_ (fun _ => ?_)
theorem scarfref18_Length.mono : ∀ a0 a1 k, LeO (scarfref18_Length.f k a0 a1) (scarfref18_Length.f (k + 1) a0 a1) := by
 intro a0 a1 k
 obtain ⟨ih0, ih1, ih2, ih3⟩ := scarfref18_Length.mono_l k
 unfold scarfref18_Length.f
 repeat' first
   | (with_reducible exact ih0 _ _ _ _)
   | (with_reducible exact ih1 _ _)
   | (with_reducible exact ih2 _ _ _)
   | (with_reducible exact ih3 _ _ _ _ _)
   | (with_reducible exact scarfref02_Split.mono _ _)
   | (with_reducible exact scarfref18_runs.mono _ _)
   | (with_reducible exact LeO.refl _)
   | (with_reducible exact LeO.none _)
   | (with_reducible refine LeO.ite ?_ ?_)
   | (with_reducible refine LeO.bind ?_ (fun _ => ?_))
   | exact ih0 _ _ _ _
   | exact ih1 _ _
   | exact ih2 _ _ _
   | exact ih3 _ _ _ _ _
   | exact scarfref02_Split.mono _ _
   | exact scarfref18_runs.mono _ _
   | exact LeO.none _
   | refine LeO.ite ?_ ?_
   | refine LeO.bind ?_ (fun _ => ?_)
set_option maxHeartbeats 8000000 in
set_option maxRecDepth 100000 in
theorem scarfref18_Length.calls (k : Nat) (a0 : Int) (A1 : Option Addr) (c1 : Nat) (l1 : List (List Int)) (r : Int) (w : World) (hr1 : Kd.C (Kd.slice 5 (Kd.int .u8)) w A1 l1.length l1) (hc1 : l1.length ≤ c1) (h : scarfref18_Length.f k a0 l1 = some r) :
  Calls Tryd.prog 17 #[.int .i64 a0, .slice A1 l1.length c1] w fun e w' => e = .returned (.int .i64 r) ∧ Below w.heap.size w w' := by
 have HR1 := Aside0.mk hr1
 have HC1 := Aside0.mk hc1
 clear hr1 hc1
 have HB := Aside0.mk (Below.refl w.heap.size w)
 have H : (if a0 ≥ 1 then (scarfref18_Length.j0 k a0 l1 7 (decide (a0 ≤ 1000))) else (scarfref18_Length.j0 k a0 l1 7 false)) = some r := h
 clear h
 have HC3 := Aside0.mk H
 clear H
 go_enter Tryd.func17, Tryd.ntmps17
 go_upto_region 2 with (fail)
 go_cut [15] (fun v15 wc => ∃ (kq : Nat) (x15_2 : Bool), v15 = .bool x15_2 ∧ Aside0 (scarfref18_Length.j0 kq a0 l1 7 x15_2 = some r) ∧ Aside0 (kq ≤ k) ∧ Aside0 (Below w.heap.size w wc))
 case first =>
  have H := HC3.out
  clear HC3
  by_cases c4 : a0 ≥ 1
  ·rw [if_pos c4] at H
   have c4b0 : decide (1 ≤ a0) = true := decide_eq_true c4
   clear c4
   (first | rw [c4b0] | (simp only [i64_w, i32_w]; rw [c4b0]) | skip)
   have H' := Aside0.mk H
   clear H
   go_wp2
   go_meet
   case rel => exact ⟨_, (decide (a0 ≤ 1000)), (by first | rfl | (simp; done) | (simp [*]; done)), H', ⟨by first | omega | exact Nat.le_refl _⟩, ⟨by repeat (first | (with_reducible first | exact HB.out | apply below_alloc | apply pw_below_drewN | apply below_drew1) | exact HB.out)⟩⟩
  ·rw [if_neg c4] at H
   have c4b0 : decide (1 ≤ a0) = false := decide_eq_false c4
   clear c4
   (first | rw [c4b0] | (simp only [i64_w, i32_w]; rw [c4b0]) | skip)
   have H' := Aside0.mk H
   clear H
   go_wp2
   go_meet
   case rel => exact ⟨_, (false), (by first | rfl | (simp; done) | (simp [*]; done)), H', ⟨by first | omega | exact Nat.le_refl _⟩, ⟨by repeat (first | (with_reducible first | exact HB.out | apply below_alloc | apply pw_below_drewN | apply below_drew1) | exact HB.out)⟩⟩
 case rest =>
  clear HC3
  try clear c1
  try clear p2
  try clear c4
  try clear c4b0
  obtain ⟨kq, x15_2, rfl, HA, HJ2, HB⟩ := hcut
  cases kq with
  | zero => exact absurd HA.out (by simp [scarfref18_Length.j0])
  | succ kj2 =>
   have H := HA.out
   clear HA
   simp only [scarfref18_Length.j0] at H
   have HC5 := Aside0.mk H
   clear H
   go_upto_if 15 with (fail)
   go_cut [5] (fun v5 wc => ∃ (kq : Nat) (x5_4 : Int), v5 = .int .i64 x5_4 ∧ Aside0 (scarfref18_Length.j1 kq l1 x5_4 = some r) ∧ Aside0 (kq ≤ kj2) ∧ Aside0 (Below w.heap.size w wc))
   case first =>
    have H := HC5.out
    clear HC5
    by_cases c6 : x15_2 = true
    ·subst c6
     have H1 : (scarfref18_Length.j1 kj2 l1 a0) = some r := by rw [if_pos rfl] at H; exact H
     clear H
     have H := H1
     clear H1
     have H' := Aside0.mk H
     clear H
     go_wp2
     go_meet
     case rel => exact ⟨_, (a0), (by first | rfl | (simp; done) | (simp [*]; done)), H', ⟨by have := HJ2.out; first | omega | exact Nat.le_refl _⟩, ⟨by repeat (first | (with_reducible first | exact HB.out | apply below_alloc | apply pw_below_drewN | apply below_drew1) | exact HB.out)⟩⟩
    ·replace c6 := Bool.eq_false_iff.mpr c6
     subst c6
     have H1 : (scarfref18_Length.j1 kj2 l1 7) = some r := by rw [if_neg (show ¬ (false = true) by decide)] at H; exact H
     clear H
     have H := H1
     clear H1
     have H' := Aside0.mk H
     clear H
     go_wp2
     go_meet
     case rel => exact ⟨_, (7), (by first | rfl | (simp; done) | (simp [*]; done)), H', ⟨by have := HJ2.out; first | omega | exact Nat.le_refl _⟩, ⟨by repeat (first | (with_reducible first | exact HB.out | apply below_alloc | apply pw_below_drewN | apply below_drew1) | exact HB.out)⟩⟩
   case rest =>
    clear HC5
    try clear c1
    try clear p2
    try clear c4
    try clear c4b0
    try clear c6
    try clear p2
    obtain ⟨kq, x5_4, rfl, HA, HJ4, HB⟩ := hcut
    cases kq with
    | zero => exact absurd HA.out (by simp [scarfref18_Length.j1])
    | succ kj4 =>
     have H := HA.out
     clear HA
     simp only [scarfref18_Length.j1] at H
     have H' := Aside0.mk H
     clear H
     go_wp2
     go_loopg [5, 6] kj4 (fun kq v5 v6 w' => ∃ (x5_3 : Int) (x6_3 : Int), v5 = .int .i64 x5_3 ∧ v6 = .int .i64 x6_3 ∧ Aside0 (scarfref18_Length.l0 kq l1 x5_3 x6_3 = some r) ∧ Aside0 (kq ≤ kj4) ∧ Aside0 (Below w.heap.size w w'))
     case atStart => exact ⟨(x5_4), (0), (by first | rfl | (simp; done) | (simp [*]; done)), (by first | rfl | (simp; done) | (simp [*]; done)), H', ⟨Nat.le_refl _⟩, ⟨by repeat (first | (with_reducible first | exact HB.out | apply below_alloc | apply pw_below_drewN | apply below_drew1) | exact HB.out)⟩⟩
     case round =>
      clear H'
      try clear c1
      try clear p2
      try clear c4
      try clear c4b0
      try clear c6
      try clear p2
      obtain ⟨x5_3, x6_3, rfl, rfl, HA, HK3, HB⟩ := hrel
      cases gk with
      | zero => exact absurd HA.out (by simp [scarfref18_Length.l0])
      | succ k3 =>
       have H := HA.out
       clear HA
       simp only [scarfref18_Length.l0] at H
       by_cases c7 : x6_3 < (l1.length : Int)
       ·rw [if_pos c7] at H
        have c7b0 : decide (x6_3 < (l1.length : Int)) = true := decide_eq_true c7
        clear c7
        by_cases c8 : 0 ≤ x6_3
        ·rw [if_pos c8] at H
         have c8b0 : decide (0 ≤ x6_3) = true := decide_eq_true c8
         clear c8
         replace H := Option.bind_eq_some_iff.mp H
         obtain ⟨t170, A90, H⟩ := H
         replace H : (scarfref18_Length.l1 k3 l1 x5_3 x6_3 t170 0) = some r := H
         have A9 := Aside0.mk A90
         clear A90
         have H' := Aside0.mk H
         clear H
         have p169 : 0 ≤ (x6_3 : Int) := of_decide_eq_true (by first | (with_reducible assumption) | assumption)
         have q169 : x6_3 < (l1.length : Int) := of_decide_eq_true (by first | (with_reducible assumption) | assumption)
         obtain ⟨ad169, A169_0, c169_0, e169, hx169_0, hl169_0, hi169_0⟩ := at_L1 HR1.out x6_3 p169 q169
         cases e169
         replace hx169_0 := (HB.out.cell (World.block_lt_of_cell? w _ hx169_0)).trans hx169_0
         have HR169_0 := Aside0.mk hi169_0
         have HC169_0 := Aside0.mk hl169_0
         clear hi169_0 hl169_0
         replace p169 := eq_true p169
         replace q169 := eq_true q169
         go_wp2_with (first | ((with_reducible refine gate_callee (f := 27) rfl ?_); refine goesL_ (some 27) rfl rfl Tryd.func27 (by kernel_rfl) rfl #[.slice A169_0 (rd_L1 l1 x6_3).length c169_0] rfl (by (try simp only [List.map_toArray, List.map_cons, List.map_nil]); first | done | rfl | (simp only [List.length_drop, List.length_take]; rfl)) ?_; (with_reducible refine (scarfref02_Split.calls k3 _ _ (rd_L1 l1 x6_3) t170 _ ?side1 ?side2 A9.out).mono ?_); (case side1 => repeat (first | exact (Kd.C_below HR169_0.out HB.out) | (with_reducible refine Kd.C_alloc ?_ _) | (with_reducible refine Kd.C_drewN ?_ _) | (with_reducible refine Kd.C_drew ?_))); (case side2 => exact HC169_0.out); rintro e w10 ⟨v171, rfl, ho0, hb⟩; refine ⟨_, rfl, ?_⟩; have n0_ := Aside0.mk (Kd.S_lower ho0 (below_size (by repeat (first | (with_reducible first | exact HB.out | apply below_alloc | apply pw_below_drewN | apply below_drew1) | exact HB.out)))); have n1_ := Aside0.mk (below_step (by repeat (first | (with_reducible first | exact HB.out | apply below_alloc | apply pw_below_drewN | apply below_drew1) | exact HB.out)) hb); clear HB; have HO172 := n0_; have HB := n1_; clear n0_ n1_; (try clear hb); (try clear hb2); (try clear hk); (try clear hi); (try clear ho0)))
         go_loopg [5, 8] k3 (fun kq v5 v8 w' => ∃ (x5_4 : Int) (x8_4 : Int), v5 = .int .i64 x5_4 ∧ v8 = .int .i64 x8_4 ∧ Aside0 (scarfref18_Length.l1 kq l1 x5_4 x6_3 t170 x8_4 = some r) ∧ Aside0 (kq ≤ k3) ∧ Aside0 (Kd.S (Kd.slice 5 (Kd.int .u8)) 22 w' w.heap.size (fun _ => True) v171 t170) ∧ Aside0 (Below w.heap.size w w'))
         case atStart => exact ⟨(x5_3), (0), (by first | rfl | (simp; done) | (simp [*]; done)), (by first | rfl | (simp; done) | (simp [*]; done)), H', ⟨Nat.le_refl _⟩, ⟨by (with_reducible repeat (first | apply Kd.S_alloc | apply Kd.S_drewN | apply Kd.S_drew)); exact HO172.out⟩, ⟨by repeat (first | (with_reducible first | exact HB.out | apply below_alloc | apply pw_below_drewN | apply below_drew1) | exact HB.out)⟩⟩
         case round =>
          clear H'
          try clear c1
          try clear p1
          try clear q1
          try clear hx1
          try clear c2
          try clear p2
          try clear c4
          try clear c4b0
          try clear c6
          try clear c7
          try clear c7b0
          try clear c8
          try clear c8b0
          try clear hx169_0
          try clear p169
          try clear p2
          try clear q169
          obtain ⟨x5_4, x8_4, rfl, rfl, HA, HK4, HO_7, HB⟩ := hrel
          cases gk with
          | zero => exact absurd HA.out (by simp [scarfref18_Length.l1])
          | succ k4 =>
           have H := HA.out
           clear HA
           simp only [scarfref18_Length.l1] at H
           by_cases c11 : x8_4 < (t170.length : Int)
           ·rw [if_pos c11] at H
            have c11b0 : decide (x8_4 < (t170.length : Int)) = true := decide_eq_true c11
            clear c11
            by_cases c12 : 0 ≤ x8_4
            ·rw [if_pos c12] at H
             have c12b0 : decide (0 ≤ x8_4) = true := decide_eq_true c12
             clear c12
             replace H := Option.bind_eq_some_iff.mp H
             obtain ⟨t174, A130, H⟩ := H
             replace H : (if t174 > 0 then (if t174 ≥ x5_4 then (scarfref18_Length.l1 k4 l1 (wrap64 (t174 + 1)) x6_3 t170 (wrap64 (x8_4 + 1))) else (scarfref18_Length.l1 k4 l1 x5_4 x6_3 t170 (wrap64 (x8_4 + 1)))) else (scarfref18_Length.l1 k4 l1 x5_4 x6_3 t170 (wrap64 (x8_4 + 1)))) = some r := H
             have A13 := Aside0.mk A130
             clear A130
             by_cases c14 : t174 > 0
             ·rw [if_pos c14] at H
              have c14b0 : decide (0 < t174) = true := decide_eq_true c14
              clear c14
              by_cases c15 : t174 ≥ x5_4
              ·rw [if_pos c15] at H
               have c15b0 : decide (x5_4 ≤ t174) = true := decide_eq_true c15
               clear c15
               have H' := Aside0.mk H
               clear H
               obtain ⟨Ao16, co16, eo16⟩ := Kd.S_slice HO_7.out
               subst eo16
               have p173 : 0 ≤ (x8_4 : Int) := of_decide_eq_true (by first | (with_reducible assumption) | assumption)
               have q173 : x8_4 < (t170.length : Int) := of_decide_eq_true (by first | (with_reducible assumption) | assumption)
               obtain ⟨ad173, A173_0, c173_0, e173, hx173_0, hl173_0, hi173_0⟩ := at_L1 (Kd.S_reads' HO_7.out).2.2 x8_4 p173 q173
               cases e173
               obtain ⟨ce173, hce173, hMe173, hcc173⟩ := Kd.S_get HO_7.out [] x8_4 p173 (by first | exact q173 | exact of_decide_eq_true (by first | (with_reducible assumption) | assumption) | (have e_ := (Kd.S_reads' HO_7.out).1; omega))
               obtain ⟨ve173_0, rfl, ge173_0⟩ := hMe173
               have hv173_0 := hcc173 0 _ rfl
               rw [Nat.add_zero, show ((Kd.slice 5 (Kd.int .u8))).sz = 1 from rfl, Nat.mul_one] at hv173_0
               replace hv173_0 := Option.some.inj (hv173_0.symm.trans hx173_0)
               rw [hv173_0] at ge173_0
               have HL173_0 := Aside0.mk (show Kd.R (Kd.int .u8) 5 _ _ _ _ (rd_L1 t170 x8_4) from ge173_0)
               clear hv173_0 ge173_0
               clear hcc173 hce173
               have HR173_0 := Aside0.mk hi173_0
               have HC173_0 := Aside0.mk hl173_0
               clear hi173_0 hl173_0
               replace p173 := eq_true p173
               replace q173 := eq_true q173
               go_wp2_with (first | ((with_reducible refine gate_callee (f := 32) rfl ?_); refine goesL_ (some 38) rfl rfl Tryd.func32 (by kernel_rfl) rfl #[.slice A173_0 (rd_L1 t170 x8_4).length c173_0] rfl (by (try simp only [List.map_toArray, List.map_cons, List.map_nil]); first | done | rfl | (simp only [List.length_drop, List.length_take]; rfl)) ?_; (with_reducible refine (scarfref18_runs.calls k4 _ _ (rd_L1 t170 x8_4) t174 _ ?side1 ?side2 A13.out).mono ?_); (case side1 => repeat (first | exact (by repeat (first | (with_reducible exact HR173_0.out) | (with_reducible refine Kd.C_alloc ?_ _) | (with_reducible refine Kd.C_drewN ?_ _) | (with_reducible refine Kd.C_drew ?_) | exact HR173_0.out)) | (with_reducible refine Kd.C_alloc ?_ _) | (with_reducible refine Kd.C_drewN ?_ _) | (with_reducible refine Kd.C_drew ?_))); (case side2 => exact HC173_0.out); rintro e w' ⟨rfl, ⟨nd, rfl⟩⟩; refine ⟨_, rfl, ?_⟩))
               go_roundg k4
               case measure => have := HJ2.out; have := HJ4.out; have := HK3.out; have := HK4.out; omega
               case rel => exact ⟨(wrap64 (t174 + 1)), (wrap64 (x8_4 + 1)), (by first | rfl | (simp; done) | (simp [*]; done)), (by first | rfl | (simp; done) | (simp [*]; done)), H', ⟨by have := HJ2.out; have := HJ4.out; have := HK3.out; have := HK4.out; omega⟩, ⟨by (with_reducible repeat (first | apply Kd.S_alloc | apply Kd.S_drewN | apply Kd.S_drew)); exact HO_7.out⟩, ⟨by repeat (first | (with_reducible first | exact HB.out | apply below_alloc | apply pw_below_drewN | apply below_drew1) | exact HB.out)⟩⟩
              ·rw [if_neg c15] at H
               have c15b0 : decide (x5_4 ≤ t174) = false := decide_eq_false c15
               clear c15
               have H' := Aside0.mk H
               clear H
               obtain ⟨Ao17, co17, eo17⟩ := Kd.S_slice HO_7.out
               subst eo17
               (try clear hx173_0)
               (repeat (first | clear HS0_ | clear HS1_ | clear HS2_ | clear HS3_ | clear HS4_ | clear HS5_ | clear HS6_ | clear HS7_ | clear HS8_ | clear HS9_ | clear HS10_ | clear HS11_ | clear HS12_ | clear HS13_ | clear HS14_ | clear HS15_ | clear HS16_ | clear HS17_ | clear HS18_ | clear HS19_ | clear HS20_ | clear HS21_ | clear HS22_ | clear HS23_))
               (try clear hHeld)
               have p173 : 0 ≤ (x8_4 : Int) := of_decide_eq_true (by first | (with_reducible assumption) | assumption)
               have q173 : x8_4 < (t170.length : Int) := of_decide_eq_true (by first | (with_reducible assumption) | assumption)
               obtain ⟨ad173, A173_0, c173_0, e173, hx173_0, hl173_0, hi173_0⟩ := at_L1 (Kd.S_reads' HO_7.out).2.2 x8_4 p173 q173
               cases e173
               obtain ⟨ce173, hce173, hMe173, hcc173⟩ := Kd.S_get HO_7.out [] x8_4 p173 (by first | exact q173 | exact of_decide_eq_true (by first | (with_reducible assumption) | assumption) | (have e_ := (Kd.S_reads' HO_7.out).1; omega))
               obtain ⟨ve173_0, rfl, ge173_0⟩ := hMe173
               have hv173_0 := hcc173 0 _ rfl
               rw [Nat.add_zero, show ((Kd.slice 5 (Kd.int .u8))).sz = 1 from rfl, Nat.mul_one] at hv173_0
               replace hv173_0 := Option.some.inj (hv173_0.symm.trans hx173_0)
               rw [hv173_0] at ge173_0
               have HL173_0 := Aside0.mk (show Kd.R (Kd.int .u8) 5 _ _ _ _ (rd_L1 t170 x8_4) from ge173_0)
               clear hv173_0 ge173_0
               clear hcc173 hce173
               have HR173_0 := Aside0.mk hi173_0
               have HC173_0 := Aside0.mk hl173_0
               clear hi173_0 hl173_0
               replace p173 := eq_true p173
               replace q173 := eq_true q173
               go_wp2_with (first | ((with_reducible refine gate_callee (f := 32) rfl ?_); refine goesL_ (some 38) rfl rfl Tryd.func32 (by kernel_rfl) rfl #[.slice A173_0 (rd_L1 t170 x8_4).length c173_0] rfl (by (try simp only [List.map_toArray, List.map_cons, List.map_nil]); first | done | rfl | (simp only [List.length_drop, List.length_take]; rfl)) ?_; (with_reducible refine (scarfref18_runs.calls k4 _ _ (rd_L1 t170 x8_4) t174 _ ?side1 ?side2 A13.out).mono ?_); (case side1 => repeat (first | exact (by repeat (first | (with_reducible exact HR173_0.out) | (with_reducible refine Kd.C_alloc ?_ _) | (with_reducible refine Kd.C_drewN ?_ _) | (with_reducible refine Kd.C_drew ?_) | exact HR173_0.out)) | (with_reducible refine Kd.C_alloc ?_ _) | (with_reducible refine Kd.C_drewN ?_ _) | (with_reducible refine Kd.C_drew ?_))); (case side2 => exact HC173_0.out); rintro e w' ⟨rfl, ⟨nd, rfl⟩⟩; refine ⟨_, rfl, ?_⟩))
               go_roundg k4
               case measure => have := HJ2.out; have := HJ4.out; have := HK3.out; have := HK4.out; omega
               case rel => exact ⟨(x5_4), (wrap64 (x8_4 + 1)), (by first | rfl | (simp; done) | (simp [*]; done)), (by first | rfl | (simp; done) | (simp [*]; done)), H', ⟨by have := HJ2.out; have := HJ4.out; have := HK3.out; have := HK4.out; omega⟩, ⟨by (with_reducible repeat (first | apply Kd.S_alloc | apply Kd.S_drewN | apply Kd.S_drew)); exact HO_7.out⟩, ⟨by repeat (first | (with_reducible first | exact HB.out | apply below_alloc | apply pw_below_drewN | apply below_drew1) | exact HB.out)⟩⟩
             ·rw [if_neg c14] at H
              have c14b0 : decide (0 < t174) = false := decide_eq_false c14
              clear c14
              have H' := Aside0.mk H
              clear H
              obtain ⟨Ao18, co18, eo18⟩ := Kd.S_slice HO_7.out
              subst eo18
              (try clear hx173_0)
              (try clear hx173_0)
              (repeat (first | clear HS0_ | clear HS1_ | clear HS2_ | clear HS3_ | clear HS4_ | clear HS5_ | clear HS6_ | clear HS7_ | clear HS8_ | clear HS9_ | clear HS10_ | clear HS11_ | clear HS12_ | clear HS13_ | clear HS14_ | clear HS15_ | clear HS16_ | clear HS17_ | clear HS18_ | clear HS19_ | clear HS20_ | clear HS21_ | clear HS22_ | clear HS23_))
              (try clear hHeld)
              have p173 : 0 ≤ (x8_4 : Int) := of_decide_eq_true (by first | (with_reducible assumption) | assumption)
              have q173 : x8_4 < (t170.length : Int) := of_decide_eq_true (by first | (with_reducible assumption) | assumption)
              obtain ⟨ad173, A173_0, c173_0, e173, hx173_0, hl173_0, hi173_0⟩ := at_L1 (Kd.S_reads' HO_7.out).2.2 x8_4 p173 q173
              cases e173
              obtain ⟨ce173, hce173, hMe173, hcc173⟩ := Kd.S_get HO_7.out [] x8_4 p173 (by first | exact q173 | exact of_decide_eq_true (by first | (with_reducible assumption) | assumption) | (have e_ := (Kd.S_reads' HO_7.out).1; omega))
              obtain ⟨ve173_0, rfl, ge173_0⟩ := hMe173
              have hv173_0 := hcc173 0 _ rfl
              rw [Nat.add_zero, show ((Kd.slice 5 (Kd.int .u8))).sz = 1 from rfl, Nat.mul_one] at hv173_0
              replace hv173_0 := Option.some.inj (hv173_0.symm.trans hx173_0)
              rw [hv173_0] at ge173_0
              have HL173_0 := Aside0.mk (show Kd.R (Kd.int .u8) 5 _ _ _ _ (rd_L1 t170 x8_4) from ge173_0)
              clear hv173_0 ge173_0
              clear hcc173 hce173
              have HR173_0 := Aside0.mk hi173_0
              have HC173_0 := Aside0.mk hl173_0
              clear hi173_0 hl173_0
              replace p173 := eq_true p173
              replace q173 := eq_true q173
              go_wp2_with (first | ((with_reducible refine gate_callee (f := 32) rfl ?_); refine goesL_ (some 38) rfl rfl Tryd.func32 (by kernel_rfl) rfl #[.slice A173_0 (rd_L1 t170 x8_4).length c173_0] rfl (by (try simp only [List.map_toArray, List.map_cons, List.map_nil]); first | done | rfl | (simp only [List.length_drop, List.length_take]; rfl)) ?_; (with_reducible refine (scarfref18_runs.calls k4 _ _ (rd_L1 t170 x8_4) t174 _ ?side1 ?side2 A13.out).mono ?_); (case side1 => repeat (first | exact (by repeat (first | (with_reducible exact HR173_0.out) | (with_reducible refine Kd.C_alloc ?_ _) | (with_reducible refine Kd.C_drewN ?_ _) | (with_reducible refine Kd.C_drew ?_) | exact HR173_0.out)) | (with_reducible refine Kd.C_alloc ?_ _) | (with_reducible refine Kd.C_drewN ?_ _) | (with_reducible refine Kd.C_drew ?_))); (case side2 => exact HC173_0.out); rintro e w' ⟨rfl, ⟨nd, rfl⟩⟩; refine ⟨_, rfl, ?_⟩))
              go_roundg k4
              case measure => have := HJ2.out; have := HJ4.out; have := HK3.out; have := HK4.out; omega
              case rel => exact ⟨(x5_4), (wrap64 (x8_4 + 1)), (by first | rfl | (simp; done) | (simp [*]; done)), (by first | rfl | (simp; done) | (simp [*]; done)), H', ⟨by have := HJ2.out; have := HJ4.out; have := HK3.out; have := HK4.out; omega⟩, ⟨by (with_reducible repeat (first | apply Kd.S_alloc | apply Kd.S_drewN | apply Kd.S_drew)); exact HO_7.out⟩, ⟨by repeat (first | (with_reducible first | exact HB.out | apply below_alloc | apply pw_below_drewN | apply below_drew1) | exact HB.out)⟩⟩
            ·rw [if_neg c12] at H
             exact absurd H (by simp)
           ·rw [if_neg c11] at H
            have c11b0 : decide (x8_4 < (t170.length : Int)) = false := decide_eq_false c11
            clear c11
            have H' := Aside0.mk H
            clear H
            obtain ⟨Ao19, co19, eo19⟩ := Kd.S_slice HO_7.out
            subst eo19
            go_wp2
            go_roundg k4
            case measure => have := HJ2.out; have := HJ4.out; have := HK3.out; have := HK4.out; omega
            case rel => exact ⟨(x5_4), (wrap64 (x6_3 + 1)), (by first | rfl | (simp; done) | (simp [*]; done)), (by first | rfl | (simp; done) | (simp [*]; done)), H', ⟨by have := HJ2.out; have := HJ4.out; have := HK3.out; have := HK4.out; omega⟩, ⟨by repeat (first | (with_reducible first | exact HB.out | apply below_alloc | apply pw_below_drewN | apply below_drew1) | exact HB.out)⟩⟩
        ·rw [if_neg c8] at H
         exact absurd H (by simp)
       ·rw [if_neg c7] at H
        have c7b0 : decide (x6_3 < (l1.length : Int)) = false := decide_eq_false c7
        clear c7
        obtain rfl := Option.some.inj H
        go_wp2
        go_ret
        exact ⟨by first | rfl | (simp [errW_none, errW_some] <;> rfl) | (simp [*, errW_none, errW_some] <;> rfl), by repeat (first | (with_reducible first | exact HB.out | apply below_alloc | apply pw_below_drewN | apply below_drew1) | exact HB.out)⟩

-- NOT PRINTED: function 4 (scarflaw18_MarkLabels)

-- NOT PRINTED: function 18 (scarflaw18_few)

end Go.Proofs.YtnnnbeimehfiiaaDoor.Q

/-! The reference's Split, both Lengths, the reference's Labelled: what they answer. -/
set_option linter.unusedVariables false
set_option linter.unusedSimpArgs false
namespace Go.Proofs.YtnnnbeimehfiiaaDoor.Q
open Go Go.RowKit Go.Proofs.YtnnnbeimehfiiaaDoorW.PrintWords Go.Proofs.YtnnnbeimehfiiaaDoorW.PrintLast Go.Proofs.YtnnnbeimehfiiaaDoorW.PrintMore
/-- From some fuel on, it answers v. -/
def Ev {α : Type} (g : Nat → Option α) (v : α) : Prop := ∃ n, ∀ k, n ≤ k → g k = some v
theorem Ev.pure {α : Type} (v : α) : Ev (fun _ => some v) v := ⟨0, fun _ _ => rfl⟩
theorem Ev.of {α : Type} {g : Nat → Option α} {v : α} (h : ∀ k, g k = some v) : Ev g v := ⟨0, fun k _ => h k⟩
theorem leo_up {α : Type} {f : Nat → Option α} (h : ∀ k, LeO (f k) (f (k + 1))) {a : Nat} {r : α} (hr : f a = some r) : ∀ m, f (a + m) = some r
  | 0 => hr
  | m + 1 => h (a + m) r (leo_up h hr m)
theorem Ev.up {α : Type} {f : Nat → Option α} (h : ∀ k, LeO (f k) (f (k + 1))) {a : Nat} {r : α} (hr : f a = some r) : Ev f r := ⟨a, fun k hk => by have := leo_up h hr (k - a); rwa [show a + (k - a) = k by omega] at this⟩
theorem Ev.bind {α β : Type} {g : Nat → Option α} {v : α} {f : Nat → α → Option β} {u : β} (h : Ev g v) (hf : Ev (fun k => f k v) u) : Ev (fun k => (g k).bind (f k)) u := by
  obtain ⟨n, hn⟩ := h
  obtain ⟨m, hm⟩ := hf
  exact ⟨max n m, fun k hk => by show (g k).bind (f k) = _; rw [hn k (by omega)]; exact hm k (by omega)⟩
theorem Ev.step {α : Type} {g : Nat → Option α} {v : α} (h : Ev (fun k => g (k + 1)) v) : Ev g v := by
  obtain ⟨n, hn⟩ := h
  refine ⟨n + 1, fun k hk => ?_⟩
  obtain ⟨j, rfl⟩ : ∃ j, k = j + 1 := ⟨k - 1, by omega⟩
  exact hn j (by omega)
theorem Ev.congr {α : Type} {g g' : Nat → Option α} {v : α} (h : Ev g v) (e : ∀ k, g' k = g k) : Ev g' v := by
  obtain ⟨n, hn⟩ := h
  exact ⟨n, fun k hk => (e k).trans (hn k hk)⟩
theorem Ev.has {α : Type} {g : Nat → Option α} {v : α} (h : Ev g v) : ∃ k, g k = some v := by
  obtain ⟨n, hn⟩ := h
  exact ⟨n, hn n (Nat.le_refl _)⟩
theorem trimB_snoc (r : List UInt8) (c : UInt8) : Lib.trimRightB (r ++ [c]) 32 = if c = 32 then Lib.trimRightB r 32 else r ++ [c] := by
  unfold Lib.trimRightB
  by_cases h : c = 32
  · simp [h]
  · simp [h, List.dropWhile_cons]
theorem trim_ev : ∀ (n : Nat) (u : List UInt8), u.length = n → n ≤ 100000 → Ev (fun k => scarfref18_Labelled.l1 k (u.map bnum)) ⟨(Lib.trimRightB u 32).toArray⟩
  | 0, u, h, _ => by
    obtain rfl := List.length_eq_zero_iff.1 h
    exact Ev.step (Ev.of fun k => by simp [scarfref18_Labelled.l1, strOfNums, Lib.trimRightB])
  | n + 1, u, h, hn => by
    rcases List.eq_nil_or_concat u with rfl | ⟨r, c, hu⟩
    · simp at h
    · obtain rfl : u = r ++ [c] := by simpa using hu
      have hr : r.length = n := by simpa using h
      have ih := trim_ev n r hr (by omega)
      have hw : wrap64 ((((r ++ [c]).map bnum).length : Int) - 1) = (n : Int) := by simp [hr]; unfold wrap64; omega
      have hl : (((r ++ [c]).map bnum).length : Int) = (n : Int) + 1 := by simp [hr]
      have hrd : rd ((r ++ [c]).map bnum) (n : Int) = bnum c := by
        rw [rd_get (by simp; omega)]; simp [hr]
      rw [trimB_snoc]
      by_cases hc : c = 32
      · rw [if_pos hc]
        refine Ev.step (Ev.congr ih fun k => ?_)
        rw [scarfref18_Labelled.l1, hw, hl, hrd, if_pos (by omega), if_pos (by omega), if_pos (by omega), if_pos (by rw [hc]; rfl), if_pos (by omega)]
        congr 1
        simp [← hr]
      · rw [if_neg hc]
        refine Ev.step (Ev.of fun k => ?_)
        have hc2 : ¬ bnum c = 32 := fun h => hc (UInt8.toNat_inj.1 (by unfold bnum at h; have : (32 : UInt8).toNat = 32 := rfl; omega))
        rw [scarfref18_Labelled.l1, hw, hl, hrd, if_pos (by omega), if_pos (by omega), if_pos (by omega), if_neg hc2, strOf_fix]
theorem bt_get {s : ByteArray} {i : Nat} {c : UInt8} (h : s.data.toList[i]? = some c) : bt s (i : Int) = bnum c := by
  have hlt : i < s.size := by have := (List.getElem?_eq_some_iff.1 h).1; simpa using this
  have := bt_at s (i : Int) (by simpa using hlt)
  rw [← this]
  have h2 := (List.getElem?_eq_some_iff.1 h).2
  simp only [bnum, ← h2, Int.toNat_natCast]
  simp [ByteArray.getElem_eq_getElem_data]
theorem lab_loop (s : ByteArray) (hs : s.size ≤ 100000) : ∀ (m i : Nat), min 200 s.size - i = m → i ≤ min 200 s.size → Ev (fun k => scarfref18_Labelled.l0 k s (((s.data.toList.take i).map fixC).map bnum) (i : Int)) (labB s)
  | 0, i, hm, hi => by
    have hts : s.data.toList.length = s.size := by simp
    have e : s.data.toList.take i = s.data.toList.take 200 := by
      by_cases h : s.size ≤ 200
      · rw [List.take_of_length_le (by omega), List.take_of_length_le (by omega)]
      · congr 1; omega
    have h1 := trim_ev _ ((s.data.toList.take 200).map fixC) rfl (by simp; omega)
    rw [e]
    refine Ev.step (Ev.step (Ev.congr h1 fun k => ?_))
    rw [scarfref18_Labelled.l0]
    by_cases h : (i : Int) < (s.size : Int)
    · rw [if_pos h, show decide ((i : Int) < 200) = false by simp; omega, scarfref18_Labelled.j1]; rfl
    · rw [if_neg h, scarfref18_Labelled.j1]; rfl
  | m + 1, i, hm, hi => by
    have hts : s.data.toList.length = s.size := by simp
    have hlt : i < s.data.toList.length := by omega
    obtain ⟨c, hc⟩ : ∃ c, s.data.toList[i]? = some c := ⟨_, List.getElem?_eq_getElem hlt⟩
    have ih := lab_loop s hs m (i + 1) (by omega) (by omega)
    have hx : ((s.data.toList.take (i + 1)).map fixC).map bnum = ((s.data.toList.take i).map fixC).map bnum ++ [bnum (fixC c)] := by
      rw [List.take_add_one, hc]; simp
    have hlen : (((s.data.toList.take i).map fixC).map bnum).length < 140737488355328 := by simp; omega
    rw [hx] at ih
    refine Ev.step (Ev.step (Ev.congr ih fun k => ?_))
    rw [scarfref18_Labelled.l0, if_pos (by omega), show decide ((i : Int) < 200) = true by simp; omega, scarfref18_Labelled.j1, if_pos rfl, if_pos (by omega), if_pos (by omega), bt_get hc, w64n (by omega)]
    by_cases h1 : bnum c < 32
    · rw [if_pos h1, if_pos hlen, fix_lo h1]; rfl
    · by_cases h2 : bnum c > 126
      · rw [if_neg h1, if_pos h2, if_pos hlen, fix_hi h2]; rfl
      · rw [if_neg h1, if_neg h2, if_pos hlen, fix_mid h1 h2]
theorem labelled_ev (s : ByteArray) (hs : s.size ≤ 100000) : Ev (fun k => scarfref18_Labelled.f k s) (labB s) := by
  have := lab_loop s hs _ 0 rfl (Nat.zero_le _)
  exact this
theorem linesOf_nl : ∀ (p r : List Int), (∀ x ∈ p, x ≠ 10) → linesOf (p ++ 10 :: r) = (p ++ [10]) :: linesOf r
  | [], r, _ => by simp [linesOf]
  | x :: p, r, h => by
    have ih := linesOf_nl p r (fun y hy => h y (List.mem_cons_of_mem _ hy))
    show (if x = 10 then [10] :: linesOf (p ++ 10 :: r) else match linesOf (p ++ 10 :: r) with | [] => [[x]] | y :: ys => (x :: y) :: ys) = _
    rw [if_neg (h x List.mem_cons_self), ih]
    rfl
theorem linesOf_one : ∀ (p : List Int), p ≠ [] → (∀ x ∈ p, x ≠ 10) → linesOf p = [p]
  | [], h, _ => absurd rfl h
  | [x], _, h => by simp [linesOf, h x List.mem_cons_self]
  | x :: y :: p, _, h => by
    have ih := linesOf_one (y :: p) (by simp) (fun z hz => h z (List.mem_cons_of_mem _ hz))
    unfold linesOf
    rw [if_neg (h x List.mem_cons_self), ih]
theorem split_loop (l : List Int) (hl : l.length ≤ 5000000000) : ∀ (m i : Nat) (x3 : List (List Int)) (x4 : List Int), l.length - i = m → i ≤ l.length → x3.length ≤ i → x4.length ≤ i → (∀ x ∈ x4, x ≠ 10) → (i = l.length → x4 = []) →
    Ev (fun k => scarfref02_Split.l0 k l x3 x4 (i : Int)) (x3 ++ linesOf (x4 ++ l.drop i))
  | 0, i, x3, x4, hm, hi, _, _, _, h0 => by
    have hil : i = l.length := by omega
    rw [h0 hil, List.drop_of_length_le (by omega)]
    refine Ev.step (Ev.of fun k => ?_)
    rw [scarfref02_Split.l0, if_neg (by omega)]
    simp [linesOf]
  | m + 1, i, x3, x4, hm, hi, h3, h4, hn, h0 => by
    have hlt : i < l.length := by omega
    have hd : l.drop i = l[i] :: l.drop (i + 1) := List.drop_eq_getElem_cons hlt
    have hw : wrap64 ((l.length : Int) - 1) = (l.length : Int) - 1 := by unfold wrap64; omega
    by_cases h10 : l[i] = 10
    · have ih := split_loop l hl m (i + 1) (x3 ++ [x4 ++ [10]]) [] (by omega) (by omega) (by simp; omega) (by simp) (by simp) (fun _ => rfl)
      rw [hd, h10, linesOf_nl x4 _ hn]
      rw [List.append_assoc, List.nil_append] at ih
      refine Ev.step (Ev.congr ih fun k => ?_)
      rw [scarfref02_Split.l0, if_pos (by omega), if_pos (by omega), if_pos (by omega), rd_get hlt, Option.bind_some, if_pos h10, if_pos (by omega), w64n (by omega), h10]
    · by_cases hlast : i + 1 = l.length
      · have ih := split_loop l hl m (i + 1) (x3 ++ [x4 ++ [l[i]]]) [] (by omega) (by omega) (by simp; omega) (by simp) (by simp) (fun _ => rfl)
        have hde : l.drop (i + 1) = [] := List.drop_of_length_le (by omega)
        rw [hd, hde, linesOf_one (x4 ++ [l[i]]) (by simp) (by
          intro x hx
          rcases List.mem_append.1 hx with hx | hx
          · exact hn x hx
          · rw [List.mem_singleton] at hx; rw [hx]; exact h10)]
        rw [hde] at ih
        simp only [List.append_nil, linesOf] at ih
        refine Ev.step (Ev.congr ih fun k => ?_)
        rw [scarfref02_Split.l0, if_pos (by omega), if_pos (by omega), if_pos (by omega), rd_get hlt, Option.bind_some, if_neg h10, if_pos (by rw [hw]; omega), if_pos (by omega), w64n (by omega)]
      · have ih := split_loop l hl m (i + 1) x3 (x4 ++ [l[i]]) (by omega) (by omega) (by omega) (by simp; omega) (by
          intro x hx
          rcases List.mem_append.1 hx with hx | hx
          · exact hn x hx
          · rw [List.mem_singleton] at hx; rw [hx]; exact h10) (fun h => absurd h hlast)
        rw [hd]
        rw [List.append_assoc] at ih
        refine Ev.step (Ev.congr ih fun k => ?_)
        rw [scarfref02_Split.l0, if_pos (by omega), if_pos (by omega), if_pos (by omega), rd_get hlt, Option.bind_some, if_neg h10, if_neg (by rw [hw]; omega), w64n (by omega)]
theorem split_ev (l : List Int) (hl : l.length ≤ 5000000000) : Ev (fun k => scarfref02_Split.f k l) (linesOf l) := by
  have := split_loop l hl _ 0 [] [] rfl (Nat.zero_le _) (Nat.le_refl _) (Nat.le_refl _) (by simp) (fun _ => rfl)
  show Ev (fun k => scarfref02_Split.l0 k l [] [] 0) _
  simpa using this
def stepL (n : Int) (x : List Int) : Int := if (sgn x).1 > 0 then mx n (((sgn x).1 : Nat) + 1 : Int) else n
def lenRow (n : Int) (l : List Int) : Int := (linesOf l).foldl stepL n
def lenAll (n : Int) (m : List (List Int)) : Int := m.foldl lenRow n
theorem stepL_b {n : Int} {x : List Int} (h : 1 ≤ n ∧ n ≤ 5000000001) (hx : x.length ≤ 5000000000) : 1 ≤ stepL n x ∧ stepL n x ≤ 5000000001 := by
  have := sgn_le x
  unfold stepL mx
  split
  · split <;> omega
  · exact h
theorem rdL_get {l : List (List Int)} {i : Nat} (h : i < l.length) : rd_L1 l (i : Int) = l[i] := by simp [rd_L1, List.getD_eq_getElem?_getD, List.getElem?_eq_getElem h]
theorem foldB : ∀ (l : List (List Int)) (n : Int), (1 ≤ n ∧ n ≤ 5000000001) → (∀ x ∈ l, x.length ≤ 5000000000) → 1 ≤ l.foldl stepL n ∧ l.foldl stepL n ≤ 5000000001
  | [], n, h, _ => h
  | x :: r, n, h, hx => foldB r _ (stepL_b h (hx x List.mem_cons_self)) (fun y hy => hx y (List.mem_cons_of_mem _ hy))
def okRow (l : List Int) : Prop := l.length ≤ 5000000000 ∧ ∀ x ∈ l, byte x
theorem okRow_lines {l : List Int} (h : okRow l) : ∀ x ∈ linesOf l, okRow x := fun x hx => ⟨Nat.le_trans (linesOf_mem l x hx) h.1, linesOf_all byte l x h.2 hx⟩
theorem len_in (m : List (List Int)) (i : Nat) (L : List (List Int)) (hL : L.length ≤ 5000000000) (hLr : ∀ x ∈ L, okRow x) (res : Int) (hi : i < m.length) (hm : m.length ≤ 5000000000) : ∀ (q j : Nat) (n : Int), L.length - j = q → j ≤ L.length → 1 ≤ n ∧ n ≤ 5000000001 →
    Ev (fun k => mark_Length.l0 k ((L.drop j).foldl stepL n) m (m.length : Int) ((i + 1 : Nat) : Int)) res → Ev (fun k => mark_Length.l1 k n m (m.length : Int) (i : Int) L (L.length : Int) (j : Int)) res
  | 0, j, n, hq, hj, hn, hk => by
    rw [List.drop_of_length_le (by omega)] at hk
    refine Ev.step (Ev.congr hk fun k => ?_)
    rw [mark_Length.l1, if_neg (by omega), w64n (by omega)]
    rfl
  | q + 1, j, n, hq, hj, hn, hk => by
    have hlt : j < L.length := by omega
    rw [List.drop_eq_getElem_cons hlt, List.foldl_cons] at hk
    have hr := hLr _ (List.getElem_mem hlt)
    have ih := len_in m i L hL hLr res hi hm q (j + 1) (stepL n L[j]) (by omega) (by omega) (stepL_b hn hr.1) hk
    obtain ⟨k0, hs⟩ := signs_ev L[j] hr.1 hr.2
    have hsE := Ev.up (fun k => mark_signs.mono L[j] k) hs
    refine Ev.step (Ev.congr (Ev.bind hsE (f := fun k t => if t.1 > 0 then mark_Length.l1 k (mx n (wrap64 (t.1 + 1))) m (m.length : Int) (i : Int) L (L.length : Int) (wrap64 ((j : Int) + 1)) else mark_Length.l1 k n m (m.length : Int) (i : Int) L (L.length : Int) (wrap64 ((j : Int) + 1))) (Ev.congr ih fun k => ?_)) fun k => ?_)
    · have h1 := sgn_le L[j]
      have h2 := hr.1
      simp only [w64n (show j ≤ 9223372036854775806 by omega)]
      rw [show wrap64 ((((sgn L[j]).1 : Nat) : Int) + 1) = (((sgn L[j]).1 : Nat) : Int) + 1 by unfold wrap64; omega]
      unfold stepL
      by_cases h : 0 < (sgn L[j]).1
      · rw [if_pos (show (((sgn L[j]).1 : Nat) : Int) > 0 by omega), if_pos h]
      · rw [if_neg (show ¬ (((sgn L[j]).1 : Nat) : Int) > 0 by omega), if_neg h]
    · rw [mark_Length.l1, if_pos (by omega), if_pos (by omega), if_pos (by omega), rdL_get hlt]
theorem len_out (m : List (List Int)) (hm : m.length ≤ 5000000000) (hr : ∀ l ∈ m, okRow l) : ∀ (q i : Nat) (n : Int), m.length - i = q → i ≤ m.length → 1 ≤ n ∧ n ≤ 5000000001 →
    Ev (fun k => mark_Length.l0 k n m (m.length : Int) (i : Int)) ((m.drop i).foldl lenRow n)
  | 0, i, n, hq, hi, _ => by
    rw [List.drop_of_length_le (by omega)]
    refine Ev.step (Ev.of fun k => ?_)
    rw [mark_Length.l0, if_neg (by omega)]
    rfl
  | q + 1, i, n, hq, hi, hn => by
    have hlt : i < m.length := by omega
    have ho := hr _ (List.getElem_mem hlt)
    have hln : (linesOf m[i]).length ≤ 5000000000 := Nat.le_trans (linesOf_len _) ho.1
    have ih := len_out m hm hr q (i + 1) (lenRow n m[i]) (by omega) (by omega) (foldB _ n hn (fun x hx => (okRow_lines ho x hx).1))
    rw [List.drop_eq_getElem_cons hlt, List.foldl_cons]
    have h1 := len_in m i (linesOf m[i]) hln (okRow_lines ho) _ hlt hm _ 0 n rfl (Nat.zero_le _) hn ih
    refine Ev.step (Ev.congr h1 fun k => ?_)
    rw [mark_Length.l0, if_pos (by omega), if_pos (by omega), if_pos (by omega), rdL_get hlt]
    have : line_Split.f m[i] = some (linesOf m[i]) := by
      unfold line_Split.f
      rw [if_pos]
      simp only [Bool.and_eq_true, List.all_eq_true, decide_eq_true_eq]
      exact ⟨fun x hx => ho.2 x hx, ho.1⟩
    rw [this]
    rfl
theorem length_ev (least : Int) (m : List (List Int)) (hm : m.length ≤ 5000000000) (hr : ∀ l ∈ m, okRow l) : Ev (fun k => mark_Length.f k least m) (lenAll (if 1 ≤ least ∧ least ≤ 1000 then least else 7) m) := by
  have h : ∀ n : Int, 1 ≤ n ∧ n ≤ 5000000001 → Ev (fun k => mark_Length.j1 k n m) (lenAll n m) := fun n hn => Ev.step (len_out m hm hr _ 0 n rfl (Nat.zero_le _) hn)
  by_cases h1 : least < 1
  · rw [if_neg (by omega)]
    exact Ev.congr (g := fun k => mark_Length.j0 k least m true) (Ev.step (Ev.congr (h 7 (by omega)) (fun k => rfl))) (fun k => by unfold mark_Length.f; rw [if_pos h1])
  · by_cases h2 : least > 1000
    · rw [if_neg (by omega)]
      exact Ev.congr (g := fun k => mark_Length.j0 k least m true) (Ev.step (Ev.congr (h 7 (by omega)) (fun k => rfl))) (fun k => by unfold mark_Length.f; rw [if_neg h1, show decide (least > 1000) = true by simpa using h2])
    · rw [if_pos (by omega)]
      exact Ev.congr (g := fun k => mark_Length.j0 k least m false) (Ev.step (Ev.congr (h least (by omega)) (fun k => rfl))) (fun k => by unfold mark_Length.f; rw [if_neg h1, show decide (least > 1000) = false by simpa using h2])
theorem rlen_in (m : List (List Int)) (i : Nat) (L : List (List Int)) (hL : L.length ≤ 5000000000) (hLr : ∀ x ∈ L, okRow x) (res : Int) (hi : i < m.length) (hm : m.length ≤ 5000000000) : ∀ (q j : Nat) (n : Int), L.length - j = q → j ≤ L.length → 1 ≤ n ∧ n ≤ 5000000001 →
    Ev (fun k => scarfref18_Length.l0 k m ((L.drop j).foldl stepL n) ((i + 1 : Nat) : Int)) res → Ev (fun k => scarfref18_Length.l1 k m n (i : Int) L (j : Int)) res
  | 0, j, n, hq, hj, hn, hk => by
    rw [List.drop_of_length_le (by omega)] at hk
    refine Ev.step (Ev.congr hk fun k => ?_)
    rw [scarfref18_Length.l1, if_neg (by omega), w64n (by omega)]
    rfl
  | q + 1, j, n, hq, hj, hn, hk => by
    have hlt : j < L.length := by omega
    rw [List.drop_eq_getElem_cons hlt, List.foldl_cons] at hk
    have hr := hLr _ (List.getElem_mem hlt)
    have ih := rlen_in m i L hL hLr res hi hm q (j + 1) (stepL n L[j]) (by omega) (by omega) (stepL_b hn hr.1) hk
    obtain ⟨k0, hs⟩ := runs_ev L[j] hr.1
    have hsE := Ev.up (fun k => scarfref18_runs.mono L[j] k) hs
    refine Ev.step (Ev.congr (Ev.bind hsE (f := fun k t => if t > 0 then (if t ≥ n then scarfref18_Length.l1 k m (wrap64 (t + 1)) (i : Int) L (wrap64 ((j : Int) + 1)) else scarfref18_Length.l1 k m n (i : Int) L (wrap64 ((j : Int) + 1))) else scarfref18_Length.l1 k m n (i : Int) L (wrap64 ((j : Int) + 1))) (Ev.congr ih fun k => ?_)) fun k => ?_)
    · have h1 := sgn_le L[j]
      have h2 := hr.1
      simp only [w64n (show j ≤ 9223372036854775806 by omega)]
      rw [show wrap64 ((((sgn L[j]).1 : Nat) : Int) + 1) = (((sgn L[j]).1 : Nat) : Int) + 1 by unfold wrap64; omega]
      unfold stepL mx
      by_cases h : 0 < (sgn L[j]).1
      · rw [if_pos (show (((sgn L[j]).1 : Nat) : Int) > 0 by omega), if_pos h]
        by_cases h3 : (((sgn L[j]).1 : Nat) : Int) ≥ n
        · rw [if_pos h3, if_pos (by omega)]
        · rw [if_neg h3, if_neg (by omega)]
      · rw [if_neg (show ¬ (((sgn L[j]).1 : Nat) : Int) > 0 by omega), if_neg h]
    · rw [scarfref18_Length.l1, if_pos (by omega), if_pos (by omega), rdL_get hlt]
theorem rlen_out (m : List (List Int)) (hm : m.length ≤ 5000000000) (hr : ∀ l ∈ m, okRow l) : ∀ (q i : Nat) (n : Int), m.length - i = q → i ≤ m.length → 1 ≤ n ∧ n ≤ 5000000001 →
    Ev (fun k => scarfref18_Length.l0 k m n (i : Int)) ((m.drop i).foldl lenRow n)
  | 0, i, n, hq, hi, _ => by
    rw [List.drop_of_length_le (by omega)]
    refine Ev.step (Ev.of fun k => ?_)
    rw [scarfref18_Length.l0, if_neg (by omega)]
    rfl
  | q + 1, i, n, hq, hi, hn => by
    have hlt : i < m.length := by omega
    have ho := hr _ (List.getElem_mem hlt)
    have hln : (linesOf m[i]).length ≤ 5000000000 := Nat.le_trans (linesOf_len _) ho.1
    have ih := rlen_out m hm hr q (i + 1) (lenRow n m[i]) (by omega) (by omega) (foldB _ n hn (fun x hx => (okRow_lines ho x hx).1))
    rw [List.drop_eq_getElem_cons hlt, List.foldl_cons]
    have h1 := rlen_in m i (linesOf m[i]) hln (okRow_lines ho) _ hlt hm _ 0 n rfl (Nat.zero_le _) hn ih
    refine Ev.step (Ev.congr (Ev.bind (split_ev m[i] ho.1) (f := fun k t => scarfref18_Length.l1 k m n (i : Int) t 0) h1) fun k => ?_)
    rw [scarfref18_Length.l0, if_pos (by omega), if_pos (by omega), rdL_get hlt]
theorem rlength_ev (least : Int) (m : List (List Int)) (hm : m.length ≤ 5000000000) (hr : ∀ l ∈ m, okRow l) : Ev (fun k => scarfref18_Length.f k least m) (lenAll (if 1 ≤ least ∧ least ≤ 1000 then least else 7) m) := by
  have h : ∀ n : Int, 1 ≤ n ∧ n ≤ 5000000001 → Ev (fun k => scarfref18_Length.j1 k m n) (lenAll n m) := fun n hn => Ev.step (rlen_out m hm hr _ 0 n rfl (Nat.zero_le _) hn)
  by_cases h1 : least ≥ 1
  · by_cases h2 : least ≤ 1000
    · rw [if_pos (by omega)]
      exact Ev.congr (g := fun k => scarfref18_Length.j0 k least m 7 true) (Ev.step (Ev.congr (h least (by omega)) (fun k => rfl))) (fun k => by unfold scarfref18_Length.f; rw [if_pos h1, show decide (least ≤ 1000) = true by simpa using h2])
    · rw [if_neg (by omega)]
      exact Ev.congr (g := fun k => scarfref18_Length.j0 k least m 7 false) (Ev.step (Ev.congr (h 7 (by omega)) (fun k => rfl))) (fun k => by unfold scarfref18_Length.f; rw [if_pos h1, show decide (least ≤ 1000) = false by simpa using h2])
  · rw [if_neg (by omega)]
    exact Ev.congr (g := fun k => scarfref18_Length.j0 k least m 7 false) (Ev.step (Ev.congr (h 7 (by omega)) (fun k => rfl))) (fun k => by unfold scarfref18_Length.f; rw [if_neg h1])
end Go.Proofs.YtnnnbeimehfiiaaDoor.Q

/-! MarkMoves in plain Lean: a text behind another; longer markers than any. -/
set_option linter.unusedVariables false
set_option linter.unusedSimpArgs false
namespace Go.Proofs.YtnnnbeimehfiiaaDoor.Q
open Go Go.RowKit Go.Proofs.YtnnnbeimehfiiaaDoorW.PrintWords Go.Proofs.YtnnnbeimehfiiaaDoorW.SL
theorem linesOf_cons (x : Int) (r : List Int) : linesOf (x :: r) = if x = 10 then [10] :: linesOf r else match linesOf r with | [] => [[x]] | y :: ys => (x :: y) :: ys := rfl
theorem linesOf_two : ∀ (p y : List Int), linesOf (p ++ 10 :: y) = linesOf (p ++ [10]) ++ linesOf y
  | [], y => by simp [linesOf]
  | z :: p, y => by
    have ih := linesOf_two p y
    rw [List.cons_append, List.cons_append, linesOf_cons, linesOf_cons, ih]
    by_cases hz : z = 10
    · rw [if_pos hz, if_pos hz]; rfl
    · rw [if_neg hz, if_neg hz]
      cases h : linesOf (p ++ [10]) with
      | nil =>
        exfalso
        cases p with
        | nil => simp [linesOf] at h
        | cons u q =>
          rw [List.cons_append, linesOf_cons] at h
          split at h
          · cases h
          · split at h <;> cases h
      | cons u us => rfl
def mg (q p : Pt) : Pt := ⟨false, q.text ++ p.text, p.s0, p.s1, p.s2⟩
def glue (l m : List Pt) : List Pt := match m with
  | [] => l
  | p :: r => match l.getLast? with
    | some q => if q.region = false ∧ p.region = false then l.dropLast ++ mg q p :: r else l ++ p :: r
    | none => p :: r
theorem glue_snoc (l m : List Pt) (q : Pt) (hm : m ≠ []) : glue l (m ++ [q]) = glue l m ++ [q] := by
  cases m with
  | nil => exact absurd rfl hm
  | cons p r =>
    simp only [List.cons_append, glue]
    cases l.getLast? with
    | none => rfl
    | some u => simp only; split <;> simp
theorem glue_ne (l m : List Pt) (hm : m ≠ []) : glue l m ≠ [] := by
  cases m with
  | nil => exact absurd rfl hm
  | cons p r =>
    simp only [glue]
    cases l.getLast? with
    | none => simp
    | some u => simp only; split <;> simp
/-- What is done to the last part is done to the last part of what is glued. -/
theorem glue_onLast (l : List Pt) (f : Pt → Pt) (hf : ∀ q p, f (mg q p) = mg q (f p)) (hr : ∀ p, (f p).region = p.region) : ∀ (m : List Pt), m ≠ [] → glue l (onLast f m) = onLast f (glue l m)
  | [], h => absurd rfl h
  | [p], _ => by
    simp only [onLast, glue]
    cases h : l.getLast? with
    | none => rfl
    | some u =>
      simp only [hr]
      split
      · rw [onLast_snoc, hf]
      · rw [onLast_snoc]
  | p :: q :: r, _ => by
    have e : onLast f (p :: q :: r) = p :: onLast f (q :: r) := rfl
    rw [e]
    have hs : ∀ (a : List Pt), onLast f (a ++ q :: r) = a ++ onLast f (q :: r) := by
      intro a
      induction a with
      | nil => rfl
      | cons u a ih =>
        cases a with
        | nil => rfl
        | cons v a => show u :: onLast f (v :: a ++ q :: r) = _; rw [ih]; rfl
    simp only [glue]
    cases h : l.getLast? with
    | none => rfl
    | some u =>
      simp only
      split
      · have := hs (l.dropLast ++ [mg u p]); simp only [List.append_assoc, List.singleton_append] at this; rw [this]
      · have := hs (l ++ [p]); simp only [List.append_assoc, List.singleton_append] at this; rw [this]
theorem glue_last (l m : List Pt) (p : Pt) : (glue l (m ++ [p])).getLast? = some p ∨ ∃ q, m = [] ∧ l.getLast? = some q ∧ q.region = false ∧ p.region = false ∧ (glue l (m ++ [p])).getLast? = some (mg q p) := by
  cases m with
  | cons u r => left; rw [glue_snoc _ _ _ (by simp)]; simp
  | nil =>
    simp only [List.nil_append, glue]
    cases h : l.getLast? with
    | none => left; simp
    | some q =>
      simp only
      split
      · rename_i h2; right; exact ⟨q, by first | rfl | trivial, by first | rfl | trivial | exact h, h2.1, h2.2, by simp⟩
      · left; simp
/-- Plain parts have no sides. -/
def PlainOk (l : List Pt) : Prop := ∀ p ∈ l, p.region = false → p.s0 = [] ∧ p.s1 = [] ∧ p.s2 = []
def StOk (s : List Pt × Nat) : Prop := PlainOk s.1 ∧ (s.2 ≠ 0 → ∃ fr p, s.1 = fr ++ [p] ∧ p.region = true)
theorem plain_snoc {l : List Pt} {p : Pt} (h : PlainOk l) (hp : p.region = false → p.s0 = [] ∧ p.s1 = [] ∧ p.s2 = []) : PlainOk (l ++ [p]) := fun q hq => by
  rcases List.mem_append.1 hq with hq | hq
  · exact h q hq
  · rw [List.mem_singleton] at hq; subst hq; exact hp
theorem plain_init {l : List Pt} {p : Pt} (h : PlainOk (l ++ [p])) : PlainOk l := fun q hq => h q (List.mem_append_left _ hq)
theorem step_ok {n : Nat} {s t : List Pt × Nat} {x : List Int} (h : rdStep n s x = some t) (hs : StOk s) : StOk t := by
  obtain ⟨m, st⟩ := s
  obtain ⟨hP, hR⟩ := hs
  simp only at hP hR
  unfold rdStep at h
  split at h
  · split at h
    · rename_i h0
      rcases snoc_cases m with rfl | ⟨fr, p, rfl⟩
      · simp at h; subst h
        exact ⟨plain_snoc (l := []) (fun q hq => by cases hq) (fun _ => ⟨rfl, rfl, rfl⟩), fun h => absurd rfl h⟩
      · have hg : (fr ++ [p]).getLast? = some p := by simp
        rw [hg] at h
        simp only at h
        split at h
        · injection h with h; subst h
          exact ⟨plain_snoc hP (fun _ => ⟨rfl, rfl, rfl⟩), fun h => absurd rfl h⟩
        · injection h with h; subst h
          refine ⟨?_, fun h => absurd rfl h⟩
          simp only [onLast_snoc]
          exact plain_snoc (plain_init hP) (fun hq => hP p (by simp) hq)
    · rename_i h0
      injection h with h; subst h
      obtain ⟨fr, p, rfl, hp⟩ := hR h0
      simp only [onLast_snoc]
      have hreg : (addSide p (st - 1) x).region = true := by rcases st - 1 with _ | _ | k <;> exact hp
      exact ⟨plain_snoc (plain_init hP) (fun hq => by rw [hreg] at hq; cases hq), fun _ => ⟨fr, _, rfl, hreg⟩⟩
  · split at h
    · injection h with h; subst h
      exact ⟨plain_snoc hP (fun hq => by cases hq), fun _ => ⟨m, _, rfl, rfl⟩⟩
    · split at h
      · rename_i h2
        injection h with h; subst h
        exact ⟨hP, fun _ => hR (by simp only at h2; omega)⟩
      · split at h
        · injection h with h; subst h
          exact ⟨hP, fun h => absurd rfl h⟩
        · cases h
theorem all_ok {n : Nat} : ∀ {l : List (List Int)} {s t : List Pt × Nat}, rdAll n l s = some t → StOk s → StOk t
  | [], s, t, h, hs => by simp only [rdAll, Option.some.injEq] at h; subst h; exact hs
  | x :: r, s, t, h, hs => by
    simp only [rdAll] at h
    obtain ⟨u, hu, h⟩ := Option.bind_eq_some_iff.1 h
    exact all_ok h (step_ok hu hs)
theorem step_glue {n : Nat} (l : List Pt) (hl : PlainOk l) {m : List Pt} {st : Nat} {x : List Int} (hne : st ≠ 0 → m ≠ []) : rdStep n (glue l m, st) x = (rdStep n (m, st) x).map (fun t => (glue l t.1, t.2)) := by
  unfold rdStep
  by_cases h0 : mkOf n x = 0
  · rw [if_pos h0, if_pos h0]
    by_cases hs : st = 0
    · subst hs
      simp only [if_true]
      rcases snoc_cases m with rfl | ⟨fr, p, rfl⟩
      · simp only [glue, List.getLast?_nil]
        cases h : l.getLast? with
        | none =>
          have : l = [] := by simpa using h
          subst this
          simp [glue]
        | some q =>
          obtain ⟨l', rfl⟩ : ∃ l', l = l' ++ [q] := by
            rcases snoc_cases l with rfl | ⟨l', u, rfl⟩
            · simp at h
            · simp at h; subst h; exact ⟨l', rfl⟩
          cases hq : q.region with
          | true => simp [glue, hq]
          | false =>
            obtain ⟨h1, h2, h3⟩ := hl q (by simp) hq
            simp [glue, hq, onLast_snoc, mg, addText]
            cases q; simp_all
      · have hp : (fr ++ [p]).getLast? = some p := by simp
        rw [hp]
        rcases glue_last l fr p with h | ⟨q, rfl, hq, hqr, hpr, h⟩
        · rw [h]
          simp only
          split
          · rw [Option.map_some]; simp only; rw [glue_snoc l (fr ++ [p]) _ (by simp)]
          · rw [Option.map_some]
            simp only
            rw [glue_onLast l (addText · x) (fun q p => by simp [addText, mg]) (fun p => rfl) _ (by simp)]
        · rw [h]
          simp only [mg, hpr, Bool.false_eq_true, if_false, Option.map_some]
          rw [glue_onLast l (addText · x) (fun q p => by simp [addText, mg]) (fun p => rfl) _ (by simp)]
    · rw [if_neg hs, if_neg hs, Option.map_some]
      simp only
      rw [glue_onLast l (addSide · (st - 1) x) (fun q p => by rcases st - 1 with _ | _ | k <;> rfl) (fun p => by rcases st - 1 with _ | _ | k <;> rfl) _ (hne hs)]
  · rw [if_neg h0, if_neg h0]
    split
    · rename_i h1
      rw [Option.map_some]
      simp only
      congr 2
      rcases snoc_cases m with rfl | ⟨fr, p, rfl⟩
      · simp only [glue, List.nil_append]
        cases h : l.getLast? with
        | none => have : l = [] := by simpa using h
                  subst this; rfl
        | some q => simp
      · rw [glue_snoc l (fr ++ [p]) _ (by simp)]
    · split
      · rfl
      · split <;> rfl
theorem all_glue {n : Nat} (l : List Pt) (hl : PlainOk l) : ∀ (r : List (List Int)) (m : List Pt) (st : Nat), (st ≠ 0 → m ≠ []) → rdAll n r (glue l m, st) = (rdAll n r (m, st)).map (fun t => (glue l t.1, t.2))
  | [], m, st, _ => rfl
  | x :: r, m, st, hne => by
    simp only [rdAll]
    rw [step_glue l hl hne]
    cases h : rdStep n (m, st) x with
    | none => rfl
    | some t =>
      obtain ⟨m2, st2⟩ := t
      exact all_glue l hl r m2 st2 (rdStep_ne h hne)
/-- A text behind another. -/
theorem read_two {n : Int} {x y : List Int} {p : List Int} (hx : x = p ++ [10]) {l m : List Pt} (h1 : readOf n x = (l, 0)) (h2 : readOf n y = (m, 0)) : readOf n (x ++ y) = (glue l m, 0) := by
  unfold readOf at *
  by_cases hn : n ≥ 1 ∧ n ≤ 16777216
  · rw [if_pos hn] at *
    have e : linesOf (x ++ y) = linesOf x ++ linesOf y := by
      rw [hx, List.append_assoc]; exact linesOf_two p y
    rw [e, rdAll_app]
    cases hA : rdAll n.toNat (linesOf x) ([], 0) with
    | none => rw [hA] at h1; simp at h1
    | some t =>
      obtain ⟨l', st⟩ := t
      rw [hA] at h1
      simp only at h1
      by_cases hst : st = 0
      · rw [if_pos hst] at h1
        injection h1 with h1 _
        subst hst h1
        have h3 := all_glue (n := n.toNat) l' (all_ok hA ⟨fun q hq => by (simp at hq), fun h => absurd rfl h⟩).1 (linesOf y) [] 0 (fun h => absurd rfl h)
        have e2 : glue l' [] = l' := rfl
        rw [e2] at h3
        simp only [Option.bind_some]
        rw [h3]
        cases hB : rdAll n.toNat (linesOf y) ([], 0) with
        | none => rw [hB] at h2; simp at h2
        | some t =>
          obtain ⟨m', st2⟩ := t
          rw [hB] at h2
          simp only at h2
          by_cases hst2 : st2 = 0
          · rw [if_pos hst2] at h2
            injection h2 with h2 _
            subst hst2 h2
            simp
          · rw [if_neg hst2] at h2; simp at h2
      · rw [if_neg hst] at h1; simp at h1
  · rw [if_neg hn] at h1; simp at h1
theorem lines_flat : ∀ l : List Int, (linesOf l).flatten = l
  | [] => rfl
  | x :: r => by
    have ih := lines_flat r
    rw [linesOf_cons]
    split
    · rename_i h; rw [List.flatten_cons, ih, h]; rfl
    · cases h : linesOf r with
      | nil => rw [h] at ih; rw [← ih]; rfl
      | cons y ys => rw [h] at ih; rw [← ih]; rfl
theorem stepL_ge (n : Int) (x : List Int) : n ≤ stepL n x ∧ (0 < (sgn x).1 → (((sgn x).1 : Nat) : Int) < stepL n x) := by
  unfold stepL mx
  split
  · split <;> omega
  · omega
theorem fold_ge : ∀ (l : List (List Int)) (n : Int), n ≤ l.foldl stepL n ∧ ∀ x ∈ l, 0 < (sgn x).1 → (((sgn x).1 : Nat) : Int) < l.foldl stepL n
  | [], n => ⟨Int.le_refl _, by simp⟩
  | y :: r, n => by
    have h := stepL_ge n y
    have ih := fold_ge r (stepL n y)
    refine ⟨Int.le_trans h.1 ih.1, fun x hx h0 => ?_⟩
    rcases List.mem_cons.1 hx with rfl | hx
    · have := h.2 h0; have := ih.1; simp only [List.foldl_cons]; omega
    · exact ih.2 x hx h0
theorem fold_le (B : Int) : ∀ (l : List (List Int)) (n : Int), n ≤ B + 1 → (∀ x ∈ l, (x.length : Int) ≤ B) → l.foldl stepL n ≤ B + 1
  | [], n, h, _ => h
  | y :: r, n, h, hx => by
    refine fold_le B r (stepL n y) ?_ (fun x hx2 => hx x (List.mem_cons_of_mem _ hx2))
    have h1 := sgn_le y
    have h2 := hx y List.mem_cons_self
    unfold stepL mx
    split
    · split <;> omega
    · exact h
theorem all_plain {N : Nat} : ∀ (r : List (List Int)) (T : List Int), (∀ x ∈ r, mkOf N x = 0) → rdAll N r ([⟨false, T, [], [], []⟩], 0) = some ([⟨false, T ++ r.flatten, [], [], []⟩], 0)
  | [], T, _ => by simp [rdAll]
  | x :: r, T, h => by
    have h1 : rdStep N ([⟨false, T, [], [], []⟩], 0) x = some ([⟨false, T ++ x, [], [], []⟩], 0) := by simp [rdStep, h x List.mem_cons_self, onLast, addText]
    simp only [rdAll, h1, Option.bind_some]
    rw [all_plain r (T ++ x) (fun y hy => h y (List.mem_cons_of_mem _ hy))]
    simp
/-- Markers longer than what any line begins with: one part. -/
theorem read_long {x : List Int} (hx : x ≠ []) (hl : x.length ≤ 5000) : readOf (lenAll 1 [x]) x = ([⟨false, x, [], [], []⟩], 0) ∧ 1 ≤ lenAll 1 [x] ∧ lenAll 1 [x] ≤ 5001 := by
  have e : lenAll 1 [x] = (linesOf x).foldl stepL 1 := rfl
  have h1 := fold_ge (linesOf x) 1
  have h2 := fold_le 5000 (linesOf x) 1 (by decide) (fun y hy => by have := linesOf_mem x y hy; omega)
  rw [← e] at h1 h2
  refine ⟨?_, h1.1, by omega⟩
  obtain ⟨N, hN⟩ := Int.eq_ofNat_of_zero_le (by omega : 0 ≤ lenAll 1 [x])
  rw [hN] at h1 h2 ⊢
  have hm : ∀ y ∈ linesOf x, mkOf N y = 0 := fun y hy => by
    unfold mkOf
    rw [if_neg]
    rintro ⟨h3, _⟩
    have := h1.2 y hy (by omega)
    omega
  unfold readOf
  rw [if_pos (by omega), Int.toNat_natCast]
  cases hL : linesOf x with
  | nil => have := lines_flat x; rw [hL] at this; exact absurd this.symm hx
  | cons y r =>
    rw [hL] at hm
    have h3 : rdStep N ([], 0) y = some ([⟨false, y, [], [], []⟩], 0) := by simp [rdStep, hm y List.mem_cons_self]
    have h4 := all_plain r y (fun z hz => hm z (List.mem_cons_of_mem _ hz))
    simp only [rdAll, h3, Option.bind_some, h4]
    have h5 := lines_flat x
    rw [hL, List.flatten_cons] at h5
    rw [h5]
    rfl
theorem step_pos {n : Nat} {s t : List Pt × Nat} {x : List Int} (h : rdStep n s x = some t) (hs : s.1 ≠ [] ∨ s.2 = 0) : t.1 ≠ [] := by
  have hol : ∀ (f : Pt → Pt) (l : List Pt), l ≠ [] → onLast f l ≠ [] := fun f l hl => by
    cases l with
    | nil => exact absurd rfl hl
    | cons a r => cases r <;> simp [onLast]
  unfold rdStep at h
  split at h
  · split at h
    · split at h
      · rename_i p hp
        split at h
        · injection h with h; subst h; simp
        · injection h with h; subst h; exact hol _ _ (by intro h; rw [h] at hp; cases hp)
      · injection h with h; subst h; simp
    · rename_i h2
      injection h with h; subst h; exact hol _ _ (hs.resolve_right h2)
  · split at h
    · injection h with h; subst h; simp
    · split at h
      · rename_i h2
        injection h with h; subst h; exact hs.resolve_right (by omega)
      · split at h
        · rename_i h2
          injection h with h; subst h; exact hs.resolve_right (by omega)
        · cases h
theorem all_pos {n : Nat} : ∀ {l : List (List Int)} {s t : List Pt × Nat}, rdAll n l s = some t → s.1 ≠ [] → t.1 ≠ []
  | [], s, t, h, hs => by simp only [rdAll, Option.some.injEq] at h; subst h; exact hs
  | x :: r, s, t, h, hs => by
    simp only [rdAll] at h
    obtain ⟨u, hu, h⟩ := Option.bind_eq_some_iff.1 h
    exact all_pos h (step_pos hu (.inl hs))
/-- A text that isn't empty and has parts has one at least. -/
theorem read_pos {n : Int} {x : List Int} (hx : x ≠ []) {l : List Pt} (h : readOf n x = (l, 0)) : l ≠ [] := by
  unfold readOf at h
  split at h
  · cases hA : rdAll n.toNat (linesOf x) ([], 0) with
    | none => rw [hA] at h; simp at h
    | some t =>
      obtain ⟨l', st⟩ := t
      rw [hA] at h
      simp only at h
      split at h
      · injection h with h _
        subst h
        cases hL : linesOf x with
        | nil => have := lines_flat x; rw [hL] at this; exact absurd this.symm hx
        | cons y r =>
          rw [hL] at hA
          simp only [rdAll] at hA
          obtain ⟨u, hu, hA⟩ := Option.bind_eq_some_iff.1 hA
          exact all_pos hA (step_pos hu (.inr rfl))
      · simp at h
  · simp at h
end Go.Proofs.YtnnnbeimehfiiaaDoor.Q

/-! A part's box that is made and filled while rows are gathered; parts' rows cut. -/
set_option linter.unusedVariables false
set_option linter.unusedSimpArgs false
namespace Go.Proofs.YtnnnbeimehfiiaaDoor.Q
open Go Go.RowKit Go.Proofs.YtnnnbeimehfiiaaDoorW.PrintWords Go.Proofs.YtnnnbeimehfiiaaDoorW.SL
/-- A part's box of five cells, from B on. -/
def Bx5 (B : Nat) (vp : Value) (cs : Array Value) (W : World) : Prop := ∃ gp, vp = .pointer (some ⟨gp, 0, none⟩) ∧ W.heap[gp]? = some (.cells cs 50 (0, 0)) ∧ B ≤ gp
theorem Bx5.below {B : Nat} {vp : Value} {cs : Array Value} {W W' : World} (h : Bx5 B vp cs W) (hb : Below W.heap.size W W') : Bx5 B vp cs W' := by
  obtain ⟨gp, e, h1, h2⟩ := h
  exact ⟨gp, e, (hb.block gp (Array.getElem?_eq_some_iff.1 h1).1).trans h1, h2⟩
theorem Bx5.grew {B : Nat} {vp : Value} {cs : Array Value} {W W' : World} {v : Value} {l : List Int} (h : Bx5 B vp cs W) (g : Grew B W W' v) (r : Rw B W v l) : Bx5 B vp cs W' := by
  obtain ⟨gp, e, h1, h2⟩ := h
  refine ⟨gp, e, (g.keep gp (Array.getElem?_eq_some_iff.1 h1).1 (fun he => ?_)).trans h1, h2⟩
  rcases r.2 with ⟨rfl, _⟩ | ⟨g', cap, cur, rfl, _, hg, _⟩
  · cases he
  · simp only [Value.ownBlock, Option.some.injEq] at he
    subst he
    rw [hg] at h1
    injection h1 with h1
    injection h1 with _ h1
    exact absurd h1 (by decide)
/-- All five cells are written. -/
theorem Bx5.fill {B : Nat} {gp : Nat} {c0 c1 c2 c3 c4 : Value} {W : World} (h : W.heap[gp]? = some (.cells #[c0, c1, c2, c3, c4] 50 (0, 0))) (hB : B ≤ gp) (u0 u1 u2 u3 u4 : Value) :
    Bx5 B (.pointer (some ⟨gp, 0, none⟩)) #[u0, u1, u2, u3, u4] (((((W.setCell ⟨gp, 0, none⟩ u0).setCell ⟨gp, 1, none⟩ u1).setCell ⟨gp, 2, none⟩ u2).setCell ⟨gp, 3, none⟩ u3).setCell ⟨gp, 4, none⟩ u4) ∧
      (∀ k, k ≠ gp → (((((W.setCell ⟨gp, 0, none⟩ u0).setCell ⟨gp, 1, none⟩ u1).setCell ⟨gp, 2, none⟩ u2).setCell ⟨gp, 3, none⟩ u3).setCell ⟨gp, 4, none⟩ u4).heap[k]? = W.heap[k]?) ∧
      (∀ w0, Below B w0 W → Below B w0 (((((W.setCell ⟨gp, 0, none⟩ u0).setCell ⟨gp, 1, none⟩ u1).setCell ⟨gp, 2, none⟩ u2).setCell ⟨gp, 3, none⟩ u3).setCell ⟨gp, 4, none⟩ u4)) ∧
      (((((W.setCell ⟨gp, 0, none⟩ u0).setCell ⟨gp, 1, none⟩ u1).setCell ⟨gp, 2, none⟩ u2).setCell ⟨gp, 3, none⟩ u3).setCell ⟨gp, 4, none⟩ u4).heap.size = W.heap.size := by
  have h1 := blk_set h 0 u0
  have h2 := blk_set h1 1 u1
  have h3 := blk_set h2 2 u2
  have h4 := blk_set h3 3 u3
  have h5 := blk_set h4 4 u4
  refine ⟨⟨gp, rfl, h5, hB⟩, fun k hk => ?_, fun w0 hb => ((((hb.setCell (p := ⟨gp, 0, none⟩) hB _).setCell (p := ⟨gp, 1, none⟩) hB _).setCell (p := ⟨gp, 2, none⟩) hB _).setCell (p := ⟨gp, 3, none⟩) hB _).setCell (p := ⟨gp, 4, none⟩) hB _, by simp [World.setCell]⟩
  rw [Below.heap_setCell _ _ _ _ hk, Below.heap_setCell _ _ _ _ hk, Below.heap_setCell _ _ _ _ hk, Below.heap_setCell _ _ _ _ hk, Below.heap_setCell _ _ _ _ hk]
theorem Rw.other {B : Nat} {W W' : World} {v : Value} {l : List Int} {gp : Nat} {cs : Array Value} (r : Rw B W v l) (hg : W.heap[gp]? = some (.cells cs 50 (0, 0))) (h : ∀ k, k ≠ gp → W'.heap[k]? = W.heap[k]?) : Rw B W' v l := by
  refine own_move r (fun k hk => h k (fun e => ?_))
  subst e
  rcases r.2 with ⟨rfl, _⟩ | ⟨g', cap, cur, rfl, _, hg', _⟩
  · cases hk
  · simp only [Value.ownBlock, Option.some.injEq] at hk
    subst hk
    rw [hg'] at hg
    injection hg with hg
    injection hg with _ hg
    exact absurd hg (by decide)
theorem part_take {l lf : List Pt} {p : Pt} (hl : l = lf ++ [p]) (A : Option Addr) (c : Nat) (hc : l.length ≤ c) : ∀ W : World, (Instr.slice 23 (.slice A l.length c) none (some (.int .i64 ((l.length : Int) - 1))) none).run Tryd.prog W = .ok (.slice A lf.length c) W := by
  obtain ⟨i0, hi, hz0, hz1, hz2⟩ := info_parts inf50
  have h := cut_to (P := Tryd.prog) 23 50 .i64 Tryd.underlying23 hi A l.length c ((l.length : Int) - 1) (by rw [hl]; simp) (by omega) hc
  rw [show ((l.length : Int) - 1).toNat = lf.length by rw [hl]; simp] at h
  exact h
theorem part_drop {m mr : List Pt} {q : Pt} (hm : m = q :: mr) (A : Option Addr) (c : Nat) (hc : m.length ≤ c) : ∃ A', (∀ W : World, (Instr.slice 23 (.slice A m.length c) (some (.int .i64 1)) none none).run Tryd.prog W = .ok (.slice A' mr.length (c - 1)) W) ∧ ∀ (W : World) (ok : Nat → Prop), Kd.F kP W ok A m.length m → Kd.F kP W ok A' mr.length mr := by
  obtain ⟨i0, hi, hz0, hz1, hz2⟩ := info_parts inf50
  have h := cut_from (P := Tryd.prog) 23 50 .i64 Tryd.underlying23 hi 5 hz1 A m.length c 1 (by decide) (by rw [hm]; simp; omega)
  have e : m.length - 1 = mr.length := by rw [hm]; simp
  have e1 : (1 : Int).toNat = 1 := rfl
  rw [e1, e] at h
  refine ⟨_, h, fun W ok hF => ?_⟩
  have h2 := Kd.F_cut hF (m := 1) (by rw [hm]; simp) hc
  have e2 : m.drop 1 = mr := by rw [hm]; rfl
  rw [e2] at h2
  exact h2
/-- A literal's row of one part. -/
def Lt5 (vl : Value) (cs : List Value) (W : World) : Prop := ∃ g, vl = .slice (some ⟨g, 0, none⟩) 1 1 ∧ W.heap[g]? = some (.cells cs.toArray 50 (0, 0))
theorem Lt5.below {vl : Value} {cs : List Value} {W W' : World} (h : Lt5 vl cs W) (hb : Below W.heap.size W W') : Lt5 vl cs W' := by
  obtain ⟨g, e, h1⟩ := h
  exact ⟨g, e, (hb.block g (Array.getElem?_eq_some_iff.1 h1).1).trans h1⟩
def Ap5 (vl v : Value) : Prop := ∀ g, vl = .slice (some ⟨g, 0, none⟩) 1 1 → v.ownBlock ≠ some g
theorem Lt5.grew {B : Nat} {vl v : Value} {cs : List Value} {W W' : World} (h : Lt5 vl cs W) (g : Grew B W W' v) (a : Ap5 vl v) : Lt5 vl cs W' := by
  obtain ⟨k, e, h1⟩ := h
  exact ⟨k, e, (g.keep k (Array.getElem?_eq_some_iff.1 h1).1 (a k e)).trans h1⟩
theorem Ap5.next {vl v v1 : Value} {cs : List Value} {W : World} (a : Ap5 vl v) (h : Lt5 vl cs W) (hat : v1.ownBlock = v.ownBlock ∨ v1.ownBlock = some W.heap.size) : Ap5 vl v1 := by
  intro g e he
  obtain ⟨k, e2, h1⟩ := h
  rw [e2] at e
  injection e with e
  injection e with e
  injection e with e
  subst e
  rcases hat with hat | hat
  · exact a _ e2 (hat ▸ he)
  · rw [hat] at he; injection he with he; have := (Array.getElem?_eq_some_iff.1 h1).1; omega
theorem Ap5.fresh {vl : Value} {cs : List Value} {W : World} (h : Lt5 vl cs W) : Ap5 vl (.slice (some ⟨W.heap.size, 0, none⟩) 0 0) := by
  intro g e he
  obtain ⟨k, e2, h1⟩ := h
  rw [e2] at e
  injection e with e
  injection e with e
  injection e with e
  subst e
  simp only [Value.ownBlock, Option.some.injEq] at he
  have := (Array.getElem?_eq_some_iff.1 h1).1
  omega
theorem Ap5.lit {B : Nat} {Z : Nat → Prop} {v : Value} {ps : List Pt} {W : World} (r : Rp B Z W v ps) : Ap5 (.slice (some ⟨W.heap.size, 0, none⟩) 1 1) v := by
  intro g e he
  injection e with e
  injection e with e
  injection e with e
  subst e
  obtain ⟨cells, h1, _⟩ := r
  have := own_lt h1 _ he
  omega
theorem read_ok {n : Int} {x : List Int} {l : List Pt} {e : Int} (h : readOf n x = (l, e)) : PlainOk l := by
  have hn : PlainOk [] := fun q hq => by simp at hq
  unfold readOf at h
  split at h
  · cases hA : rdAll n.toNat (linesOf x) ([], 0) with
    | none => rw [hA] at h; simp at h; rw [h.1]; exact hn
    | some t =>
      obtain ⟨l', st⟩ := t
      rw [hA] at h
      simp only at h
      split at h
      · injection h with h _; subst h
        exact (all_ok hA ⟨hn, fun h => absurd rfl h⟩).1
      · simp at h; rw [h.1]; exact hn
  · simp at h; rw [h.1]; exact hn
theorem glue_both {l lf m mr : List Pt} {p q : Pt} (hl : l = lf ++ [p]) (hm : m = q :: mr) (hp : p.region = false) (hq : q.region = false) (ho : PlainOk m) : glue l m = lf ++ [⟨false, p.text ++ q.text, [], [], []⟩] ++ mr := by
  obtain ⟨h1, h2, h3⟩ := ho q (by rw [hm]; simp) hq
  rw [hl, hm]
  simp [glue, hp, hq, mg, h1, h2, h3]
end Go.Proofs.YtnnnbeimehfiiaaDoor.Q

-- Written by a program of this session (wip/gen_mko.py) for this claim; Lean checks it.
/-! scarfref18.any; bytes.TrimSuffix at a newline; mark.markerOf: walked. -/
set_option linter.unusedVariables false
set_option linter.unusedSimpArgs false
namespace Go.Proofs.YtnnnbeimehfiiaaDoor.Q
open Go Go.RowKit Go.Proofs.YtnnnbeimehfiiaaDoorW.PrintWords Go.Proofs.YtnnnbeimehfiiaaDoorW.PrintLast Go.Proofs.YtnnnbeimehfiiaaDoorW.PrintMore
attribute [local go_sem] max2_int min2_int max_two min_two max_three min_three max_four min_four
set_option maxHeartbeats 8000000 in
set_option maxRecDepth 100000 in
theorem any_calls (n : Nat) (hn : 1 ≤ n) (A : Option Addr) (c : Nat) (l : List Int) (w : World) (hr : Kd.C B8 w A l.length l) (hc : l.length ≤ c) (hb : ∀ x ∈ l, byte x) (hlen : l.length ≤ 5000000000) :
    Calls Tryd.prog 28 #[.int .i64 (n : Int), .slice A l.length c] w fun e w' => e = .returned (.bool (anyOf n l)) ∧ Below w.heap.size w w' := by
  have HR := Aside0.mk hr; have HC := Aside0.mk hc; have HB := Aside0.mk hb; have HL := Aside0.mk hlen
  clear hr hc hb hlen
  have hB : Below w.heap.size w w := Below.refl _ _
  unfold anyOf
  go_enter Tryd.func28, Tryd.ntmps28
  cases e0 : isOf n l 60 with
  | true =>
    go_wp2_with (go_at_call 29; refine (is_calls n hn A c l _ _ (Kd.C_below HR.out hB) HC.out HB.out HL.out).mono ?_; rintro e w1 ⟨rfl, hb1⟩; replace hB := hB.trans (below_lo hb1 hB.size))
    go_ret
    exact ⟨by simp, hB⟩
  | false =>
    cases e1 : isOf n l 124 with
    | true =>
      go_wp2_with (go_at_call 29; refine (is_calls n hn A c l _ _ (Kd.C_below HR.out hB) HC.out HB.out HL.out).mono ?_; rintro e w1 ⟨rfl, hb1⟩; replace hB := hB.trans (below_lo hb1 hB.size))
      go_ret
      exact ⟨by simp, hB⟩
    | false =>
      cases e2 : isOf n l 61 with
      | true =>
        go_wp2_with (go_at_call 29; refine (is_calls n hn A c l _ _ (Kd.C_below HR.out hB) HC.out HB.out HL.out).mono ?_; rintro e w1 ⟨rfl, hb1⟩; replace hB := hB.trans (below_lo hb1 hB.size))
        go_ret
        exact ⟨by simp, hB⟩
      | false =>
        cases e3 : isOf n l 62 with
        | true =>
          go_wp2_with (go_at_call 29; refine (is_calls n hn A c l _ _ (Kd.C_below HR.out hB) HC.out HB.out HL.out).mono ?_; rintro e w1 ⟨rfl, hb1⟩; replace hB := hB.trans (below_lo hb1 hB.size))
          go_ret
          exact ⟨by simp, hB⟩
        | false =>
          go_wp2_with (go_at_call 29; refine (is_calls n hn A c l _ _ (Kd.C_below HR.out hB) HC.out HB.out HL.out).mono ?_; rintro e w1 ⟨rfl, hb1⟩; replace hB := hB.trans (below_lo hb1 hB.size))
          go_ret
          exact ⟨by simp, hB⟩
end Go.Proofs.YtnnnbeimehfiiaaDoor.Q

/-! The document's Read: what the walk needs. -/
set_option linter.unusedVariables false
set_option linter.unusedSimpArgs false
namespace Go.Proofs.YtnnnbeimehfiiaaDoor.Q
open Go Go.RowKit Go.Proofs.YtnnnbeimehfiiaaDoorW.PrintWords Go.Proofs.YtnnnbeimehfiiaaDoorW.SL
def sgk : Nat → Int
  | 0 => 60
  | 1 => 124
  | 2 => 61
  | _ => 62
def stk (ps : List Pt) (p : Pt) (k : Nat) : List Pt × Nat := if k = 0 then (ps, 0) else if k = 4 then (ps ++ [p], 0) else (ps ++ [p], k)
theorem stk_sign {N : Nat} {ps : List Pt} {p : Pt} {k : Nat} {x : List Int} (hk : k < 4) (hx : mkOf N x = sgk k) (hp : k = 0 → p = nwPt true) : rdStep N (stk ps p k) x = some (stk ps p (k + 1)) := by
  rcases k with _ | _ | _ | _ | k
  · rw [hp rfl]; simp [stk, rdStep, hx, sgk]
  · simp [stk, rdStep, hx, sgk]
  · simp [stk, rdStep, hx, sgk]
  · simp [stk, rdStep, hx, sgk]
  · omega
theorem stk_line {N : Nat} {ps : List Pt} {p : Pt} {k : Nat} {x : List Int} (hk : 1 ≤ k) (hk3 : k < 4) (hx : mkOf N x = 0) : rdStep N (stk ps p k) x = some (stk ps (addF p x k) k) := by
  rcases k with _ | _ | _ | _ | k
  · omega
  · simp [stk, rdStep, hx, onLast_snoc, addF, addSide]
  · simp [stk, rdStep, hx, onLast_snoc, addF, addSide]
  · simp [stk, rdStep, hx, onLast_snoc, addF, addSide]
  · omega
theorem stk_bad {N : Nat} (hN : 1 ≤ N) {ps : List Pt} {p : Pt} {k : Nat} {x : List Int} (hk : k < 4) (hx : mkOf N x ≠ 0) (hx2 : mkOf N x ≠ sgk k) : rdStep N (stk ps p k) x = none := by
  have hc := mkOf_cases hN x
  rcases k with _ | _ | _ | _ | k
  · rcases hc with h | h | h | h | h <;> simp_all [stk, rdStep, sgk]
  · rcases hc with h | h | h | h | h <;> simp_all [stk, rdStep, sgk]
  · rcases hc with h | h | h | h | h <;> simp_all [stk, rdStep, sgk]
  · rcases hc with h | h | h | h | h <;> simp_all [stk, rdStep, sgk]
  · omega
theorem plain_first {N : Nat} {ps : List Pt} {x : List Int} (hx : mkOf N x = 0) (hr : ps = [] ∨ ∃ fr p, ps = fr ++ [p] ∧ p.region = true) : rdStep N (ps, 0) x = some (ps ++ [⟨false, [] ++ x, [], [], []⟩], 0) := by
  rcases hr with rfl | ⟨fr, p, rfl, hp⟩
  · simp [rdStep, hx]
  · simp [rdStep, hx, hp]
theorem plain_more {N : Nat} {ps : List Pt} {T x : List Int} (hx : mkOf N x = 0) : rdStep N (ps ++ [⟨false, T, [], [], []⟩], 0) x = some (ps ++ [⟨false, T ++ x, [], [], []⟩], 0) := by
  simp [rdStep, hx, onLast_snoc, addText]
/-- A part whose rows are kept. -/
def kp1 (p : Pt) (cs : List Value) : FA := ⟨fun w Z => Kd.FK kP w Z p cs, fun h hs hZ => Kd.FK_mono (Kd.FK_step h (fun k hk hl => hs k hk hl)) hZ⟩
theorem AsI.less {w0 w : World} {F0 : List FA} {a : FA} {ps : List Pt} {vo : Value} (h : AsI w0 (a :: F0) ps vo w) : AsI w0 F0 ps vo w := by
  obtain ⟨Z, cells, S⟩ := h
  refine ⟨Z, cells, S.st, fun b hb => S.fr b ?_, S.old⟩
  rcases List.mem_cons.1 hb with rfl | hb
  · exact List.mem_cons_self
  · exact List.mem_cons_of_mem _ (List.mem_cons_of_mem _ hb)
/-- The text that is being gathered beside the parts. -/
def TxI (w0 : World) (F0 : List FA) (ps : List Pt) (vo : Value) (T : List Int) (vT : Value) (W : World) : Prop :=
  ∃ (Z : Nat → Prop) (cells : List Value), Stt w0 Z [row vT 5 1 T.length (us8 T), row vo 44 5 ps.length cells] (kpF ps cells :: F0) W
theorem TxI.start {w0 w : World} {F0 : List FA} {ps : List Pt} {vo : Value} (h : AsI w0 F0 ps vo w) : TxI w0 F0 ps vo [] (.slice none 0 0) w := by
  obtain ⟨Z, cells, S⟩ := h
  exact ⟨Z, cells, S.with (S.st.row_nil 5 1)⟩
theorem TxI.keep {w0 w w' : World} {F0 : List FA} {ps : List Pt} {vo vT : Value} {T : List Int} (h : TxI w0 F0 ps vo T vT w) (hb : Below w.heap.size w w') : TxI w0 F0 ps vo T vT w' := by
  obtain ⟨Z, cells, S⟩ := h
  exact ⟨Z, cells, S.keep hb⟩
theorem TxI.own {w0 w : World} {F0 : List FA} {ps : List Pt} {vo vT : Value} {T : List Int} (h : TxI w0 F0 ps vo T vT w) : w.ownsRow 0 5 1 vT T.length (us8 T) := by
  obtain ⟨Z, cells, S⟩ := h
  exact S.rowAt 0 rfl
theorem TxI.fr {w0 w : World} {F0 : List FA} {ps : List Pt} {vo vT : Value} {T : List Int} (h : TxI w0 F0 ps vo T vT w) : ∃ Z : Nat → Prop, ∀ a ∈ F0, a.P w Z := by
  obtain ⟨Z, cells, S⟩ := h
  exact ⟨Z, fun a ha => S.fr a (List.mem_cons_of_mem _ ha)⟩
theorem TxI.app {w0 w w1 : World} {F0 : List FA} {ps : List Pt} {vo vT v1 : Value} {T : List Int} (h : TxI w0 F0 ps vo T vT w) (x : List Int) (ho : w1.ownsRow 0 5 1 v1 (T.length + x.length) (us8 T ++ us8 x)) (hg : w.grownBy w1 vT.ownBlock) (hat : v1.ownBlock = vT.ownBlock ∨ v1.ownBlock = some w.heap.size) : TxI w0 F0 ps vo (T ++ x) v1 w1 := by
  obtain ⟨Z, cells, S⟩ := h
  have S2 := S.updRow 0 rfl ho hg (hat.imp id (fun h => ⟨_, h, Nat.le_refl _⟩))
  refine ⟨Z, cells, ?_⟩
  rw [show (T ++ x).length = T.length + x.length from List.length_append, show us8 (T ++ x) = us8 T ++ us8 x from List.map_append]
  exact S2
theorem TxI.done {w0 w : World} {F0 : List FA} {ps : List Pt} {vo vT : Value} {T : List Int} (h : TxI w0 F0 ps vo T vT w) : AsI w0 (kp1 ⟨false, T, [], [], []⟩ [.bool false, vT, .slice none 0 0, .slice none 0 0, .slice none 0 0] :: F0) ps vo w := by
  obtain ⟨Z, cells, S⟩ := h
  have S2 := Stt.freezeHead S
  refine ⟨_, cells, S2.st, fun a ha => ?_, S2.old⟩
  rcases List.mem_cons.1 ha with rfl | ha
  · exact S2.fr _ (by simp)
  · rcases List.mem_cons.1 ha with rfl | ha
    · obtain ⟨A1, c1, rfl, l1, f1⟩ := ownF_F (S2.fr (ownF vT 5 1 T.length (us8 T)) (by simp))
      have hn : ∀ Z' : Nat → Prop, ([] : List Int).length ≤ 0 ∧ Kd.F B8 w Z' none ([] : List Int).length [] := fun Z' => ⟨Nat.le_refl _, fun W' _ => Kd.C_nil B8 W'⟩
      exact kP_mkF w _ ⟨false, T, [], [], []⟩ ⟨l1, f1⟩ (hn _) (hn _) (hn _)
    · exact S2.fr a (by simp [ha])
/-- The box of the part in hand beside the parts. -/
def BxI (w0 : World) (F0 : List FA) (ps : List Pt) (vo : Value) (g : Nat) (p : Pt) (W : World) : Prop :=
  ∃ (Z : Nat → Prop) (cells : List Value) (vT v0 v1 v2 : Value),
    Stt w0 Z [row vT 5 1 p.text.length (us8 p.text), row v0 5 1 p.s0.length (us8 p.s0), row v1 5 1 p.s1.length (us8 p.s1), row v2 5 1 p.s2.length (us8 p.s2), blk g 44 #[.bool p.region, vT, v0, v1, v2], row vo 44 5 ps.length cells] (kpF ps cells :: F0) W
theorem BxI.keep {w0 w w' : World} {F0 : List FA} {ps : List Pt} {vo : Value} {g : Nat} {p : Pt} (h : BxI w0 F0 ps vo g p w) (hb : Below w.heap.size w w') : BxI w0 F0 ps vo g p w' := by
  obtain ⟨Z, cells, vT, v0, v1, v2, S⟩ := h
  exact ⟨Z, cells, vT, v0, v1, v2, S.keep hb⟩
theorem BxI.fr {w0 w : World} {F0 : List FA} {ps : List Pt} {vo : Value} {g : Nat} {p : Pt} (h : BxI w0 F0 ps vo g p w) : ∃ Z : Nat → Prop, ∀ a ∈ F0, a.P w Z := by
  obtain ⟨Z, cells, vT, v0, v1, v2, S⟩ := h
  exact ⟨Z, fun a ha => S.fr a (List.mem_cons_of_mem _ ha)⟩
theorem BxI.below {w0 w : World} {F0 : List FA} {ps : List Pt} {vo : Value} {g : Nat} {p : Pt} (h : BxI w0 F0 ps vo g p w) : Below w0.heap.size w0 w := by
  obtain ⟨Z, cells, vT, v0, v1, v2, S⟩ := h
  exact S.below
/-- Both boxes are made: the part's, and the signs', which is kept. -/
theorem BxI.start {w0 w : World} {F0 : List FA} {ps : List Pt} {vo : Value} (h : AsI w0 F0 ps vo w) (o : Obj) (cs : Array Value) (t : Nat) (ho : o = .cells cs t (0, 0)) :
    BxI w0 (bkF (w.heap.size + 1) t cs :: F0) ps vo w.heap.size (nwPt true) ((w.alloc (.cells #[.bool true, .slice none 0 0, .slice none 0 0, .slice none 0 0, .slice none 0 0] 44)).alloc o) := by
  subst ho
  obtain ⟨Z, cells, S⟩ := h
  have S1 := S.box (g := w.heap.size) (t := 44) (cs := #[.bool true, .slice none 0 0, .slice none 0 0, .slice none 0 0, .slice none 0 0]) rfl (heap_alloc_new w _) (below_alloc (Below.refl _ _) _)
  have e1 : (w.alloc (.cells #[.bool true, .slice none 0 0, .slice none 0 0, .slice none 0 0, .slice none 0 0] 44)).heap.size = w.heap.size + 1 := by simp
  generalize w.alloc (.cells #[.bool true, .slice none 0 0, .slice none 0 0, .slice none 0 0, .slice none 0 0] 44) = w1 at S1 e1 ⊢
  have hn := heap_alloc_new w1 (.cells cs t (0, 0))
  rw [e1] at hn
  have hlt := (Array.getElem?_eq_some_iff.1 hn).1
  have S2 := S1.call (w' := w1.alloc (.cells cs t (0, 0))) (below_alloc (Below.refl _ _) _) (F' := [bkF (w.heap.size + 1) t cs]) (by
    intro a ha; rw [List.mem_singleton] at ha; subst ha
    exact ⟨⟨by omega, hlt⟩, hn⟩)
  have S3 := S2.with ((((S2.st.row_nil 5 1).row_nil 5 1).row_nil 5 1).row_nil 5 1)
  refine ⟨_, cells, _, _, _, _, S3.st, fun a ha => S3.fr a ?_, S3.old⟩
  simp only [List.mem_cons, List.cons_append, List.nil_append] at ha ⊢
  rcases ha with h | h | h
  · exact .inr (.inl h)
  · exact .inl h
  · exact .inr (.inr h)
theorem BxI.app {w0 w : World} {F0 : List FA} {ps : List Pt} {vo : Value} {g : Nat} {p : Pt} (h : BxI w0 F0 ps vo g p w) (f : Nat) (hf : f < 4) (x : List Int) :
    ∃ v, w.cell? ⟨g, f + 1, none⟩ = some v ∧ w.ownsRow 0 5 1 v (fld p f).length (us8 (fld p f)) ∧
      ∀ (w1 : World) (v1 : Value), w1.ownsRow 0 5 1 v1 ((fld p f).length + x.length) (us8 (fld p f) ++ us8 x) → w.grownBy w1 v.ownBlock → (v1.ownBlock = v.ownBlock ∨ v1.ownBlock = some w.heap.size) →
        w1.cell? ⟨g, f + 1, none⟩ = some v ∧ w1.frozen? ⟨g, f + 1, none⟩ = false ∧ BxI w0 F0 ps vo g (addF p x f) (w1.setCell ⟨g, f + 1, none⟩ v1) := by
  obtain ⟨Z, cells, vT, v0, v1, v2, S⟩ := h
  have hb := S.at_blk 4 rfl
  rcases f with _ | _ | _ | _ | f
  · refine ⟨vT, (blk_cell hb 1).trans rfl, S.rowAt 0 rfl, fun w1 u ho hg hat => ?_⟩
    have S2 := S.updRow 0 rfl ho hg (hat.imp id (fun h => ⟨_, h, Nat.le_refl _⟩))
    have hb2 := S2.at_blk 4 rfl
    refine ⟨(blk_cell hb2 1).trans rfl, blk_frozen hb2 1, Z, cells, u, v0, v1, v2, ?_⟩
    have S3 := S2.of (S2.st.set (i := 4) rfl 1 u)
    simp only [addF, List.length_append, us8, List.map_append] at S3 ⊢
    exact S3
  · refine ⟨v0, (blk_cell hb 2).trans rfl, S.rowAt 1 rfl, fun w1 u ho hg hat => ?_⟩
    have S2 := S.updRow 1 rfl ho hg (hat.imp id (fun h => ⟨_, h, Nat.le_refl _⟩))
    have hb2 := S2.at_blk 4 rfl
    refine ⟨(blk_cell hb2 2).trans rfl, blk_frozen hb2 2, Z, cells, vT, u, v1, v2, ?_⟩
    have S3 := S2.of (S2.st.set (i := 4) rfl 2 u)
    simp only [addF, List.length_append, us8, List.map_append] at S3 ⊢
    exact S3
  · refine ⟨v1, (blk_cell hb 3).trans rfl, S.rowAt 2 rfl, fun w1 u ho hg hat => ?_⟩
    have S2 := S.updRow 2 rfl ho hg (hat.imp id (fun h => ⟨_, h, Nat.le_refl _⟩))
    have hb2 := S2.at_blk 4 rfl
    refine ⟨(blk_cell hb2 3).trans rfl, blk_frozen hb2 3, Z, cells, vT, v0, u, v2, ?_⟩
    have S3 := S2.of (S2.st.set (i := 4) rfl 3 u)
    simp only [addF, List.length_append, us8, List.map_append] at S3 ⊢
    exact S3
  · refine ⟨v2, (blk_cell hb 4).trans rfl, S.rowAt 3 rfl, fun w1 u ho hg hat => ?_⟩
    have S2 := S.updRow 3 rfl ho hg (hat.imp id (fun h => ⟨_, h, Nat.le_refl _⟩))
    have hb2 := S2.at_blk 4 rfl
    refine ⟨(blk_cell hb2 4).trans rfl, blk_frozen hb2 4, Z, cells, vT, v0, v1, u, ?_⟩
    have S3 := S2.of (S2.st.set (i := 4) rfl 4 u)
    simp only [addF, List.length_append, us8, List.map_append] at S3 ⊢
    exact S3
  · omega
/-- The part is whole: its cells, its rows kept from now on. -/
theorem BxI.done {w0 w : World} {F0 : List FA} {a0 : FA} {ps : List Pt} {vo : Value} {g : Nat} {p : Pt} (h : BxI w0 (a0 :: F0) ps vo g p w) :
    ∃ A1 c1 A2 c2 A3 c3 A4 c4, w.cell? ⟨g, 0, none⟩ = some (.bool p.region) ∧ w.cell? ⟨g, 1, none⟩ = some (.slice A1 p.text.length c1) ∧ w.cell? ⟨g, 2, none⟩ = some (.slice A2 p.s0.length c2) ∧ w.cell? ⟨g, 3, none⟩ = some (.slice A3 p.s1.length c3) ∧ w.cell? ⟨g, 4, none⟩ = some (.slice A4 p.s2.length c4) ∧
      AsI w0 (kp1 p [.bool p.region, .slice A1 p.text.length c1, .slice A2 p.s0.length c2, .slice A3 p.s1.length c3, .slice A4 p.s2.length c4] :: F0) ps vo w := by
  obtain ⟨Z, cells, vT, v0, v1, v2, S⟩ := h
  have hb := S.at_blk 4 rfl
  have S4 := (Stt.freezeHead (Stt.freezeHead (Stt.freezeHead (Stt.freezeHead S)))).drop
  obtain ⟨A4, c4, rfl, l4, f4⟩ := ownF_F (S4.fr (ownF v2 5 1 p.s2.length (us8 p.s2)) (by simp))
  obtain ⟨A3, c3, rfl, l3, f3⟩ := ownF_F (S4.fr (ownF v1 5 1 p.s1.length (us8 p.s1)) (by simp))
  obtain ⟨A2, c2, rfl, l2, f2⟩ := ownF_F (S4.fr (ownF v0 5 1 p.s0.length (us8 p.s0)) (by simp))
  obtain ⟨A1, c1, rfl, l1, f1⟩ := ownF_F (S4.fr (ownF vT 5 1 p.text.length (us8 p.text)) (by simp))
  refine ⟨A1, c1, A2, c2, A3, c3, A4, c4, (blk_cell hb 0).trans rfl, (blk_cell hb 1).trans rfl, (blk_cell hb 2).trans rfl, (blk_cell hb 3).trans rfl, (blk_cell hb 4).trans rfl, _, cells, S4.st, fun a ha => ?_, S4.old⟩
  rcases List.mem_cons.1 ha with rfl | ha
  · exact S4.fr _ (by simp)
  · rcases List.mem_cons.1 ha with rfl | ha
    · exact kP_mkF w _ p ⟨l1, f1⟩ ⟨l2, f2⟩ ⟨l3, f3⟩ ⟨l4, f4⟩
    · exact S4.fr a (by simp [ha])
theorem line_at {W : World} {Z : Nat → Prop} {AL : Option Addr} {cL : Nat} {L : List (List Int)} {i : Nat} {x : List Int} (h : (rdV kB AL cL L).P W Z) (hi : L[i]? = some x) (hx : x ≠ []) :
    ∃ al ax cX, AL = some al ∧ W.cell? (al.add i) = some (.slice (some ax) x.length cX) ∧ x.length ≤ cX ∧ Kd.C B8 W (some ax) x.length x ∧ (rdV B8 (some ax) cX x).P W Z := by
  have hlt := (List.getElem?_eq_some_iff.1 hi).1
  obtain ⟨al, cs, eA, hcl, hFK, hcc, _⟩ := Kd.F_get h.2 [] (i : Int) (by omega) (by omega)
  subst eA
  have hx2 : L.getD (i : Int).toNat [] = x := by simp [List.getD_eq_getElem?_getD, hi]
  rw [hx2] at hFK
  obtain ⟨A, c, rfl, hP⟩ := kB_openF hFK
  have h0 : W.cell? (al.add ((i : Int).toNat * 1)) = some (.slice A x.length c) := hcc 0 _ rfl
  have e : (i : Int).toNat * 1 = i := by simp
  rw [e] at h0
  have hC := Kd.F_now hP.2
  obtain ⟨ax, rfl, _⟩ := hC.2.2 (by cases x with | nil => exact absurd rfl hx | cons _ _ => simp)
  exact ⟨al, ax, c, rfl, h0, hP.1, hC, hP⟩
/-- The append of one part's literal to the document's parts. -/
theorem app_elem {P : Program} {ops : Array Oper} {o : Oper} {rest : List Oper} {a : Act} {Q : Exit → Act → World → Prop} {W : World} (hgd : o.guard = none) (s x : Operand) (bytes : Nat)
    (ho : o.op = .call { callee := .builtin .append, args := #[s, x], argTypes := #[27, 27] })
    (ht : P.underlying 27 = some (.slice 44)) (hinfo : (P.info? 44).map (fun i => (i.zero, i.size, i.bytes)) = some (some (.agg (rawPt false).toArray), 5, bytes)) (hb0 : bytes ≤ 1000)
    {w0 : World} {F0 : List FA} {ps : List Pt} {vo : Value} (hI : AsI w0 F0 ps vo W) (hl : ps.length ≤ 5000000) (m : Nat) (hm : ps.length = m) (p : Pt) (cs : List Value) (hl5 : cs.length = 5) (h1 : ∀ u ∈ cs, u.oneCell' = true) (hp : ∀ Z : Nat → Prop, (∀ a ∈ F0, a.P W Z) → Kd.FK kP W Z p cs)
    (hs : a.eval s = vo) (hx : a.eval x = .slice (some ⟨W.heap.size, 0, none⟩) 1 1)
    (h : ∀ A c w1, AsI w0 F0 (ps ++ [p]) (.slice A (m + 1) c) w1 → wpList P ops Q rest (a.put o.dst (.slice A (m + 1) c)) w1) : wpList P ops Q (o :: rest) a (W.alloc (.cells cs.toArray 44)) := by
  subst hm
  obtain ⟨i0, hi, hzz⟩ := Option.map_eq_some_iff.1 hinfo
  simp only [Prod.mk.injEq] at hzz
  obtain ⟨hz0, hz1, hz2⟩ := hzz
  obtain ⟨cells, hown2, hown3, hstep⟩ := hI.push p cs hl5 hp
  refine wpList_append_own_at _ hgd s x 27 ho 0 44 i0 (.agg (rawPt false).toArray) 5 bytes ht hi hz0 hz1 hz2 (by rfl) (by decide) vo ps.length cells hs hown2 ⟨W.heap.size, 0, none⟩ 1 1 cs hx (by omega) (fun j u hj => ?_) h1 (by simp only [maxLen]; omega)
    (Nat.le_trans (Nat.mul_le_mul (show ps.length + 1 ≤ 5000001 by omega) hb0) (by decide)) (Nat.zero_le _) (fun v' w' h1 h2 _ h4 => ?_)
  · rw [base_add]
    refine (blk_cell (heap_alloc_new W _) j).trans ?_
    simpa using hj
  · have hI2 := hstep w' v' h1 h2 (h4.imp id (fun h => ⟨_, h, Nat.le_refl _⟩))
    obtain ⟨A, c, rfl, _⟩ := own_form h1
    exact h A c w' hI2
def Szp (p : Pt) (j : Nat) : Prop := p.text.length ≤ 5000000 * j ∧ p.s0.length ≤ 5000000 * j ∧ p.s1.length ≤ 5000000 * j ∧ p.s2.length ≤ 5000000 * j
theorem szp_nw (j : Nat) : Szp (nwPt true) j := by simp [Szp]
theorem szp_add {p : Pt} {j : Nat} (h : Szp p j) (x : List Int) (hx : x.length ≤ 5000000) (f : Nat) : Szp (addF p x f) (j + 1) := by
  have := h
  unfold Szp at *
  rcases f with _ | _ | _ | f <;> simp only [addF, List.length_append] <;> omega
theorem szp_mono {p : Pt} {j j2 : Nat} (h : Szp p j) (hj : j ≤ j2) : Szp p j2 := by unfold Szp at *; omega
theorem sz_end {ps : List Pt} {p : Pt} {i j : Nat} (h : Sz ps i) (hp : Szp p j) (hij : i < j) : Sz (ps ++ [p]) j := ⟨by have := h.1; simp; omega, fun q hq => by
  rcases List.mem_append.1 hq with hq | hq
  · have := h.2 q hq; omega
  · rw [List.mem_singleton] at hq; subst hq; exact hp⟩
theorem sgk_cell {W : World} {gs k : Nat} {Z : Nat → Prop} (h : (bkF gs 61 #[.int .u8 60, .int .u8 124, .int .u8 61, .int .u8 62]).P W Z) (hk : k < 4) : W.cell? ⟨gs, k, none⟩ = some (.int .u8 (sgk k)) := by
  refine (blk_cell h.2 k).trans ?_
  rcases k with _ | _ | _ | _ | k
  · rfl
  · rfl
  · rfl
  · rfl
  · omega
theorem addF_region (p : Pt) (x : List Int) (f : Nat) : (addF p x f).region = p.region := by rcases f with _ | _ | _ | f <;> rfl
end Go.Proofs.YtnnnbeimehfiiaaDoor.Q
