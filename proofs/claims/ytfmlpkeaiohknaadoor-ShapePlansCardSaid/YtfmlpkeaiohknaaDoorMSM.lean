import Derived.Test.YtfmlpkeaiohknaaDoorMSL
/-! Steps of regions over the blocks' logic: an append, a literal, a store; the order of assertions; rows inside a group. -/
set_option linter.unusedVariables false
namespace Go.Proofs.YtfmlpkeaiohknaaDoorW.SL
open Go.RowKit Go.Proofs.YtfmlpkeaiohknaaDoorW.PrintWords

theorem Hs.perm {l l' : List Asr} (h : l.Perm l') : ∀ {w : World} {f : Nat → Prop}, Hs l w f → Hs l' w f := by
  induction h with
  | nil => exact fun h => h
  | cons a _ ih => rintro w f ⟨f1, f2, he, hd, ha, hr⟩; exact ⟨f1, f2, he, hd, ha, ih hr⟩
  | swap a b l =>
    rintro w f ⟨f1, f2, he, hd, ha, f3, f4, he2, hd2, hb, hr⟩
    refine ⟨f3, fun k => f1 k ∨ f4 k, fun k => ⟨fun h => ?_, fun h => ?_⟩, fun k h3 h => ?_, hb, f1, f4, fun k => Iff.rfl, fun k h1 h4 => hd k h1 ((he2 k).2 (.inr h4)), ha, hr⟩
    · rcases (he k).1 h with h | h
      · exact .inr (.inl h)
      · rcases (he2 k).1 h with h | h
        · exact .inl h
        · exact .inr (.inr h)
    · rcases h with h | h | h
      · exact (he k).2 (.inr ((he2 k).2 (.inl h)))
      · exact (he k).2 (.inl h)
      · exact (he k).2 (.inr ((he2 k).2 (.inr h)))
    · rcases h with h | h
      · exact hd k h ((he2 k).2 (.inl h3))
      · exact hd2 k h3 h
  | trans _ _ ih1 ih2 => exact fun h => ih2 (ih1 h)
section
variable {w0 w w' w1 w2 W : World} {Z : Nat → Prop} {l l' L : List Asr} {a a' b : Asr} {i j : Nat}
theorem St.perm (h : St w0 Z l w) (hp : l.Perm l') : St w0 Z l' w := by
  obtain ⟨f, hf, hd⟩ := h.hs
  exact ⟨h.below, h.zlt, f, hf.perm hp, hd⟩
theorem St.start (w : World) : St w (fun _ => False) [] w := ⟨Below.refl _ _, fun _ h => h.elim, fun _ => False, fun _ h => h, fun _ h => h.elim⟩
/-- What a call has made is kept as it is from now on. -/
theorem St.freeze (h : St w0 Z l w) (hb : Below w.heap.size w w') : St w0 (fun k => Z k ∨ (w.heap.size ≤ k ∧ k < w'.heap.size)) l w' := by
  obtain ⟨f, hf, hd⟩ := h.hs
  have hle := h.below.size
  refine ⟨h.below.trans ⟨hb.os, hb.tape, hb.output, hb.size, fun k hk => hb.block k (by omega)⟩, fun k hk => ?_, f, hf.loc (fun k hk => hb.block k (hf.lt k hk)), fun k hk => ⟨(hd k hk).1, fun hz => ?_⟩⟩
  · rcases hk with hk | hk
    · exact Nat.lt_of_lt_of_le (h.zlt k hk) hb.size
    · exact hk.2
  · rcases hz with hz | hz
    · exact (hd k hk).2 hz
    · have := hf.lt k hk; omega
/-- A member of a group becomes another. -/
theorem St.sub_upd (h : St w0 Z l w) (hi : l[i]? = some (grp L)) (hj : L[j]? = some a) (hstep : ∀ f, a.F w f → ∃ f', a'.F w' f' ∧ (∀ k, f' k → f k ∨ w.heap.size ≤ k) ∧ Chg f w w') : St w0 Z (l.set i (grp (L.set j a'))) w' ∧ Same w0 Z w w' := by
  refine h.upd hi (fun f hf => ?_)
  obtain ⟨fa, ha, hsub, hnext⟩ := Hs.at (show Hs L w f from hf) hj
  obtain ⟨fa', ha', hn, hc⟩ := hstep fa ha
  obtain ⟨f', hf', hn'⟩ := hnext a' w' fa' ha' hn hc.block
  exact ⟨f', hf', hn', hc.mono hsub⟩
theorem St.sub_row (h : St w0 Z l w) {v : Value} {e size n : Nat} {xs : List Value} (hi : l[i]? = some (grp L)) (hj : L[j]? = some (row v e size n xs)) : w.ownsRow 0 e size v n xs := by
  obtain ⟨f, hf, _⟩ := h.hs
  obtain ⟨fa, ha, _⟩ := hf.at hi
  obtain ⟨fb, hb, _⟩ := Hs.at (show Hs L w fa from ha) hj
  exact hb.2
theorem row_step {v v' : Value} {e size n n' : Nat} {xs xs' : List Value} (ho : w'.ownsRow 0 e size v' n' xs') (hg : w.grownBy w' v.ownBlock)
    (hat : v'.ownBlock = v.ownBlock ∨ ∃ k, v'.ownBlock = some k ∧ w.heap.size ≤ k) : ∀ f, (row v e size n xs).F w f → ∃ f', (row v' e size n' xs').F w' f' ∧ (∀ k, f' k → f k ∨ w.heap.size ≤ k) ∧ Chg f w w' := fun f hf =>
  ⟨fun k => v'.ownBlock = some k, ⟨fun k => Iff.rfl, ho⟩, fun k hk => by
    rcases hat with h1 | ⟨b, h1, h2⟩
    · exact .inl ((hf.1 k).2 (h1 ▸ hk))
    · rw [h1] at hk; injection hk with hk; subst hk; exact .inr h2, (Chg.of_grown hg).mono (fun k hk => (hf.1 k).2 hk)⟩
/-- A group gets an empty row. -/
theorem Hs.snoc_nil : ∀ {L : List Asr} {f : Nat → Prop} (e size : Nat), Hs L w f → Hs (L ++ [row (.slice none 0 0) e size 0 []]) w f
  | [], f, e, size, h => ⟨fun _ => False, f, fun k => by simp, fun k h1 => h1.elim, ⟨fun k => by simp [Value.ownBlock], own_nil _ _ _ _⟩, h⟩
  | a :: r, f, e, size, ⟨f1, f2, he, hd, ha, hr⟩ => ⟨f1, f2, he, hd, ha, Hs.snoc_nil e size hr⟩
theorem St.sub_nil (h : St w0 Z l w) (hi : l[i]? = some (grp L)) (e size : Nat) : St w0 Z (l.set i (grp (L ++ [row (.slice none 0 0) e size 0 []]))) w :=
  (h.upd (a' := grp (L ++ [row (.slice none 0 0) e size 0 []])) hi (fun f hf => ⟨f, Hs.snoc_nil e size (show Hs L w f from hf), fun k hk => .inl hk, rfl, rfl, rfl, Nat.le_refl _, fun _ _ _ => rfl⟩)).1
/-- A literal's row, where nothing stood. -/
theorem St.lit (h : St w0 Z l w) (hi : l[i]? = some emp) (e size n : Nat) (hn : 0 < n) (hm : n ≤ maxLen) (cs : List Value) (hl : cs.length = n * size) :
    St w0 Z (l.set i (row (.slice (some ⟨w.heap.size, 0, none⟩) n n) e size n cs)) (w.alloc (.cells cs.toArray e)) ∧ Same w0 Z w (w.alloc (.cells cs.toArray e)) :=
  h.upd hi (fun f hf => ⟨fun k => k = w.heap.size, ⟨fun k => by simp [Value.ownBlock, eq_comm], hl, .inr ⟨w.heap.size, n, cs.toArray, rfl, Nat.zero_le _, heap_alloc_new w _, Nat.le_refl _, hm, by simpa using hl, by simp [← hl]⟩⟩, fun k hk => .inr (Nat.le_of_eq hk.symm), rfl, rfl, rfl, by simp, fun k hk _ => heap_alloc_old w _ hk⟩)
/-- A store into a row. -/
theorem own_set {v : Value} {e n k : Nat} {xs : List Value} (h : w.ownsRow 0 e 1 v n xs) (hk : k < n) (u : Value) : ∃ g cap, v = .slice (some ⟨g, 0, none⟩) n cap ∧ (w.setCell ⟨g, k, none⟩ u).ownsRow 0 e 1 v n (xs.set k u) ∧ w.grownBy (w.setCell ⟨g, k, none⟩ u) v.ownBlock ∧ (∃ t, xs[k]? = some t ∧ w.cell? ⟨g, k, none⟩ = some t) ∧ w.frozen? ⟨g, k, none⟩ = false := by
  obtain ⟨h1, h2⟩ := h
  rcases h2 with ⟨rfl, rfl⟩ | ⟨g, cap, cur, rfl, _, hg, hnc, hcm, hcs, ht⟩
  · omega
  · have hks : k < cur.size := by omega
    have hkx : k < xs.length := by omega
    refine ⟨g, cap, rfl, ⟨by simpa using h1, .inr ⟨g, cap, cur.setIfInBounds k u, rfl, Nat.zero_le _, blk_set hg k u, hnc, hcm, by simpa using hcs, ?_⟩⟩, ⟨rfl, rfl, rfl, by simp [World.setCell], fun q _ hq => Below.heap_setCell w ⟨g, k, none⟩ u q (fun e => hq (by simp [Value.ownBlock, e]))⟩, ⟨xs[k], List.getElem?_eq_getElem hkx, ?_⟩, blk_frozen hg k⟩
    · rw [← ht]
      simp [List.take_set]
    · refine (blk_cell hg k).trans ?_
      subst ht
      simp [hks]
theorem St.row_out (h : St w0 Z l w) {v : Value} {e size n : Nat} {xs : List Value} (hi : l[i]? = some (row v e size n xs)) : w.ownsRow w0.heap.size e size v n xs ∧ ∀ k, v.ownBlock = some k → w0.heap.size ≤ k ∧ ¬ Z k := by
  obtain ⟨f, hf, hd⟩ := h.hs
  obtain ⟨fa, ha, hsub, _⟩ := hf.at hi
  have h1 : ∀ k, v.ownBlock = some k → w0.heap.size ≤ k ∧ ¬ Z k := fun k hk => hd k (hsub k ((ha.1 k).2 hk))
  exact ⟨Kd.own_raise ha.2 (fun k hk => (h1 k hk).1), h1⟩
theorem St.sub_out (h : St w0 Z l w) {v : Value} {e size n : Nat} {xs : List Value} (hi : l[i]? = some (grp L)) (hj : L[j]? = some (row v e size n xs)) : w.ownsRow w0.heap.size e size v n xs ∧ ∀ k, v.ownBlock = some k → w0.heap.size ≤ k ∧ ¬ Z k := by
  obtain ⟨f, hf, hd⟩ := h.hs
  obtain ⟨fa, ha, hsub, _⟩ := hf.at hi
  obtain ⟨fb, hb, hsub2, _⟩ := Hs.at (show Hs L w fa from ha) hj
  have h1 : ∀ k, v.ownBlock = some k → w0.heap.size ≤ k ∧ ¬ Z k := fun k hk => hd k (hsub k (hsub2 k ((hb.1 k).2 hk)))
  exact ⟨Kd.own_raise hb.2 (fun k hk => (h1 k hk).1), h1⟩
theorem St.row_apart (h : St w0 Z l w) {v u : Value} {e e' size size' n n' : Nat} {xs xs' : List Value} (hi : l[i]? = some (row v e size n xs)) (hj : l[j]? = some (row u e' size' n' xs')) (hij : i ≠ j) : ∀ k, v.ownBlock = some k → some k ≠ u.ownBlock := by
  obtain ⟨f, hf, _⟩ := h.hs
  obtain ⟨fa, fb, ha, hb, hd⟩ := hf.apart hi hj hij
  exact fun k hk he => hd k ((ha.1 k).2 hk) ((hb.1 k).2 he.symm)
theorem St.row_sub_apart (h : St w0 Z l w) {v u : Value} {e e' size size' n n' p : Nat} {xs xs' : List Value} (hi : l[i]? = some (row v e size n xs)) (hj : l[j]? = some (grp L)) (hp : L[p]? = some (row u e' size' n' xs')) (hij : i ≠ j) : ∀ k, u.ownBlock = some k → some k ≠ v.ownBlock := by
  obtain ⟨f, hf, _⟩ := h.hs
  obtain ⟨fa, fb, ha, hb, hd⟩ := hf.apart hi hj hij
  obtain ⟨fc, hc, hsub, _⟩ := Hs.at (show Hs L w fb from hb) hp
  exact fun k hk he => hd k ((ha.1 k).2 he.symm) (hsub k ((hc.1 k).2 hk))
theorem St.sub_apart (h : St w0 Z l w) {v u : Value} {e e' size size' n n' p q : Nat} {xs xs' : List Value} (hi : l[i]? = some (grp L)) (hp : L[p]? = some (row v e size n xs)) (hq : L[q]? = some (row u e' size' n' xs')) (hpq : p ≠ q) : ∀ k, v.ownBlock = some k → some k ≠ u.ownBlock := by
  obtain ⟨f, hf, _⟩ := h.hs
  obtain ⟨fa, ha, hsub, _⟩ := hf.at hi
  obtain ⟨fb, fc, hb, hc, hd⟩ := Hs.apart (show Hs L w fa from ha) hp hq hpq
  exact fun k hk he => hd k ((hb.1 k).2 hk) ((hc.1 k).2 he.symm)
end
section
variable {P : Program} {ops : Array Oper} {o : Oper} {a : Act} {Q : Exit → Act → World → Prop} {K : Act → World → Prop}
/-- append(s, x...), x a row of one. -/
theorem app_step {W : World} (hw : Region.wanted o (yielded ops a.tmps) = true) (s x : Operand) (t e : TypeId) (z : Value) (size bytes : Nat)
    (ho : o.op = .call { callee := .builtin .append, args := #[s, x], argTypes := #[t, t] })
    (ht : P.underlying t = some (.slice e)) (hinfo : (P.info? e).map (fun i => (i.zero, i.size, i.bytes)) = some (some z, size, bytes)) (hz : z.cells.size = size) (hs0 : 0 < size) (hb0 : 0 < bytes)
    (v u : Value) (n : Nat) (xs ys : List Value) (hs : a.eval s = v) (hx : a.eval x = u) (h1 : ∀ u ∈ ys, u.oneCell' = true)
    (HO : W.ownsRow 0 e size v n xs) (HX : W.ownsRow 0 e size u 1 ys) (hl : (n + 1) * bytes ≤ 140737488355328)
    (h : ∀ v1 w1, w1.ownsRow 0 e size v1 (n + 1) (xs ++ ys) → W.grownBy w1 v.ownBlock → (v1.ownBlock = v.ownBlock ∨ ∃ b, v1.ownBlock = some b ∧ W.heap.size ≤ b) → K (a.put o.dst v1) w1) :
    if Region.wanted o (yielded ops a.tmps) = true then Oper.wp P o a W K Q else K (a.put o.dst undef) W := by
  obtain ⟨i0, hi, hzz⟩ := Option.map_eq_some_iff.1 hinfo
  simp only [Prod.mk.injEq] at hzz
  obtain ⟨hz0, hz1, hz2⟩ := hzz
  have hlen : n + 1 ≤ 140737488355328 := Nat.le_trans (Nat.le_mul_of_pos_right _ hb0) hl
  rw [if_pos hw]
  rcases HX with ⟨hyl, ⟨_, h0⟩ | ⟨g, cap, cur, rfl, _, hg, _, _, hcs, hty⟩⟩
  · cases h0
  obtain ⟨v1, w1, hr, hown, hgr, _, hat⟩ := run_append_own_at (P := P) W 0 t o.type e i0 z size bytes ht hi hz0 hz1 hz2 hz hs0 v n xs HO ⟨g, 0, none⟩ 1 cap ys (by rw [hyl])
    (fun j q hj => by
      have hj' : (cur.toList.take (1 * size))[j]? = some q := by rw [hty]; exact hj
      have := (blk_cell hg j)
      rw [List.getElem?_take] at hj'
      split at hj'
      · have h2 := this.trans (show cur[j]? = some q by simpa using hj')
        simp only [Addr.add, Nat.zero_add]
        split
        · next h0 => subst h0; exact h2
        · exact h2
      · cases hj') h1 (by simp only [maxLen]; omega) hl (by omega)
  unfold Oper.wp execOp
  simp only [ho, resolve, invoke, builtin, Sem.run_bind, Sem.run_pure, Result.andThen_ok, List.map_toArray, List.map_cons, List.map_nil, hs, hx, hr]
  refine h v1 w1 hown hgr ?_
  rcases hat with hat | hat
  · exact .inl hat
  · exact .inr ⟨_, hat, by simp⟩
end
end Go.Proofs.YtfmlpkeaiohknaaDoorW.SL
