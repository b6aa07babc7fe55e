/- The texts of this claim that lie below its row, in their order: MWords MSL MSM MSt. -/
import Derived.Test.YtnnnbeimehfiiaaDoorWMore
/-! My own words beside the print's: a make with length 0 and a capacity. -/
set_option linter.unusedVariables false
namespace Go.Proofs.YtnnnbeimehfiiaaDoorW.PrintWords
open Go.RowKit
namespace Kd
section
variable {P : Program} {ops : Array Oper} {rest : List Oper} {o : Oper} {a : Act} {Q : Exit → Act → World → Prop} {α : Type}
end
end Kd
end Go.Proofs.YtnnnbeimehfiiaaDoorW.PrintWords
/-! A small logic of separate blocks, beside the print's words: assertions, each with the blocks that it speaks of; what one operation turns, the others keep. -/
set_option linter.unusedVariables false
namespace Go.Proofs.YtnnnbeimehfiiaaDoorW.SL
open Go.RowKit Go.Proofs.YtnnnbeimehfiiaaDoorW.PrintWords
structure Asr where
  F : World → (Nat → Prop) → Prop
  loc : ∀ {w w' : World} {f : Nat → Prop}, F w f → (∀ k, f k → w'.heap[k]? = w.heap[k]?) → F w' f
  lt : ∀ {w : World} {f : Nat → Prop}, F w f → ∀ k, f k → k < w.heap.size
def emp : Asr := ⟨fun _ f => ∀ k, ¬ f k, fun h _ => h, fun h k hk => absurd hk (h k)⟩
def blk (g t : Nat) (cs : Array Value) : Asr :=
  ⟨fun w f => (∀ k, f k ↔ k = g) ∧ w.heap[g]? = some (.cells cs t (0, 0)),
   fun h hs => ⟨h.1, (hs _ ((h.1 _).2 rfl)).trans h.2⟩,
   fun h k hk => by rw [(h.1 k).1 hk]; exact blk_lt h.2⟩
def row (v : Value) (e size n : Nat) (xs : List Value) : Asr :=
  ⟨fun w f => (∀ k, f k ↔ v.ownBlock = some k) ∧ w.ownsRow 0 e size v n xs,
   fun h hs => ⟨h.1, own_move h.2 (fun k hk => hs k ((h.1 k).2 hk))⟩,
   fun h k hk => own_lt h.2 k ((h.1 k).1 hk)⟩
def Hs : List Asr → World → (Nat → Prop) → Prop
  | [], _, f => ∀ k, ¬ f k
  | a :: r, w, f => ∃ f1 f2, (∀ k, f k ↔ f1 k ∨ f2 k) ∧ (∀ k, f1 k → ¬ f2 k) ∧ a.F w f1 ∧ Hs r w f2
theorem Hs.loc : ∀ {l : List Asr} {w w' : World} {f : Nat → Prop}, Hs l w f → (∀ k, f k → w'.heap[k]? = w.heap[k]?) → Hs l w' f
  | [], _, _, _, h, _ => h
  | a :: r, _, _, _, ⟨f1, f2, he, hd, ha, hr⟩, hs => ⟨f1, f2, he, hd, a.loc ha (fun k hk => hs k ((he k).2 (.inl hk))), Hs.loc hr (fun k hk => hs k ((he k).2 (.inr hk)))⟩
theorem Hs.lt : ∀ {l : List Asr} {w : World} {f : Nat → Prop}, Hs l w f → ∀ k, f k → k < w.heap.size
  | [], _, _, h, k, hk => absurd hk (h k)
  | a :: r, _, _, ⟨f1, f2, he, _, ha, hr⟩, k, hk => by
    rcases (he k).1 hk with h | h
    · exact a.lt ha k h
    · exact Hs.lt hr k h
/-- The i-th: what it says, and what it may become. -/
theorem Hs.at : ∀ {l : List Asr} {i : Nat} {a : Asr} {w : World} {f : Nat → Prop}, Hs l w f → l[i]? = some a →
    ∃ fa, a.F w fa ∧ (∀ k, fa k → f k) ∧ ∀ (a' : Asr) (w' : World) (fa' : Nat → Prop), a'.F w' fa' → (∀ k, fa' k → fa k ∨ w.heap.size ≤ k) → (∀ k, k < w.heap.size → ¬ fa k → w'.heap[k]? = w.heap[k]?) →
      ∃ f', Hs (l.set i a') w' f' ∧ (∀ k, f' k → f k ∨ w.heap.size ≤ k)
  | [], i, a, w, f, _, hi => by simp at hi
  | b :: r, 0, a, w, f, ⟨f1, f2, he, hd, hb, hr⟩, hi => by
    have hi' : b = a := by simpa using hi
    subst hi'
    refine ⟨f1, hb, fun k hk => (he k).2 (.inl hk), fun a' w' fa' ha' hn hs => ?_⟩
    refine ⟨fun k => fa' k ∨ f2 k, ⟨fa', f2, fun k => Iff.rfl, fun k h1 h2 => ?_, ha', hr.loc (fun k hk => hs k (hr.lt k hk) (fun h => hd k h hk))⟩, fun k hk => ?_⟩
    · rcases hn k h1 with h | h
      · exact hd k h h2
      · exact absurd (hr.lt k h2) (by omega)
    · rcases hk with h | h
      · rcases hn k h with h' | h'
        · exact .inl ((he k).2 (.inl h'))
        · exact .inr h'
      · exact .inl ((he k).2 (.inr h))
  | b :: r, i + 1, a, w, f, ⟨f1, f2, he, hd, hb, hr⟩, hi => by
    have hi' : r[i]? = some a := by simpa using hi
    obtain ⟨fa, ha, hsub, hstep⟩ := Hs.at hr hi'
    refine ⟨fa, ha, fun k hk => (he k).2 (.inr (hsub k hk)), fun a' w' fa' ha' hn hs => ?_⟩
    obtain ⟨f2', hr', hn'⟩ := hstep a' w' fa' ha' hn hs
    refine ⟨fun k => f1 k ∨ f2' k, ⟨f1, f2', fun k => Iff.rfl, fun k h1 h2 => ?_, b.loc hb (fun k hk => hs k (b.lt hb k hk) (fun h => hd k hk (hsub k h))), hr'⟩, fun k hk => ?_⟩
    · rcases hn' k h2 with h | h
      · exact hd k h1 h
      · exact absurd (b.lt hb k h1) (by omega)
    · rcases hk with h | h
      · exact .inl ((he k).2 (.inl h))
      · rcases hn' k h with h' | h'
        · exact .inl ((he k).2 (.inr h'))
        · exact .inr h'
/-- Two of them speak of different blocks. -/
theorem Hs.apart : ∀ {l : List Asr} {i j : Nat} {a b : Asr} {w : World} {f : Nat → Prop}, Hs l w f → l[i]? = some a → l[j]? = some b → i ≠ j →
    ∃ fa fb, a.F w fa ∧ b.F w fb ∧ ∀ k, fa k → ¬ fb k
  | [], i, j, a, b, w, f, _, hi, _, _ => by simp at hi
  | c :: r, 0, 0, a, b, w, f, _, _, _, h => absurd rfl h
  | c :: r, 0, j + 1, a, b, w, f, ⟨f1, f2, he, hd, hc, hr⟩, hi, hj, _ => by
    have hi' : c = a := by simpa using hi
    subst hi'
    obtain ⟨fb, hb, hsub, _⟩ := Hs.at hr (show r[j]? = some b by simpa using hj)
    exact ⟨f1, fb, hc, hb, fun k h1 h2 => hd k h1 (hsub k h2)⟩
  | c :: r, i + 1, 0, a, b, w, f, ⟨f1, f2, he, hd, hc, hr⟩, hi, hj, _ => by
    have hj' : c = b := by simpa using hj
    subst hj'
    obtain ⟨fa, ha, hsub, _⟩ := Hs.at hr (show r[i]? = some a by simpa using hi)
    exact ⟨fa, f1, ha, hc, fun k h1 h2 => hd k h2 (hsub k h1)⟩
  | c :: r, i + 1, j + 1, a, b, w, f, ⟨f1, f2, he, hd, hc, hr⟩, hi, hj, h =>
    Hs.apart hr (show r[i]? = some a by simpa using hi) (show r[j]? = some b by simpa using hj) (by omega)
/-- What a step turns: the world's frame, the blocks of f apart. -/
structure Chg (f : Nat → Prop) (w w' : World) : Prop where
  os : w'.os = w.os
  tape : w'.tape = w.tape
  output : w'.output = w.output
  size : w.heap.size ≤ w'.heap.size
  block : ∀ k, k < w.heap.size → ¬ f k → w'.heap[k]? = w.heap[k]?
theorem Chg.of_grown {w w' : World} {r : Option Nat} (h : w.grownBy w' r) : Chg (fun k => r = some k) w w' := ⟨h.os, h.tape, h.output, h.size, fun k hk hn => h.block k hk (fun e => hn e.symm)⟩
theorem Chg.of_below {w w' : World} (h : Below w.heap.size w w') : Chg (fun _ => False) w w' := ⟨h.os, h.tape, h.output, h.size, fun k hk _ => h.block k hk⟩
theorem Chg.mono {f f' : Nat → Prop} {w w' : World} (h : Chg f w w') (hf : ∀ k, f k → f' k) : Chg f' w w' := ⟨h.os, h.tape, h.output, h.size, fun k hk hn => h.block k hk (fun x => hn (hf k x))⟩
/-- What stays: the frozen blocks, and what was there when the call began. -/
structure Same (w0 : World) (Z : Nat → Prop) (w w' : World) : Prop where
  size : w.heap.size ≤ w'.heap.size
  same : ∀ k, (Z k ∨ k < w0.heap.size) → k < w.heap.size → w'.heap[k]? = w.heap[k]?
theorem Same.refl (w0 : World) (Z : Nat → Prop) (w : World) : Same w0 Z w w := ⟨Nat.le_refl _, fun _ _ _ => rfl⟩
/-- The state: w0 the world when it began; Z blocks that stay as they are; the assertions. -/
structure St (w0 : World) (Z : Nat → Prop) (l : List Asr) (w : World) : Prop where
  below : Below w0.heap.size w0 w
  zlt : ∀ k, Z k → k < w.heap.size
  hs : ∃ f, Hs l w f ∧ ∀ k, f k → w0.heap.size ≤ k ∧ ¬ Z k
section
variable {w0 w w' w1 w2 : World} {Z : Nat → Prop} {l : List Asr} {a a' b : Asr} {i j : Nat}
theorem Same.trans (h : Same w0 Z w w1) (k : Same w0 Z w1 w2) : Same w0 Z w w2 := ⟨Nat.le_trans h.size k.size, fun i hi hl => (k.same i hi (Nat.lt_of_lt_of_le hl h.size)).trans (h.same i hi hl)⟩
theorem Same.f {α : Type} {d : Kd α} {ok : Nat → Prop} {A : Option Addr} {n : Nat} {xs : List α} (h : Same w0 Z w w1) (hf : Kd.F d w ok A n xs) (hok : ∀ k, ok k → Z k ∨ k < w0.heap.size) : Kd.F d w1 ok A n xs := Kd.F_step hf (fun k hk hl => h.same k (hok k hk) hl)
/-- The i-th becomes another: a step that turns its own blocks alone. -/
theorem St.upd (h : St w0 Z l w) (hi : l[i]? = some a) (hstep : ∀ f, a.F w f → ∃ f', a'.F w' f' ∧ (∀ k, f' k → f k ∨ w.heap.size ≤ k) ∧ Chg f w w') : St w0 Z (l.set i a') w' ∧ Same w0 Z w w' := by
  obtain ⟨f, hf, hd⟩ := h.hs
  obtain ⟨fa, ha, hsub, hnext⟩ := hf.at hi
  obtain ⟨fa', ha', hn, hc⟩ := hstep fa ha
  obtain ⟨f', hf', hn'⟩ := hnext a' w' fa' ha' hn hc.block
  have hsame : Same w0 Z w w' := ⟨hc.size, fun k hk hl => hc.block k hl (fun hx => by
    have h2 := hd k (hsub k hx)
    rcases hk with hk | hk
    · exact h2.2 hk
    · omega)⟩
  have hle := h.below.size
  refine ⟨⟨h.below.trans ⟨hc.os, hc.tape, hc.output, hc.size, fun k hk => hsame.same k (.inr hk) (by omega)⟩, fun k hk => Nat.lt_of_lt_of_le (h.zlt k hk) hc.size, f', hf', fun k hk => ?_⟩, hsame⟩
  rcases hn' k hk with h1 | h1
  · exact hd k h1
  · exact ⟨by omega, fun hz => by have := h.zlt k hz; omega⟩
/-- A step that turns no block of theirs. -/
theorem St.keep (h : St w0 Z l w) (hb : Below w.heap.size w w') : St w0 Z l w' ∧ Same w0 Z w w' := by
  obtain ⟨f, hf, hd⟩ := h.hs
  have hle := h.below.size
  exact ⟨⟨h.below.trans ⟨hb.os, hb.tape, hb.output, hb.size, fun k hk => hb.block k (by omega)⟩, fun k hk => Nat.lt_of_lt_of_le (h.zlt k hk) hb.size, f, hf.loc (fun k hk => hb.block k (hf.lt k hk)), hd⟩, hb.size, fun k _ hl => hb.block k hl⟩
theorem St.drop (h : St w0 Z (a :: l) w) : St w0 Z l w := by
  obtain ⟨f, ⟨f1, f2, he, _, _, hr⟩, hd⟩ := h.hs
  exact ⟨h.below, h.zlt, f2, hr, fun k hk => hd k ((he k).2 (.inr hk))⟩
/-- One more, of new blocks alone. -/
theorem St.more (h : St w0 Z l w) (hb : Below w.heap.size w w') {f : Nat → Prop} (ha : a.F w' f) (hn : ∀ k, f k → w.heap.size ≤ k) : St w0 Z (a :: l) w' ∧ Same w0 Z w w' := by
  obtain ⟨⟨hb', hz, f2, hf2, hd⟩, hs⟩ := h.keep hb
  have hle := h.below.size
  obtain ⟨f0, hf0, hd0⟩ := h.hs
  refine ⟨⟨hb', hz, ?_⟩, hs⟩
  have h3 := hf0.loc (w' := w') (fun k hk => hb.block k (hf0.lt k hk))
  exact ⟨fun k => f k ∨ f0 k, ⟨f, f0, fun k => Iff.rfl, fun k h1 h2 => absurd (hf0.lt k h2) (by have := hn k h1; omega), ha, h3⟩, fun k hk => by
    rcases hk with h1 | h1
    · exact ⟨by have := hn k h1; omega, fun hz' => by have := h.zlt k hz'; have := hn k h1; omega⟩
    · exact hd0 k h1⟩
theorem St.row_nil (h : St w0 Z l w) (e size : Nat) : St w0 Z (row (.slice none 0 0) e size 0 [] :: l) w := by
  obtain ⟨f, hf, hd⟩ := h.hs
  exact ⟨h.below, h.zlt, f, ⟨fun _ => False, f, fun k => by simp, fun k h1 => h1.elim, ⟨fun k => by simp [Value.ownBlock], own_nil _ _ _ _⟩, hf⟩, hd⟩
theorem St.emp_new (h : St w0 Z l w) : St w0 Z (emp :: l) w := by
  obtain ⟨f, hf, hd⟩ := h.hs
  exact ⟨h.below, h.zlt, f, ⟨fun _ => False, f, fun k => by simp, fun k h1 => h1.elim, fun _ h => h, hf⟩, hd⟩
theorem St.at_blk (h : St w0 Z l w) {g t : Nat} {cs : Array Value} (hi : l[i]? = some (blk g t cs)) : w.heap[g]? = some (.cells cs t (0, 0)) := by
  obtain ⟨f, hf, _⟩ := h.hs
  obtain ⟨fa, ha, _⟩ := hf.at hi
  exact ha.2
theorem St.at_row (h : St w0 Z l w) {v : Value} {e size n : Nat} {xs : List Value} (hi : l[i]? = some (row v e size n xs)) : w.ownsRow 0 e size v n xs := by
  obtain ⟨f, hf, _⟩ := h.hs
  obtain ⟨fa, ha, _⟩ := hf.at hi
  exact ha.2
/-- A store into a block. -/
theorem St.set (h : St w0 Z l w) {g t : Nat} {cs : Array Value} (hi : l[i]? = some (blk g t cs)) (o : Nat) (u : Value) : St w0 Z (l.set i (blk g t (cs.setIfInBounds o u))) (w.setCell ⟨g, o, none⟩ u) ∧ Same w0 Z w (w.setCell ⟨g, o, none⟩ u) :=
  h.upd hi (fun f hf => ⟨f, ⟨hf.1, blk_set hf.2 o u⟩, fun k hk => .inl hk, rfl, rfl, rfl, by simp [World.setCell], fun k _ hn => Below.heap_setCell w ⟨g, o, none⟩ u k (fun e => hn ((hf.1 k).2 e))⟩)
/-- A row becomes another one: an append, a store into it. -/
theorem St.row_upd (h : St w0 Z l w) {v v' : Value} {e size n n' : Nat} {xs xs' : List Value} (hi : l[i]? = some (row v e size n xs)) (ho : w'.ownsRow 0 e size v' n' xs') (hg : w.grownBy w' v.ownBlock)
    (hat : v'.ownBlock = v.ownBlock ∨ ∃ k, v'.ownBlock = some k ∧ w.heap.size ≤ k) : St w0 Z (l.set i (row v' e size n' xs')) w' ∧ Same w0 Z w w' :=
  h.upd hi (fun f hf => ⟨fun k => v'.ownBlock = some k, ⟨fun k => Iff.rfl, ho⟩, fun k hk => by
    rcases hat with h1 | ⟨b, h1, h2⟩
    · exact .inl ((hf.1 k).2 (h1 ▸ hk))
    · rw [h1] at hk; injection hk with hk; subst hk; exact .inr h2, (Chg.of_grown hg).mono (fun k hk => (hf.1 k).2 hk)⟩)
end
end Go.Proofs.YtnnnbeimehfiiaaDoorW.SL
/-! Steps of regions over the blocks' logic: an append, a literal, a store; the order of assertions; rows inside a group. -/
set_option linter.unusedVariables false
namespace Go.Proofs.YtnnnbeimehfiiaaDoorW.SL
open Go.RowKit Go.Proofs.YtnnnbeimehfiiaaDoorW.PrintWords
section
variable {w0 w w' w1 w2 W : World} {Z : Nat → Prop} {l l' L : List Asr} {a a' b : Asr} {i j : Nat}
theorem St.start (w : World) : St w (fun _ => False) [] w := ⟨Below.refl _ _, fun _ h => h.elim, fun _ => False, fun _ h => h, fun _ h => h.elim⟩
/-- What a call has made is kept as it is from now on. -/
theorem St.freeze (h : St w0 Z l w) (hb : Below w.heap.size w w') : St w0 (fun k => Z k ∨ (w.heap.size ≤ k ∧ k < w'.heap.size)) l w' := by
  obtain ⟨f, hf, hd⟩ := h.hs
  have hle := h.below.size
  refine ⟨h.below.trans ⟨hb.os, hb.tape, hb.output, hb.size, fun k hk => hb.block k (by omega)⟩, fun k hk => ?_, f, hf.loc (fun k hk => hb.block k (hf.lt k hk)), fun k hk => ⟨(hd k hk).1, fun hz => ?_⟩⟩
  · rcases hk with hk | hk
    · exact Nat.lt_of_lt_of_le (h.zlt k hk) hb.size
    · exact hk.2
  · rcases hz with hz | hz
    · exact (hd k hk).2 hz
    · have := hf.lt k hk; omega
/-- A literal's row, where nothing stood. -/
theorem St.lit (h : St w0 Z l w) (hi : l[i]? = some emp) (e size n : Nat) (hn : 0 < n) (hm : n ≤ maxLen) (cs : List Value) (hl : cs.length = n * size) :
    St w0 Z (l.set i (row (.slice (some ⟨w.heap.size, 0, none⟩) n n) e size n cs)) (w.alloc (.cells cs.toArray e)) ∧ Same w0 Z w (w.alloc (.cells cs.toArray e)) :=
  h.upd hi (fun f hf => ⟨fun k => k = w.heap.size, ⟨fun k => by simp [Value.ownBlock, eq_comm], hl, .inr ⟨w.heap.size, n, cs.toArray, rfl, Nat.zero_le _, heap_alloc_new w _, Nat.le_refl _, hm, by simpa using hl, by simp [← hl]⟩⟩, fun k hk => .inr (Nat.le_of_eq hk.symm), rfl, rfl, rfl, by simp, fun k hk _ => heap_alloc_old w _ hk⟩)
theorem St.row_apart (h : St w0 Z l w) {v u : Value} {e e' size size' n n' : Nat} {xs xs' : List Value} (hi : l[i]? = some (row v e size n xs)) (hj : l[j]? = some (row u e' size' n' xs')) (hij : i ≠ j) : ∀ k, v.ownBlock = some k → some k ≠ u.ownBlock := by
  obtain ⟨f, hf, _⟩ := h.hs
  obtain ⟨fa, fb, ha, hb, hd⟩ := hf.apart hi hj hij
  exact fun k hk he => hd k ((ha.1 k).2 hk) ((hb.1 k).2 he.symm)
end
section
variable {P : Program} {ops : Array Oper} {o : Oper} {a : Act} {Q : Exit → Act → World → Prop} {K : Act → World → Prop}
/-- append(s, x...), x a row of one. -/
theorem app_step {W : World} (hw : Region.wanted o (yielded ops a.tmps) = true) (s x : Operand) (t e : TypeId) (z : Value) (size bytes : Nat)
    (ho : o.op = .call { callee := .builtin .append, args := #[s, x], argTypes := #[t, t] })
    (ht : P.underlying t = some (.slice e)) (hinfo : (P.info? e).map (fun i => (i.zero, i.size, i.bytes)) = some (some z, size, bytes)) (hz : z.cells.size = size) (hs0 : 0 < size) (hb0 : 0 < bytes)
    (v u : Value) (n : Nat) (xs ys : List Value) (hs : a.eval s = v) (hx : a.eval x = u) (h1 : ∀ u ∈ ys, u.oneCell' = true)
    (HO : W.ownsRow 0 e size v n xs) (HX : W.ownsRow 0 e size u 1 ys) (hl : (n + 1) * bytes ≤ 140737488355328)
    (h : ∀ v1 w1, w1.ownsRow 0 e size v1 (n + 1) (xs ++ ys) → W.grownBy w1 v.ownBlock → (v1.ownBlock = v.ownBlock ∨ ∃ b, v1.ownBlock = some b ∧ W.heap.size ≤ b) → K (a.put o.dst v1) w1) :
    if Region.wanted o (yielded ops a.tmps) = true then Oper.wp P o a W K Q else K (a.put o.dst undef) W := by
  obtain ⟨i0, hi, hzz⟩ := Option.map_eq_some_iff.1 hinfo
  simp only [Prod.mk.injEq] at hzz
  obtain ⟨hz0, hz1, hz2⟩ := hzz
  have hlen : n + 1 ≤ 140737488355328 := Nat.le_trans (Nat.le_mul_of_pos_right _ hb0) hl
  rw [if_pos hw]
  rcases HX with ⟨hyl, ⟨_, h0⟩ | ⟨g, cap, cur, rfl, _, hg, _, _, hcs, hty⟩⟩
  · cases h0
  obtain ⟨v1, w1, hr, hown, hgr, _, hat⟩ := run_append_own_at (P := P) W 0 t o.type e i0 z size bytes ht hi hz0 hz1 hz2 hz hs0 v n xs HO ⟨g, 0, none⟩ 1 cap ys (by rw [hyl])
    (fun j q hj => by
      have hj' : (cur.toList.take (1 * size))[j]? = some q := by rw [hty]; exact hj
      have := (blk_cell hg j)
      rw [List.getElem?_take] at hj'
      split at hj'
      · have h2 := this.trans (show cur[j]? = some q by simpa using hj')
        simp only [Addr.add, Nat.zero_add]
        split
        · next h0 => subst h0; exact h2
        · exact h2
      · cases hj') h1 (by simp only [maxLen]; omega) hl (by omega)
  unfold Oper.wp execOp
  simp only [ho, resolve, invoke, builtin, Sem.run_bind, Sem.run_pure, Result.andThen_ok, List.map_toArray, List.map_cons, List.map_nil, hs, hx, hr]
  refine h v1 w1 hown hgr ?_
  rcases hat with hat | hat
  · exact .inl hat
  · exact .inr ⟨_, hat, by simp⟩
end
end Go.Proofs.YtnnnbeimehfiiaaDoorW.SL
/-! The state of a walk as one fact: blocks that may be written, rows that are kept as they are. -/
set_option linter.unusedVariables false
namespace Go.Proofs.YtnnnbeimehfiiaaDoorW.SL
open Go.RowKit Go.Proofs.YtnnnbeimehfiiaaDoorW.PrintWords
/-- What is read and kept: told by the blocks Z that nothing writes. -/
structure FA where
  P : World → (Nat → Prop) → Prop
  step : ∀ {w w' : World} {Z Z' : Nat → Prop}, P w Z → (∀ k, Z k → k < w.heap.size → w'.heap[k]? = w.heap[k]?) → (∀ k, Z k → Z' k) → P w' Z'
def rdV {α : Type} (d : Kd α) (A : Option Addr) (c : Nat) (xs : List α) : FA :=
  ⟨fun w Z => xs.length ≤ c ∧ Kd.F d w Z A xs.length xs, fun h hs hZ => ⟨h.1, fun W' hW => Kd.F_step h.2 hs W' (fun k hk hl => hW k (hZ k hk) hl)⟩⟩
/-- A row of the call's own that is kept. -/
def ownF (v : Value) (e size n : Nat) (xs : List Value) : FA := ⟨fun w Z => (∀ k, v.ownBlock = some k → Z k) ∧ w.ownsRow 0 e size v n xs, fun h hs hZ => ⟨fun k hk => hZ k (h.1 k hk), own_move h.2 (fun k hk => hs k (h.1 k hk) (own_lt h.2 k hk))⟩⟩
structure Stt (w0 : World) (Z : Nat → Prop) (l : List Asr) (F : List FA) (w : World) : Prop where
  st : St w0 Z l w
  fr : ∀ a ∈ F, a.P w Z
  old : ∀ k, k < w0.heap.size → Z k
section
variable {w0 w w' : World} {Z Z' : Nat → Prop} {l l' : List Asr} {F F' : List FA}
theorem Stt.start (w : World) (hF : ∀ a ∈ F, a.P w (fun k => k < w.heap.size)) : Stt w (fun k => k < w.heap.size) [] F w :=
  ⟨⟨Below.refl _ _, fun _ h => h, fun _ => False, fun _ h => h, fun _ h => h.elim⟩, hF, fun _ h => h⟩
theorem Stt.below (S : Stt w0 Z l F w) : Below w0.heap.size w0 w := S.st.below
theorem Stt.keep (S : Stt w0 Z l F w) (hb : Below w.heap.size w w') : Stt w0 Z l F w' :=
  ⟨(S.st.keep hb).1, fun a ha => a.step (S.fr a ha) (fun k _ hl => hb.block k hl) (fun _ h => h), S.old⟩
/-- A call has returned: what it has made is kept from now on, and read. -/
theorem Stt.call (S : Stt w0 Z l F w) (hb : Below w.heap.size w w') (hN : ∀ a ∈ F', a.P w' (fun k => w.heap.size ≤ k ∧ k < w'.heap.size)) : Stt w0 (fun k => Z k ∨ (w.heap.size ≤ k ∧ k < w'.heap.size)) l (F' ++ F) w' :=
  ⟨S.st.freeze hb, fun a ha => by
    rcases List.mem_append.1 ha with ha | ha
    · exact a.step (hN a ha) (fun _ _ _ => rfl) (fun k h => .inr h)
    · exact a.step (S.fr a ha) (fun k _ hl => hb.block k hl) (fun k h => .inl h), fun k h => .inl (S.old k h)⟩
theorem Stt.more {a : Asr} {f : Nat → Prop} (S : Stt w0 Z l F w) (hb : Below w.heap.size w w') (ha : a.F w' f) (hn : ∀ k, f k → w.heap.size ≤ k) : Stt w0 Z (a :: l) F w' :=
  ⟨(S.st.more hb ha hn).1, (S.keep hb).fr, S.old⟩
theorem Stt.of (S : Stt w0 Z l F w) (h : St w0 Z l' w' ∧ Same w0 Z w w') : Stt w0 Z l' F w' :=
  ⟨h.1, fun a ha => a.step (S.fr a ha) (fun k hk hl => h.2.same k (.inl hk) hl) (fun _ h => h), S.old⟩
theorem Stt.add {a : FA} (S : Stt w0 Z l F w) (h : a.P w Z) : Stt w0 Z l (a :: F) w := ⟨S.st, fun b hb => by
  rcases List.mem_cons.1 hb with rfl | hb
  · exact h
  · exact S.fr b hb, S.old⟩
theorem Stt.own (S : Stt w0 Z l F w) (i : Nat) {v : Value} {e size n : Nat} {xs : List Value} (hi : F[i]? = some (ownF v e size n xs)) : (∀ k, v.ownBlock = some k → Z k) ∧ w.ownsRow 0 e size v n xs := S.fr _ (List.mem_of_getElem? hi)
theorem Stt.rowAt (S : Stt w0 Z l F w) (i : Nat) {v : Value} {e size n : Nat} {xs : List Value} (hi : l[i]? = some (row v e size n xs)) : w.ownsRow 0 e size v n xs := S.st.at_row hi
theorem Stt.lit0 (S : Stt w0 Z l F w) (e size : Nat) (ys : List Value) (hl : ys.length = 1 * size) : Stt w0 Z (row (.slice (some ⟨w.heap.size, 0, none⟩) 1 1) e size 1 ys :: l) F (w.alloc (.cells ys.toArray e)) :=
  S.of (S.st.emp_new.lit (i := 0) rfl e size 1 (by decide) (by decide) ys hl)
theorem Stt.updRow (S : Stt w0 Z l F w) (i : Nat) {v v' : Value} {e size n n' : Nat} {xs xs' : List Value} (hi : l[i]? = some (row v e size n xs)) (ho : w'.ownsRow 0 e size v' n' xs') (hg : w.grownBy w' v.ownBlock)
    (hat : v'.ownBlock = v.ownBlock ∨ ∃ k, v'.ownBlock = some k ∧ w.heap.size ≤ k) : Stt w0 Z (l.set i (row v' e size n' xs')) F w' := S.of (S.st.row_upd hi ho hg hat)
theorem Stt.drop {a : Asr} (S : Stt w0 Z (a :: l) F w) : Stt w0 Z l F w := ⟨S.st.drop, S.fr, S.old⟩
theorem Stt.with (S : Stt w0 Z l F w) (h : St w0 Z l' w) : Stt w0 Z l' F w := ⟨h, S.fr, S.old⟩
theorem cell_heap {w w' : World} {a : Addr} (h : w'.heap[a.block]? = w.heap[a.block]?) : w'.cell? a = w.cell? a := by unfold World.cell?; rw [h]
theorem Same.cell {w0 w w' : World} {Z : Nat → Prop} {a : Addr} {v : Value} (h : Same w0 Z w w') (hz : Z a.block) (hc : w.cell? a = some v) : w'.cell? a = some v := (cell_heap (h.same _ (.inl hz) (World.block_lt_of_cell? w a hc))).trans hc
theorem Stt.rd {α : Type} {d : Kd α} {A : Option Addr} {c : Nat} {xs : List α} (S : Stt w0 Z l F w) (i : Nat) (hi : F[i]? = some (rdV d A c xs)) : xs.length ≤ c ∧ Kd.F d w Z A xs.length xs := S.fr _ (List.mem_of_getElem? hi)
theorem Stt.at_blk (S : Stt w0 Z l F w) (i : Nat) {g t : Nat} {cs : Array Value} (hi : l[i]? = some (blk g t cs)) : w.heap[g]? = some (.cells cs t (0, 0)) := S.st.at_blk hi
end
theorem rd_R {α : Type} {d : Kd α} {e base : Nat} {w' : World} {ok : Nat → Prop} {v : Value} {xs : List α} (h : Kd.R d e w' base ok v xs) : ∃ A c, v = .slice A xs.length c ∧ (rdV d A c xs).P w' (fun k => base ≤ k ∧ k < w'.heap.size) := by
  obtain ⟨A, c, hv, hl, hF⟩ := Kd.N_V (base' := 0) (Kd.R_N (Kd.R_bound h))
  exact ⟨A, c, hv, hl, Kd.F_mono hF (fun k hk => ⟨hk.2.1, hk.2.2.1⟩)⟩
end Go.Proofs.YtnnnbeimehfiiaaDoorW.SL
