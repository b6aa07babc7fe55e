/- The texts of this claim that lie below its row, in their order: MSt. -/
import Derived.Test.YtfmlpkeaiohknaaZP1
/-! The state of a walk as one fact: blocks that may be written, rows that are kept as they are. -/
set_option linter.unusedVariables false
namespace Go.Proofs.YtfmlpkeaiohknaaW.SL
open Go.RowKit Go.Proofs.YtfmlpkeaiohknaaW.PrintWords
/-- What is read and kept: told by the blocks Z that nothing writes. -/
structure FA where
  P : World → (Nat → Prop) → Prop
  step : ∀ {w w' : World} {Z Z' : Nat → Prop}, P w Z → (∀ k, Z k → k < w.heap.size → w'.heap[k]? = w.heap[k]?) → (∀ k, Z k → Z' k) → P w' Z'
def rdV {α : Type} (d : Kd α) (A : Option Addr) (c : Nat) (xs : List α) : FA :=
  ⟨fun w Z => xs.length ≤ c ∧ Kd.F d w Z A xs.length xs, fun h hs hZ => ⟨h.1, fun W' hW => Kd.F_step h.2 hs W' (fun k hk hl => hW k (hZ k hk) hl)⟩⟩
/-- A block that is kept. -/
def bkF (g t : Nat) (cs : Array Value) : FA := ⟨fun w Z => Z g ∧ w.heap[g]? = some (.cells cs t (0, 0)), fun h hs hZ => ⟨hZ _ h.1, (hs _ h.1 (blk_lt h.2)).trans h.2⟩⟩
/-- A row of the call's own that is kept. -/
def ownF (v : Value) (e size n : Nat) (xs : List Value) : FA := ⟨fun w Z => (∀ k, v.ownBlock = some k → Z k) ∧ w.ownsRow 0 e size v n xs, fun h hs hZ => ⟨fun k hk => hZ k (h.1 k hk), own_move h.2 (fun k hk => hs k (h.1 k hk) (own_lt h.2 k hk))⟩⟩
/-- What is read, told by blocks of its own. -/
def rdO {α : Type} (d : Kd α) (ok : Nat → Prop) (A : Option Addr) (c : Nat) (xs : List α) : FA :=
  ⟨fun w Z => xs.length ≤ c ∧ Kd.F d w ok A xs.length xs ∧ ∀ k, ok k → Z k, fun h hs hZ => ⟨h.1, Kd.F_step h.2.1 (fun k hk hl => hs k (h.2.2 k hk) hl), fun k hk => hZ k (h.2.2 k hk)⟩⟩
structure Stt (w0 : World) (Z : Nat → Prop) (l : List Asr) (F : List FA) (w : World) : Prop where
  st : St w0 Z l w
  fr : ∀ a ∈ F, a.P w Z
  old : ∀ k, k < w0.heap.size → Z k
section
variable {w0 w w' : World} {Z Z' : Nat → Prop} {l l' : List Asr} {F F' : List FA}
theorem Stt.start (w : World) (hF : ∀ a ∈ F, a.P w (fun k => k < w.heap.size)) : Stt w (fun k => k < w.heap.size) [] F w :=
  ⟨⟨Below.refl _ _, fun _ h => h, fun _ => False, fun _ h => h, fun _ h => h.elim⟩, hF, fun _ h => h⟩
theorem Stt.below (S : Stt w0 Z l F w) : Below w0.heap.size w0 w := S.st.below
theorem Stt.keep (S : Stt w0 Z l F w) (hb : Below w.heap.size w w') : Stt w0 Z l F w' :=
  ⟨(S.st.keep hb).1, fun a ha => a.step (S.fr a ha) (fun k _ hl => hb.block k hl) (fun _ h => h), S.old⟩
theorem Stt.box {g t : Nat} {cs : Array Value} (S : Stt w0 Z l F w) (hg : g = w.heap.size) (hx : w'.heap[g]? = some (.cells cs t (0, 0))) (hb : Below w.heap.size w w') : Stt w0 Z (blk g t cs :: l) F w' :=
  ⟨(S.st.more hb (a := blk g t cs) (f := fun k => k = g) ⟨fun _ => Iff.rfl, hx⟩ (fun k hk => by omega)).1, (S.keep hb).fr, S.old⟩
/-- A call has returned: what it has made is kept from now on, and read. -/
theorem Stt.call (S : Stt w0 Z l F w) (hb : Below w.heap.size w w') (hN : ∀ a ∈ F', a.P w' (fun k => w.heap.size ≤ k ∧ k < w'.heap.size)) : Stt w0 (fun k => Z k ∨ (w.heap.size ≤ k ∧ k < w'.heap.size)) l (F' ++ F) w' :=
  ⟨S.st.freeze hb, fun a ha => by
    rcases List.mem_append.1 ha with ha | ha
    · exact a.step (hN a ha) (fun _ _ _ => rfl) (fun k h => .inr h)
    · exact a.step (S.fr a ha) (fun k _ hl => hb.block k hl) (fun k h => .inl h), fun k h => .inl (S.old k h)⟩
theorem Stt.more {a : Asr} {f : Nat → Prop} (S : Stt w0 Z l F w) (hb : Below w.heap.size w w') (ha : a.F w' f) (hn : ∀ k, f k → w.heap.size ≤ k) : Stt w0 Z (a :: l) F w' :=
  ⟨(S.st.more hb ha hn).1, (S.keep hb).fr, S.old⟩
theorem Stt.of (S : Stt w0 Z l F w) (h : St w0 Z l' w' ∧ Same w0 Z w w') : Stt w0 Z l' F w' :=
  ⟨h.1, fun a ha => a.step (S.fr a ha) (fun k hk hl => h.2.same k (.inl hk) hl) (fun _ h => h), S.old⟩
theorem Stt.add {a : FA} (S : Stt w0 Z l F w) (h : a.P w Z) : Stt w0 Z l (a :: F) w := ⟨S.st, fun b hb => by
  rcases List.mem_cons.1 hb with rfl | hb
  · exact h
  · exact S.fr b hb, S.old⟩
theorem Stt.bk (S : Stt w0 Z l F w) (i : Nat) {g t : Nat} {cs : Array Value} (hi : F[i]? = some (bkF g t cs)) : Z g ∧ w.heap[g]? = some (.cells cs t (0, 0)) := S.fr _ (List.mem_of_getElem? hi)
theorem Stt.own (S : Stt w0 Z l F w) (i : Nat) {v : Value} {e size n : Nat} {xs : List Value} (hi : F[i]? = some (ownF v e size n xs)) : (∀ k, v.ownBlock = some k → Z k) ∧ w.ownsRow 0 e size v n xs := S.fr _ (List.mem_of_getElem? hi)
theorem Stt.callZ (S : Stt w0 Z l F w) (hb : Below w.heap.size w w') (hN : ∀ a ∈ F', a.P w' (fun k => Z k ∨ (w.heap.size ≤ k ∧ k < w'.heap.size))) : Stt w0 (fun k => Z k ∨ (w.heap.size ≤ k ∧ k < w'.heap.size)) l (F' ++ F) w' :=
  ⟨S.st.freeze hb, fun a ha => by
    rcases List.mem_append.1 ha with ha | ha
    · exact hN a ha
    · exact a.step (S.fr a ha) (fun k _ hl => hb.block k hl) (fun k h => .inl h), fun k h => .inl (S.old k h)⟩
theorem Stt.rdo {α : Type} {d : Kd α} {ok : Nat → Prop} {A : Option Addr} {c : Nat} {xs : List α} (S : Stt w0 Z l F w) (i : Nat) (hi : F[i]? = some (rdO d ok A c xs)) : xs.length ≤ c ∧ Kd.F d w ok A xs.length xs ∧ ∀ k, ok k → Z k := S.fr _ (List.mem_of_getElem? hi)
theorem Stt.rowAt (S : Stt w0 Z l F w) (i : Nat) {v : Value} {e size n : Nat} {xs : List Value} (hi : l[i]? = some (row v e size n xs)) : w.ownsRow 0 e size v n xs := S.st.at_row hi
theorem Stt.lit0 (S : Stt w0 Z l F w) (e size : Nat) (ys : List Value) (hl : ys.length = 1 * size) : Stt w0 Z (row (.slice (some ⟨w.heap.size, 0, none⟩) 1 1) e size 1 ys :: l) F (w.alloc (.cells ys.toArray e)) :=
  S.of (S.st.emp_new.lit (i := 0) rfl e size 1 (by decide) (by decide) ys hl)
theorem Stt.updRow (S : Stt w0 Z l F w) (i : Nat) {v v' : Value} {e size n n' : Nat} {xs xs' : List Value} (hi : l[i]? = some (row v e size n xs)) (ho : w'.ownsRow 0 e size v' n' xs') (hg : w.grownBy w' v.ownBlock)
    (hat : v'.ownBlock = v.ownBlock ∨ ∃ k, v'.ownBlock = some k ∧ w.heap.size ≤ k) : Stt w0 Z (l.set i (row v' e size n' xs')) F w' := S.of (S.st.row_upd hi ho hg hat)
theorem Stt.drop {a : Asr} (S : Stt w0 Z (a :: l) F w) : Stt w0 Z l F w := ⟨S.st.drop, S.fr, S.old⟩
theorem Stt.perm (S : Stt w0 Z l F w) (h : l.Perm l') : Stt w0 Z l' F w := ⟨S.st.perm h, S.fr, S.old⟩
theorem Stt.with (S : Stt w0 Z l F w) (h : St w0 Z l' w) : Stt w0 Z l' F w := ⟨h, S.fr, S.old⟩
theorem cell_heap {w w' : World} {a : Addr} (h : w'.heap[a.block]? = w.heap[a.block]?) : w'.cell? a = w.cell? a := by unfold World.cell?; rw [h]
theorem Same.cell {w0 w w' : World} {Z : Nat → Prop} {a : Addr} {v : Value} (h : Same w0 Z w w') (hz : Z a.block) (hc : w.cell? a = some v) : w'.cell? a = some v := (cell_heap (h.same _ (.inl hz) (World.block_lt_of_cell? w a hc))).trans hc
theorem Stt.rd {α : Type} {d : Kd α} {A : Option Addr} {c : Nat} {xs : List α} (S : Stt w0 Z l F w) (i : Nat) (hi : F[i]? = some (rdV d A c xs)) : xs.length ≤ c ∧ Kd.F d w Z A xs.length xs := S.fr _ (List.mem_of_getElem? hi)
theorem Stt.rdC {α : Type} {d : Kd α} {A : Option Addr} {c : Nat} {xs : List α} (S : Stt w0 Z l F w) (i : Nat) (hi : F[i]? = some (rdV d A c xs)) : Kd.C d w A xs.length xs := Kd.F_now (S.rd i hi).2
theorem Stt.rdL {α : Type} {d : Kd α} {A : Option Addr} {c : Nat} {xs : List α} (S : Stt w0 Z l F w) (i : Nat) (hi : F[i]? = some (rdV d A c xs)) : xs.length ≤ c := (S.rd i hi).1
theorem Stt.at_blk (S : Stt w0 Z l F w) (i : Nat) {g t : Nat} {cs : Array Value} (hi : l[i]? = some (blk g t cs)) : w.heap[g]? = some (.cells cs t (0, 0)) := S.st.at_blk hi
end
theorem box4 {w : World} {g t : Nat} {c0 c1 c2 c3 : Value} (h : w.heap[g]? = some (.cells #[c0, c1, c2, c3] t (0, 0))) :
    (w.cell? ⟨g, 0, none⟩ = some c0 ∧ w.cell? ⟨g, 1, none⟩ = some c1 ∧ w.cell? ⟨g, 2, none⟩ = some c2 ∧ w.cell? ⟨g, 3, none⟩ = some c3) ∧ w.frozen? ⟨g, 0, none⟩ = false ∧ w.frozen? ⟨g, 1, none⟩ = false ∧ w.frozen? ⟨g, 2, none⟩ = false ∧ w.frozen? ⟨g, 3, none⟩ = false :=
  ⟨⟨(blk_cell h 0).trans rfl, (blk_cell h 1).trans rfl, (blk_cell h 2).trans rfl, (blk_cell h 3).trans rfl⟩, blk_frozen h 0, blk_frozen h 1, blk_frozen h 2, blk_frozen h 3⟩
theorem rd_R {α : Type} {d : Kd α} {e base : Nat} {w' : World} {ok : Nat → Prop} {v : Value} {xs : List α} (h : Kd.R d e w' base ok v xs) : ∃ A c, v = .slice A xs.length c ∧ (rdV d A c xs).P w' (fun k => base ≤ k ∧ k < w'.heap.size) := by
  obtain ⟨A, c, hv, hl, hF⟩ := Kd.N_V (base' := 0) (Kd.R_N (Kd.R_bound h))
  exact ⟨A, c, hv, hl, Kd.F_mono hF (fun k hk => ⟨hk.2.1, hk.2.2.1⟩)⟩
theorem rd_N {α : Type} {d : Kd α} {e base : Nat} {w' : World} {ok : Nat → Prop} {v : Value} {xs : List α} (h : Kd.N d e w' base ok v xs) (hok : ∀ k, ok k → base ≤ k) : ∃ A c, v = .slice A xs.length c ∧ (rdV d A c xs).P w' (fun k => base ≤ k ∧ k < w'.heap.size) := by
  obtain ⟨A, c, hv, hl, hF⟩ := Kd.N_V (base' := 0) (Kd.N_bound h)
  exact ⟨A, c, hv, hl, Kd.F_mono hF (fun k hk => ⟨hok k hk.1, hk.2⟩)⟩
theorem rd_S {α : Type} {d : Kd α} {e base : Nat} {w' : World} {ok : Nat → Prop} {v : Value} {xs : List α} (h : Kd.S d e w' base ok v xs) : ∃ A c, v = .slice A xs.length c ∧ (rdV d A c xs).P w' (fun k => base ≤ k ∧ k < w'.heap.size) := by
  obtain ⟨A, c, hv, hl, hF⟩ := Kd.N_V (base' := 0) (Kd.S_N (Kd.S_bound h))
  exact ⟨A, c, hv, hl, Kd.F_mono hF (fun k hk => ⟨hk.2.1, hk.2.2.1⟩)⟩
/-- A new block, where nothing stood. -/
theorem Stt.newAt {w0 w : World} {Z : Nat → Prop} {l : List Asr} {F : List FA} (S : Stt w0 Z l F w) (i : Nat) (hi : l[i]? = some emp) (cs : Array Value) (t : Nat) : Stt w0 Z (l.set i (blk w.heap.size t cs)) F (w.alloc (.cells cs t)) :=
  S.of (S.st.upd hi (a' := blk w.heap.size t cs) (fun f hf => ⟨fun k => k = w.heap.size, ⟨fun _ => Iff.rfl, heap_alloc_new w _⟩, fun k hk => .inr (by omega), (Chg.of_below (below_alloc (Below.refl _ _) _)).mono (fun k h => h.elim)⟩))
theorem Stt.set4At {w0 w : World} {Z : Nat → Prop} {l : List Asr} {F : List FA} {g t : Nat} {c0 c1 c2 c3 : Value} (S : Stt w0 Z l F w) (i : Nat) (hi : l[i]? = some (blk g t #[c0, c1, c2, c3])) (u0 u1 u2 u3 : Value) :
    Stt w0 Z (l.set i (blk g t #[u0, u1, u2, u3])) F ((((w.setCell ⟨g, 0, none⟩ u0).setCell ⟨g, 1, none⟩ u1).setCell ⟨g, 2, none⟩ u2).setCell ⟨g, 3, none⟩ u3) := by
  have hil := (List.getElem?_eq_some_iff.1 hi).1
  have S1 := S.of (S.st.set hi 0 u0)
  have S2 := S1.of (S1.st.set (i := i) (List.getElem?_set_self hil) 1 u1)
  have S3 := S2.of (S2.st.set (i := i) (List.getElem?_set_self (by simpa using hil)) 2 u2)
  have S4 := S3.of (S3.st.set (i := i) (List.getElem?_set_self (by simpa using hil)) 3 u3)
  simp only [List.set_set] at S4
  exact S4
theorem Stt.set41 {w0 w : World} {Z : Nat → Prop} {l : List Asr} {F : List FA} {g t : Nat} {c0 c1 c2 c3 : Value} (S : Stt w0 Z (blk g t #[c0, c1, c2, c3] :: l) F w) (u : Value) :
    Stt w0 Z (blk g t #[c0, u, c2, c3] :: l) F (w.setCell ⟨g, 1, none⟩ u) := S.of (S.st.set (i := 0) rfl 1 u)
theorem Stt.set43 {w0 w : World} {Z : Nat → Prop} {l : List Asr} {F : List FA} {g t : Nat} {c0 c1 c2 c3 : Value} (S : Stt w0 Z (blk g t #[c0, c1, c2, c3] :: l) F w) (u : Value) :
    Stt w0 Z (blk g t #[c0, c1, c2, u] :: l) F (w.setCell ⟨g, 3, none⟩ u) := S.of (S.st.set (i := 0) rfl 3 u)
theorem Stt.set4 {w0 w : World} {Z : Nat → Prop} {l : List Asr} {F : List FA} {g t : Nat} {c0 c1 c2 c3 : Value} (S : Stt w0 Z (blk g t #[c0, c1, c2, c3] :: l) F w) (u0 u1 u2 u3 : Value) :
    Stt w0 Z (blk g t #[u0, u1, u2, u3] :: l) F ((((w.setCell ⟨g, 0, none⟩ u0).setCell ⟨g, 1, none⟩ u1).setCell ⟨g, 2, none⟩ u2).setCell ⟨g, 3, none⟩ u3) := by
  have S1 := S.of (S.st.set (i := 0) rfl 0 u0)
  have S2 := S1.of (S1.st.set (i := 0) rfl 1 u1)
  have S3 := S2.of (S2.st.set (i := 0) rfl 2 u2)
  exact S3.of (S3.st.set (i := 0) rfl 3 u3)
end Go.Proofs.YtfmlpkeaiohknaaW.SL
