/- The texts of this claim that lie below its row, in their order: KRange Qx0 KLines KPart KIter KSplit KBridge KSplitC KSmall Qx1 Qx3 KMk KRd KRd1 KMkC KMkO KMkF KRd2 KRd3 KArg KArg2 KSame MShelf. -/
import Derived.RangeFuncNested
import Derived.RangeFuncBound
import Derived.RangeFuncCalls
import Derived.RangeFuncLeaves
import Derived.RangeFuncBox
import Derived.Test.YtnnnbeimehfiiaaDoorProg
import Derived.Below
import Derived.Deep.Draws
import Derived.Deep.AppendLies
import Derived.Maps.AppendAt
import Derived.OwnWalk
import Derived.Laws.BytesArg
import Derived.Laws.MakeOwn
import Derived.Laws.OwnMore
import Derived.Deep.OwnRows
import Derived.Tactics
import Derived.Lib.ConvBytes
import Derived.Laws.Slices
import Derived.WalkKit
import Derived.KernelRfl
import Derived.RowKit3
import Derived.Deep.LoopGhost
import Derived.Deep.QuietTactic
import Derived.BigQuiet
import Derived.WideLaws
import Derived.Deep.DeepCutAuto
import Derived.Deep.CutBlock
import Derived.Deep.RegionHeld3
import Derived.Laws.Rows
import Derived.Lib.AppendStr
import Derived.ArgAppend
import Derived.Laws.IdiomCopy
import Derived.OrdersHeld
import Derived.Laws.BitsLemmas
import Derived.RowKit
import Derived.Test.YtnnnbeimehfiiaaDoorWWords
import Derived.Test.YtnnnbeimehfiiaaDoorWLast
import Derived.Test.YtnnnbeimehfiiaaDoorWTab
import Derived.Test.YtnnnbeimehfiiaaDoorWFour
import Derived.Test.YtnnnbeimehfiiaaDoorWQPut
import Derived.Test.YtnnnbeimehfiiaaDoorWApart
import Derived.Test.YtnnnbeimehfiiaaDoorWArr
import Derived.Test.YtnnnbeimehfiiaaDoorWZeros
import Derived.Test.YtnnnbeimehfiiaaDoorWFoot
import Derived.Test.YtnnnbeimehfiiaaDoorWKept
import Derived.Test.YtnnnbeimehfiiaaDoorWShare
import Derived.Test.YtnnnbeimehfiiaaDoorWN
import Derived.Test.YtnnnbeimehfiiaaDoorWFootNe
import Derived.Test.YtnnnbeimehfiiaaDoorWAt
import Derived.Test.YtnnnbeimehfiiaaDoorWEqStruct
import Derived.Test.YtnnnbeimehfiiaaDoorWRepsOne
import Derived.Test.YtnnnbeimehfiiaaDoorWInv
import Derived.Test.YtnnnbeimehfiiaaDoorWInvWords
import Derived.Test.YtnnnbeimehfiiaaDoorWGuard
import Derived.Test.YtnnnbeimehfiiaaDoorWNEv
import Derived.Test.YtnnnbeimehfiiaaDoorWMore
import Derived.Shelf.Abstract
import Derived.Shelf.RegionOpen
import Derived.OwnWalkIn
import Derived.TacticsInMore
import Derived.LoopNIn
import Derived.LoopIn
import Derived.Lib.BytesEntry
import Derived.Lib.Bytealg
import Derived.Lib.SliceRun
import Derived.Shelf.Bytes.SlIndexAt
import Derived.OrdersIn
import Derived.ControlIn
import Derived.Shelf.Strings.Search1
import Derived.Lib.SmallJoins
import Derived.OpenShut
import Derived.ProofKit
import Derived.ChangeOld
import Derived.Deep.Strs
import Derived.Laws.IdiomArrays
import Derived.Shelf.Strings.Trim
import Derived.Shelf.Strings.Repeat
import Derived.Shelf.Bytes.WriteAt
import Derived.Shelf.Bytes.WriteByteAt
import Derived.Shelf.Bytes.WriteStringAt
import Derived.Shelf.Bytes.LenAt
import Derived.Shelf.Bytes.Bytes
import Derived.Test.YtnnnbeimehfiiaaDoorZP0
/-! A range over a function whose iterator keeps its state in one captured cell (Bn): the body goes on in every round. After the kit's law for bodies that write what lay ahead. -/
namespace Go.Proofs.YtnnnbeimehfiiaaDoor.Q
open Go Go.RowKit
variable {F : Fence} {n : Nat} {P : Program}
/-- What the iterator does: it calls yield at each of xs, in their order; it turns its own cell between rounds. -/
def SeqCell {α : Type} (F : Fence) (n : Nat) (P : Program) (g : Nat) (lb : Array Value) (encs : α → Array Value) (Kp : World → World → Prop) (Bn : Nat) (xs : List α) (w : World) : Prop :=
  ∀ (l : Nat) (J : List α → World → Prop) (W : World), Below w.heap.size w W → AbidesFrom W.heap.size J → (∀ s W1 v, J s W1 → J s (W1.setCell ⟨Bn, 0, none⟩ v)) →
    (∀ pre x W1, J pre W1 → pre ++ [x] <+: xs → YieldAt F (n - 1) P l (encs x) W1 fun e W' => e = .returned (.bool true) ∧ J (pre ++ [x]) W' ∧ Kp W1 W') →
    J [] W →
    CallsIn F n P g (#[.func (.yield l) #[] #[]] ++ lb) W fun e W' => (∃ v, e = .returned v) ∧ J xs W'
def cellPost {α : Type} (B : Nat) (Kp : World → World → Prop) (I : List α → World → Prop) (xs : List α) (W : World) : Exit → Act → World → Prop
  | .normal, _, W' => KeepsFrom B W W' ∧ Kp W W' ∧ I xs W'
  | _, _, _ => False
theorem wpIn_rangeFunc_cell {α : Type} {g : Operand} {ps : Array Tmp} {assign body : Code} {Q : Exit → Act → World → Prop} {a : Act} {w : World}
    (hro : F.round = none) (h1 : 1 ≤ n) {gf : Nat} {lb : Array Value} (hg : a.eval g = .func (.func gf) #[] lb) (hFg : F.fn gf) (eg : ∀ args w, (callFunc gf args).run P w = .ok (.enter gf args) w)
    {encs : α → Array Value} {Kp : World → World → Prop} {Bn : Nat} {xs : List α} {w0 : World} (hseq : SeqCell F (n - 1) P gf lb encs Kp Bn xs w0) (hBn : Bn < w.heap.size)
    (hKt : ∀ {A B C : World}, Kp A B → Kp B C → Kp A C) (hKb : ∀ (W : World) (l : Nat) (o o' : Obj), w.heap.size ≤ l → W.heap[l]? = some o → o.isCells = false → o.isWalk = false → Kp W (W.putObj l o')) (hb0 : Below w0.heap.size w0 w) (hps : ∀ x, (encs x).size = ps.size)
    (I : List α → World → Prop) (hI : OwnFrom w.heap.size I) (hIc : ∀ s W v, I s W → I s (W.setCell ⟨Bn, 0, none⟩ v)) (h0 : I [] w) (a₁ : α → Act)
    (hassign : ∀ (l : Nat) (x : α) (W : World) (K : Act → World → Prop), K (a₁ x) W →
      assign.wpIn (F.inRound l) (n - 1 - 1) P (Exit.then K (fun _ _ _ => False)) { tmps := (ps.zip (encs x)).foldl (fun t (p, v) => t.setIfInBounds p v) a.tmps, defers := [] } W)
    (hbody : ∀ (l : Nat) (pre : List α) (x : α) (W : World), I pre W → pre ++ [x] <+: xs → body.wpIn (F.inRound l) (n - 1 - 1) P (cellPost w.heap.size Kp I (pre ++ [x]) W) (a₁ x) W)
    (hdone : ∀ (D : Nat) (W : World), w.heap.size ≤ D → I xs W → W.heap[D]? = some (.deferred (some [])) → Q .normal { a with defers := { target := .collected D, args := #[] } :: a.defers } W) :
    (Code.rangeFunc g ps assign body).wpIn F n P Q a w := by
  refine wpIn_rangeFunc ?_
  intro fn hfn
  rw [hro]
  obtain ⟨rec, hrec⟩ : ∃ rec : LoopState → Option Code → Loop, rec = fun st pe => { state := st, pending := pe, fn, tmps := a.tmps, params := ps, assign, body, defers := w.heap.size } := ⟨_, rfl⟩
  obtain ⟨W1, hW1⟩ : ∃ W1, (w.alloc (.deferred (some []))).alloc (.loop (rec .ready none)) = W1 := ⟨_, rfl⟩
  have hL1 : W1.heap[w.heap.size + 1]? = some (.loop (rec .ready none)) := by
    rw [← hW1]; have := World.alloc_heap_new (w.alloc (.deferred (some []))) (.loop (rec .ready none)); rwa [World.size_alloc] at this
  have hK1 : W1.heap[w.heap.size]? = some (.deferred (some [])) := by
    rw [← hW1]; exact (Below.heap_alloc _ _ _ (by simp)).trans (World.alloc_heap_new w _)
  have hI1 : I [] W1 := by rw [← hW1]; exact hI.alloc _ (hI.alloc _ h0)
  have hb1 : Below w0.heap.size w0 W1 := by
    rw [← hW1]; exact hb0.trans ((((Below.refl _ w).alloc (Nat.le_refl _) _).alloc (by simp) _).mono hb0.size)
  refine ⟨w.heap.size + 1, [{ target := .collected w.heap.size, args := #[] }], W1, { target := .fn (.func gf) lb, args := #[.func (.yield (w.heap.size + 1)) #[] #[]] }, W1, gf,
    #[.func (.yield (w.heap.size + 1)) #[] #[]] ++ lb, W1, ?_, ?_, ?_, ?_, fun _ => h1, ?_⟩
  · rw [← hW1, hrec]; exact run_enterLoop_outer _ _ _ _ _
  · simp only [resolve, hg]
    simp [go_sem]
  · intro f' hf'; simp [Target.leads] at hf'; subst hf'; exact hFg
  · simp [invoke, go_sem, eg]
  · have hnw : ∀ {A B : World} {row : Option Nat}, (∀ r, row = some r → W1.heap.size ≤ r ∧ ∃ o : Obj, A.heap[r]? = some o ∧ o.isWalk = true) → (∀ r, row = some r → w.heap.size ≤ r ∧ ∃ o : Obj, A.heap[r]? = some o ∧ o.isCells = false) :=
      fun hr r e => by obtain ⟨hB, o, ho, hw⟩ := hr r e; exact ⟨by rw [← hW1] at hB; simp at hB; omega, o, ho, Obj.not_cells_of_walk hw⟩
    refine (hseq (w.heap.size + 1)
      (fun pre W => I pre W ∧ W.heap[w.heap.size + 1]? = some (.loop (rec .ready none)) ∧ W.heap[w.heap.size]? = some (.deferred (some [])))
      W1 hb1
      (fun s A B row hs hg' hr => ⟨hI s A B row hs.1 hg' (hnw (B := B) hr), (grownBy_keeps hg' (fun r e => (hr r e).2) hs.2.1 rfl).trans hs.2.1, (grownBy_keeps hg' (fun r e => (hr r e).2) hs.2.2 rfl).trans hs.2.2⟩)
      (fun s A v hs => ⟨hIc s A v hs.1, (Below.heap_setCell _ _ _ _ (by simp; omega)).trans hs.2.1, (Below.heap_setCell _ _ _ _ (by simp; omega)).trans hs.2.2⟩)
      ?_ ⟨hI1, hL1, hK1⟩).mono ?_
    · rintro pre x W ⟨hi, hl, hk⟩ hlen
      have hlt : w.heap.size + 1 < W.heap.size := (Array.getElem?_eq_some_iff.1 hl).1
      have hy := run_yield (P := P) (args := encs x) hl (by rw [hrec]; exact hps x)
      rw [hrec] at hy
      refine ⟨fn, _, assign, body, hy, roundIn_of_wpIn hfn (hassign _ x W _ ⟨_, run_beginRound hl (by rw [hrec]), ?_⟩)⟩
      have hl2 : (W.putObj (w.heap.size + 1) (.loop { rec .ready none with state := .busy })).heap[w.heap.size + 1]? = some (.loop { rec .ready none with state := .busy }) := World.putObj_heap_same hlt
      have hk2 : (W.putObj (w.heap.size + 1) (.loop { rec .ready none with state := .busy })).heap[w.heap.size]? = some (.deferred (some [])) := (World.putObj_heap_other (by omega)).trans hk
      have hw2 : Kp W (W.putObj (w.heap.size + 1) (.loop { rec .ready none with state := .busy })) := hKb _ _ _ _ (by omega) hl rfl rfl
      refine wpIn_mono (hbody _ pre x _ (hI.putObj _ hi (by omega) hl rfl) hlen) ?_
      have fin : ∀ (jump : Option Code) (W3 : World), KeepsFrom w.heap.size (W.putObj (w.heap.size + 1) (.loop { rec .ready none with state := .busy })) W3 →
          (Instr.endRound (w.heap.size + 1) jump).run P W3 = .ok (.bool jump.isNone) (W3.putObj (w.heap.size + 1) (.loop (rec (if jump.isNone then .ready else .done) jump))) ∧
          W3.heap[w.heap.size + 1]? = some (.loop { rec .ready none with state := .busy }) ∧
          (W3.putObj (w.heap.size + 1) (.loop (rec (if jump.isNone then .ready else .done) jump))).heap[w.heap.size + 1]? = some (.loop (rec (if jump.isNone then .ready else .done) jump)) ∧
          (W3.putObj (w.heap.size + 1) (.loop (rec (if jump.isNone then .ready else .done) jump))).heap[w.heap.size]? = some (.deferred (some [])) := fun jump W3 hk3 => by
        have hl3 := hk3.same _ _ (by omega) hl2 rfl
        have := run_endRound (P := P) jump hl3
        rw [hrec] at this ⊢
        exact ⟨this, by rw [hrec] at hl3; exact hl3, World.putObj_heap_same (Array.getElem?_eq_some_iff.1 hl3).1, (World.putObj_heap_other (by omega)).trans (hk3.same _ _ (Nat.le_refl _) hk2 rfl)⟩
      rintro e a3 W3 hp
      cases e with
      | normal =>
        obtain ⟨hk3, hkp3, hi3⟩ := hp
        obtain ⟨hr, hl3, hl4, hk4⟩ := fin none W3 hk3
        exact ⟨_, _, hr, rfl, ⟨hI.putObj _ hi3 (by omega) hl3 rfl, hl4, hk4⟩, hKt (hKt hw2 hkp3) (hKb _ _ _ _ (by omega) hl3 rfl rfl)⟩
      | ret => exact hp.elim
      | exit id => exact hp.elim
      | goto t => exact hp.elim
      | panic ch => exact hp.elim
      | outgrown => exact hp.elim
    · rintro e W2 ⟨⟨v, rfl⟩, hi, hl, hk⟩
      exact ⟨none, _, by have := run_endLoop (P := P) hl (by rw [hrec]; simp); rw [hrec] at this; exact this, hdone _ _ (Nat.le_refl _) (hI.putObj _ hi (by omega) hl rfl) ((World.putObj_heap_other (by omega)).trans hk)⟩
end Go.Proofs.YtnnnbeimehfiiaaDoor.Q
-- Written by a program of this session (wip/mkprint.py, wip/pr.sh) for this claim; Lean checks it.
namespace Go.Proofs.YtnnnbeimehfiiaaDoor.Q
open Go.RowKit Go.Proofs.YtnnnbeimehfiiaaDoorW.PrintWords Go.Proofs.YtnnnbeimehfiiaaDoorW.PrintLast Go.Proofs.YtnnnbeimehfiiaaDoorW.PrintMore
attribute [local go_sem] max2_int min2_int max_two min_two max_three min_three max_four min_four   -- for this text's walks alone
set_option linter.unusedVariables false
set_option linter.unusedSimpArgs false
def errW : Option Int → Value
 | none => .nilIface
 | some c => .iface 0 (.int .i64 c)
theorem errW_none : errW none = .nilIface := rfl
theorem errW_some (c : Int) : errW (some c) = .iface 0 (.int .i64 c) := rfl
theorem info5 : (Tryd.prog.info? 5).map (fun i => (i.zero, i.size, i.bytes)) = some (some (.int .u8 0), 1, 1) := by kernel_rfl
theorem info22 : (Tryd.prog.info? 22).map (fun i => (i.zero, i.size, i.bytes)) = some (some (.slice none 0 0), 1, 24) := by kernel_rfl
-- the values' own types
def rd_L1 (xs : List (List Int)) (i : Int) : (List Int) := xs.getD i.toNat ([] : List Int)
theorem at_L1 {w : World} {A : Option Addr} {n : Nat} {xs : List (List Int)} (h : Kd.C (Kd.slice 5 (Kd.int .u8)) w A n xs) (i : Int) (h0 : 0 ≤ i) (h1 : i < n) : ∃ ad A0 c0, A = some ad ∧ w.cell? (ad.add i.toNat) = some (.slice A0 (rd_L1 xs i).length c0) ∧ (rd_L1 xs i).length ≤ c0 ∧ (Kd.int .u8).C w A0 (rd_L1 xs i).length (rd_L1 xs i) := by
 obtain ⟨ad, c, e, _, hK, hc0⟩ := Kd.C_get h ([] : List Int) i h0 h1
 have hc : ∀ j u, c[j]? = some u → w.cell? (ad.add (i.toNat * 1 + j)) = some u := hc0
 obtain ⟨A0, c0, rfl, l0, g0⟩ := hK
 exact ⟨ad, A0, c0, e, by have hq := hc 0 _ rfl; rwa [Nat.mul_one, Nat.add_zero] at hq, l0, g0⟩
end Go.Proofs.YtnnnbeimehfiiaaDoor.Q
/-! Lines of bytes, in plain Lean; bytes.IndexByte and slices.Clone at bytes; the iterator over lines. -/
set_option linter.unusedVariables false
set_option linter.unusedSimpArgs false
namespace Go.Proofs.YtnnnbeimehfiiaaDoor.Q
open Go Go.RowKit Go.Shelf Go.Proofs.YtnnnbeimehfiiaaDoorW.PrintWords
/-- How long the first line is. -/
def lnLen : List Int → Nat
  | [] => 0
  | x :: r => if x = 10 then 1 else lnLen r + 1
/-- Bytes as lines. -/
def linesOf : List Int → List (List Int)
  | [] => []
  | x :: r => if x = 10 then [10] :: linesOf r else match linesOf r with | [] => [[x]] | y :: ys => (x :: y) :: ys
def byte (x : Int) : Prop := 0 ≤ x ∧ x < 256
theorem lnLen_le : ∀ l : List Int, lnLen l ≤ l.length
  | [] => Nat.le_refl _
  | x :: r => by have := lnLen_le r; unfold lnLen; split <;> simp only [List.length_cons] <;> omega
theorem lnLen_pos {l : List Int} (h : l ≠ []) : 0 < lnLen l := by
  cases l with
  | nil => exact absurd rfl h
  | cons x r => unfold lnLen; split <;> omega
theorem byte_eq {x : Int} (h : byte x) : (UInt8.ofNat x.toNat == 10) = decide (x = 10) := by
  obtain ⟨h0, h1⟩ := h
  obtain ⟨m, rfl⟩ := Int.eq_ofNat_of_zero_le h0
  rw [Bool.eq_iff_iff]
  simp only [Int.toNat_natCast, beq_iff_eq, decide_eq_true_eq]
  refine ⟨fun h => ?_, fun h => ?_⟩
  · have h2 := congrArg UInt8.toNat h
    simp only [UInt8.toNat_ofNat'] at h2
    change m % 256 = 10 at h2
    omega
  · have : m = 10 := by omega
    subst this; rfl
theorem lnLen_idx : ∀ (l : List Int), (∀ x ∈ l, byte x) → (Lib.indexByte (Lib.bytesOf l) 10 = -1 ∧ lnLen l = l.length) ∨ (Lib.indexByte (Lib.bytesOf l) 10 + 1 = (lnLen l : Int) ∧ 0 < lnLen l)
  | [], _ => .inl ⟨rfl, rfl⟩
  | x :: r, hb => by
    have ih := lnLen_idx r (fun y hy => hb y (List.mem_cons_of_mem _ hy))
    have hx := byte_eq (hb x List.mem_cons_self)
    have hge := Lib.indexByte_ge (Lib.bytesOf r) 10
    simp only [Lib.bytesOf, List.map_cons, Lib.indexByte, lnLen, List.length_cons] at ih hge ⊢
    rw [hx]
    by_cases h : x = 10
    · simp [h]
    · simp only [h, decide_false, Bool.false_eq_true, if_false]
      rcases ih with ⟨h1, h2⟩ | ⟨h1, h2⟩
      · left; rw [h1]; simp [h2]
      · right
        have h3 : ¬ (Lib.indexByte (List.map (fun n => UInt8.ofNat n.toNat) r) 10 == -1) = true := by
          intro h4; rw [beq_iff_eq] at h4; omega
        rw [if_neg h3]
        omega
theorem linesOf_step : ∀ (l : List Int), l ≠ [] → linesOf l = l.take (lnLen l) :: linesOf (l.drop (lnLen l))
  | [], h => absurd rfl h
  | x :: r, _ => by
    by_cases hx : x = 10
    · subst hx; simp [linesOf, lnLen]
    · by_cases hr : r = []
      · subst hr; simp [linesOf, lnLen, hx]
      · have ih := linesOf_step r hr
        simp only [linesOf, lnLen, hx, if_false, List.take_succ_cons, List.drop_succ_cons]
        rw [ih]
abbrev B8 : Kd Int := Kd.int .u8
/-- The slices that come, one by one. -/
def Chain (w0 : World) (ok : Nat → Prop) : Option Addr → Nat → List Int → List (Option Addr × Nat × List Int) → Prop
  | _, _, l, [] => l = []
  | A, c, l, x :: r => x = (A, c, l.take (lnLen l)) ∧ l ≠ [] ∧ ∃ A', (∀ W : World, (Instr.slice 22 (.slice A l.length c) (some (.int .i64 (lnLen l : Nat))) none none).run Tryd.prog W = .ok (.slice A' (l.drop (lnLen l)).length (c - lnLen l)) W) ∧
      Kd.F B8 w0 ok A' (l.drop (lnLen l)).length (l.drop (lnLen l)) ∧ (l.drop (lnLen l)).length ≤ c - lnLen l ∧ Chain w0 ok A' (c - lnLen l) (l.drop (lnLen l)) r
theorem inf5 : (Tryd.prog.info? 5).map (fun i => (i.zero, i.size, i.bytes)) = some (some (.int .u8 0), 1, 1) := by kernel_rfl
theorem chain_mk (w0 : World) (ok : Nat → Prop) : ∀ (k : Nat) (A : Option Addr) (c : Nat) (l : List Int), l.length ≤ k → l.length ≤ c → Kd.F B8 w0 ok A l.length l → ∃ xs, Chain w0 ok A c l xs ∧ xs.map (·.2.2) = linesOf l
  | 0, A, c, l, hk, hc, hF => by
    have hl : l = [] := by cases l with | nil => rfl | cons _ _ => simp at hk
    subst hl
    exact ⟨[], rfl, rfl⟩
  | k + 1, A, c, l, hk, hc, hF => by
    by_cases hl : l = []
    · subst hl; exact ⟨[], rfl, rfl⟩
    · have hp := lnLen_pos hl
      have hle := lnLen_le l
      obtain ⟨i0, hi, hz0, hz1, hz2⟩ := info_parts inf5
      obtain ⟨A', h1, h2, h3⟩ := print_drop_of (P := Tryd.prog) (Value.int .u8) 0 22 5 .i64 Tryd.underlying22 hi hz1 A c l (lnLen l : Nat) (by omega) (by omega) hc
      simp only [Int.toNat_natCast] at h1 h2 h3
      have hF' : Kd.F B8 w0 ok A' (l.drop (lnLen l)).length (l.drop (lnLen l)) := Kd.F_imp hF (fun W hC => Kd.C_of_reads (h2 W (Kd.reads_of_C (d := 0) hC)))
      obtain ⟨xs, hx, hm⟩ := chain_mk w0 ok k A' (c - lnLen l) (l.drop (lnLen l)) (by rw [List.length_drop]; omega) h3 hF'
      exact ⟨(A, c, l.take (lnLen l)) :: xs, ⟨rfl, hl, A', h1, hF', h3, hx⟩, by rw [List.map_cons, hm, linesOf_step l hl]⟩
/-- Each of them is read at w0, and holds something. -/
theorem chain_all {w0 : World} {ok : Nat → Prop} : ∀ {xs : List (Option Addr × Nat × List Int)} {A : Option Addr} {c : Nat} {l : List Int}, l.length ≤ c → Kd.F B8 w0 ok A l.length l → Chain w0 ok A c l xs →
    ∀ x ∈ xs, Kd.F B8 w0 ok x.1 x.2.2.length x.2.2 ∧ x.2.2 ≠ [] ∧ x.2.2.length ≤ x.2.1 ∧ ∀ y ∈ x.2.2, y ∈ l
  | [], _, _, _, _, _, _, x, hx => by simp at hx
  | _ :: xs, A, c, l, hc, hF, ⟨rfl, hl, A', _, hF', hc', hr⟩, x, hx => by
    rcases List.mem_cons.1 hx with rfl | hx
    · refine ⟨Kd.F_take hF (lnLen_le l), fun h => ?_, ?_, fun y hy => List.mem_of_mem_take hy⟩
      · have := lnLen_pos hl
        have h2 := congrArg List.length h
        have := lnLen_le l
        simp only [List.length_take, List.length_nil] at h2
        omega
      · show (l.take (lnLen l)).length ≤ c
        rw [List.length_take]; omega
    · obtain ⟨h1, h2, h3, h4⟩ := chain_all hc' hF' hr x hx
      exact ⟨h1, h2, h3, fun y hy => List.mem_of_mem_drop (h4 y hy)⟩
set_option maxHeartbeats 2000000 in
set_option maxRecDepth 100000 in
/-- bytes.IndexByte. -/
theorem ib_calls (ad : Addr) (n c : Nat) (xs : List Int) (cv : Int) (w : World) (hx : xs.length = n) (hc : ∀ i, i < n → w.cell? (ad.add i) = some (.int .u8 (xs.getD i 0))) :
    Calls Tryd.prog 58 #[.slice (some ad) n c, .int .u8 cv] w fun e w' => e = .returned (.int .i64 (Lib.indexByte (Lib.bytesOf xs) cv.toNat.toUInt8)) ∧ w' = w := by
  have hA := Aside0.mk hc
  clear hc
  go_enter Tryd.func58, Tryd.ntmps58
  go_wp2
  rw [run_callFunc_extern Tryd.func72 (by kernel_rfl) (by kernel_rfl) (by kernel_rfl) (e := Extern.BytealgIndexByte.indexByte) (by kernel_rfl), Lib.run_indexByteAt w ad n c xs hx hA.out cv]
  simp only [Result.andThen]
  rw [Oper.upon_value]
  go_wp2
  go_ret
  exact ⟨rfl, rfl⟩
set_option maxHeartbeats 2000000 in
set_option maxRecDepth 100000 in
/-- slices.Clone of bytes that are some. -/
theorem clone_calls (ad : Addr) (c : Nat) (xs : List Int) (w : World) (hn : xs ≠ []) (hl : xs.length ≤ 140737488355328) (hr : Kd.C B8 w (some ad) xs.length xs) :
    Calls Tryd.prog 42 #[.slice (some ad) xs.length c] w fun e w' => ∃ v', e = .returned v' ∧ w'.ownsRow w.heap.size 5 1 v' xs.length (xs.map (Value.int .u8)) ∧ Below w.heap.size w w' := by
  obtain ⟨i0, hi, hz0, hz1, hz2⟩ := info_parts inf5
  have q22 : ∀ (w : World) (a : Option Addr) (n c n' c' : Nat), (binOp .eql 22 (.slice a n c) (.slice none n' c')).run Tryd.prog w = .ok (.bool a.isNone) w := fun w a n c n' c' => Lib.run_eql_slice_nil w _ _ a n c n' c' Tryd.underlying22
  have HR := Aside0.mk hr
  have HL := Aside0.mk hl
  clear hr hl hn
  go_enter Tryd.func42, Tryd.ntmps42
  go_wp2_with (at_builtin; refine wpList_append_own _ rfl _ _ 22 rfl w.heap.size 5 i0 (.int .u8 0) 1 1 Tryd.underlying22 hi hz0 hz1 hz2 rfl (by decide) _ _ _ rfl (World.ownsRow_made w #[] 0 (Nat.le_refl _) (Nat.zero_le _) rfl) ad xs.length c (xs.map (Value.int .u8)) rfl ?qc1 ?qc2 ?qc3 ?qc4 ?qc5 ?qc6 ?_)
  case qc1 => simp
  case qc2 =>
    intro j u hj
    have hjl : j < xs.length := by
      have := (List.getElem?_eq_some_iff.1 hj).1
      simpa using this
    refine Lib.cell?_alloc_some _ ?_
    obtain ⟨ad', he, hc⟩ := Kd.at_int HR.out (j : Int) (by omega) (by omega)
    injection he with he
    subst he
    simp only [Int.toNat_natCast] at hc
    rw [hc, ← hj]
    simp [rd, List.getD_eq_getElem?_getD, List.getElem?_eq_getElem hjl]
  case qc3 => intro u hu; obtain ⟨x, _, rfl⟩ := List.mem_map.1 hu; rfl
  case qc4 => have := HL.out; unfold maxLen; omega
  case qc5 => have := HL.out; omega
  case qc6 => simp
  intro v' w1 hown hgrow hnil
  go_wp2
  go_ret
  refine ⟨v', rfl, by simpa using hown, ?_⟩
  exact ((Below.refl _ w).alloc (Nat.le_refl _) _).grown hgrow (by simp) (by intro k hk; simp [Value.ownBlock] at hk; omega)
end Go.Proofs.YtnnnbeimehfiiaaDoor.Q
/-! A part of a text: its Lean form, how it is read. -/
set_option linter.unusedVariables false
set_option linter.unusedSimpArgs false
namespace Go.Proofs.YtnnnbeimehfiiaaDoor.Q
open Go Go.RowKit Go.Proofs.YtnnnbeimehfiiaaDoorW.PrintWords
structure Pt where
  region : Bool
  text : List Int
  s0 : List Int
  s1 : List Int
  s2 : List Int
deriving DecidableEq
def ptz : Pt := ⟨false, [], [], [], []⟩
abbrev kB : Kd (List Int) := Kd.slice 5 B8
def kP : Kd Pt := Kd.iso (Kd.pair Kd.bool (Kd.pair kB (Kd.pair kB (Kd.pair kB kB)))) (fun x : Pt => (x.region, x.text, x.s0, x.s1, x.s2))
theorem kP_heap : Kd.Heap kP := Kd.heap_iso _ (Kd.heap_pair Kd.heap_scalar (Kd.heap_pair (Kd.heap_slice 5 (Kd.heap_int .u8)) (Kd.heap_pair (Kd.heap_slice 5 (Kd.heap_int .u8)) (Kd.heap_pair (Kd.heap_slice 5 (Kd.heap_int .u8)) (Kd.heap_slice 5 (Kd.heap_int .u8))))))
theorem kP_open {w : World} {x : Pt} {cs : List Value} (h : kP.K w x cs) : ∃ A1 c1 A2 c2 A3 c3 A4 c4, cs = [.bool x.region, .slice A1 x.text.length c1, .slice A2 x.s0.length c2, .slice A3 x.s1.length c3, .slice A4 x.s2.length c4] ∧
    (x.text.length ≤ c1 ∧ Kd.C B8 w A1 x.text.length x.text) ∧ (x.s0.length ≤ c2 ∧ Kd.C B8 w A2 x.s0.length x.s0) ∧ (x.s1.length ≤ c3 ∧ Kd.C B8 w A3 x.s1.length x.s1) ∧ (x.s2.length ≤ c4 ∧ Kd.C B8 w A4 x.s2.length x.s2) := by
  obtain ⟨_, _, rfl, rfl, ⟨_, _, rfl, ⟨A1, c1, rfl, l1, g1⟩, ⟨_, _, rfl, ⟨A2, c2, rfl, l2, g2⟩, ⟨_, _, rfl, ⟨A3, c3, rfl, l3, g3⟩, ⟨A4, c4, rfl, l4, g4⟩⟩⟩⟩⟩ := h
  exact ⟨A1, c1, A2, c2, A3, c3, A4, c4, rfl, ⟨l1, g1⟩, ⟨l2, g2⟩, ⟨l3, g3⟩, ⟨l4, g4⟩⟩
theorem kP_mk (w : World) (x : Pt) {A1 A2 A3 A4 : Option Addr} {c1 c2 c3 c4 : Nat} (h1 : x.text.length ≤ c1 ∧ Kd.C B8 w A1 x.text.length x.text) (h2 : x.s0.length ≤ c2 ∧ Kd.C B8 w A2 x.s0.length x.s0) (h3 : x.s1.length ≤ c3 ∧ Kd.C B8 w A3 x.s1.length x.s1) (h4 : x.s2.length ≤ c4 ∧ Kd.C B8 w A4 x.s2.length x.s2) :
    kP.K w x [.bool x.region, .slice A1 x.text.length c1, .slice A2 x.s0.length c2, .slice A3 x.s1.length c3, .slice A4 x.s2.length c4] :=
  ⟨[.bool x.region], [_, _, _, _], rfl, rfl, [_], [_, _, _], rfl, ⟨A1, c1, rfl, h1.1, h1.2⟩, [_], [_, _], rfl, ⟨A2, c2, rfl, h2.1, h2.2⟩, [_], [_], rfl, ⟨A3, c3, rfl, h3.1, h3.2⟩, ⟨A4, c4, rfl, h4.1, h4.2⟩⟩
theorem kP_openF {W : World} {ok : Nat → Prop} {x : Pt} {cs : List Value} (h : Kd.FK kP W ok x cs) : ∃ A1 c1 A2 c2 A3 c3 A4 c4, cs = [.bool x.region, .slice A1 x.text.length c1, .slice A2 x.s0.length c2, .slice A3 x.s1.length c3, .slice A4 x.s2.length c4] ∧
    (x.text.length ≤ c1 ∧ Kd.F B8 W ok A1 x.text.length x.text) ∧ (x.s0.length ≤ c2 ∧ Kd.F B8 W ok A2 x.s0.length x.s0) ∧ (x.s1.length ≤ c3 ∧ Kd.F B8 W ok A3 x.s1.length x.s1) ∧ (x.s2.length ≤ c4 ∧ Kd.F B8 W ok A4 x.s2.length x.s2) := by
  obtain ⟨A1, c1, A2, c2, A3, c3, A4, c4, rfl, ⟨l1, _⟩, ⟨l2, _⟩, ⟨l3, _⟩, ⟨l4, _⟩⟩ := kP_open (Kd.FK_now h)
  refine ⟨A1, c1, A2, c2, A3, c3, A4, c4, rfl, ⟨l1, fun W' hW => ?_⟩, ⟨l2, fun W' hW => ?_⟩, ⟨l3, fun W' hW => ?_⟩, ⟨l4, fun W' hW => ?_⟩⟩ <;>
  · obtain ⟨B1, d1, B2, d2, B3, d3, B4, d4, he, ⟨_, g1⟩, ⟨_, g2⟩, ⟨_, g3⟩, ⟨_, g4⟩⟩ := kP_open (h W' hW)
    simp only [List.cons.injEq, Value.slice.injEq, and_true, true_and] at he
    first | (rw [he.1.1]; exact g1) | (rw [he.2.1.1]; exact g2) | (rw [he.2.2.1.1]; exact g3) | (rw [he.2.2.2.1]; exact g4)
theorem kP_mkF (W : World) (ok : Nat → Prop) (x : Pt) {A1 A2 A3 A4 : Option Addr} {c1 c2 c3 c4 : Nat} (h1 : x.text.length ≤ c1 ∧ Kd.F B8 W ok A1 x.text.length x.text) (h2 : x.s0.length ≤ c2 ∧ Kd.F B8 W ok A2 x.s0.length x.s0) (h3 : x.s1.length ≤ c3 ∧ Kd.F B8 W ok A3 x.s1.length x.s1) (h4 : x.s2.length ≤ c4 ∧ Kd.F B8 W ok A4 x.s2.length x.s2) :
    Kd.FK kP W ok x [.bool x.region, .slice A1 x.text.length c1, .slice A2 x.s0.length c2, .slice A3 x.s1.length c3, .slice A4 x.s2.length c4] := fun W' hW => kP_mk W' x ⟨h1.1, h1.2 W' hW⟩ ⟨h2.1, h2.2 W' hW⟩ ⟨h3.1, h3.2 W' hW⟩ ⟨h4.1, h4.2 W' hW⟩
theorem add_field (ad : Addr) (n k : Nat) (hk : 0 < k) : ad.add (n + k) = ⟨(ad.add n).block, (ad.add n).off + k, none⟩ := by
  by_cases h : n = 0
  · subst h; simp [Addr.add]; omega
  · simp [Addr.add, h]; omega
/-- The i-th part as it lies. -/
theorem at_Pt {w : World} {ok : Nat → Prop} {A : Option Addr} {n : Nat} {xs : List Pt} (h : Kd.F kP w ok A n xs) (i : Int) (h0 : 0 ≤ i) (h1 : i < n) : ∃ ad x A1 c1 A2 c2 A3 c3 A4 c4, A = some ad ∧ xs[i.toNat]? = some x ∧ ok ad.block ∧
    w.cell? (ad.add (i.toNat * 5)) = some (.bool x.region) ∧ w.cell? ⟨(ad.add (i.toNat * 5)).block, (ad.add (i.toNat * 5)).off + 1, none⟩ = some (.slice A1 x.text.length c1) ∧ w.cell? ⟨(ad.add (i.toNat * 5)).block, (ad.add (i.toNat * 5)).off + 2, none⟩ = some (.slice A2 x.s0.length c2) ∧
    w.cell? ⟨(ad.add (i.toNat * 5)).block, (ad.add (i.toNat * 5)).off + 3, none⟩ = some (.slice A3 x.s1.length c3) ∧ w.cell? ⟨(ad.add (i.toNat * 5)).block, (ad.add (i.toNat * 5)).off + 4, none⟩ = some (.slice A4 x.s2.length c4) ∧
    (x.text.length ≤ c1 ∧ Kd.F B8 w ok A1 x.text.length x.text) ∧ (x.s0.length ≤ c2 ∧ Kd.F B8 w ok A2 x.s0.length x.s0) ∧ (x.s1.length ≤ c3 ∧ Kd.F B8 w ok A3 x.s1.length x.s1) ∧ (x.s2.length ≤ c4 ∧ Kd.F B8 w ok A4 x.s2.length x.s2) := by
  obtain ⟨ad, cs, rfl, hcl, hFK, hcc, hok⟩ := Kd.F_get h ptz i h0 h1
  have hl := Kd.F_len h
  have hx : xs[i.toNat]? = some (xs.getD i.toNat ptz) := by
    rw [List.getD_eq_getElem?_getD, List.getElem?_eq_getElem (by omega)]; rfl
  obtain ⟨A1, c1, A2, c2, A3, c3, A4, c4, rfl, g1, g2, g3, g4⟩ := kP_openF hFK
  refine ⟨ad, _, A1, c1, A2, c2, A3, c3, A4, c4, rfl, hx, hok (by decide), hcc 0 _ rfl, ?_, ?_, ?_, ?_, g1, g2, g3, g4⟩
  · rw [← add_field _ _ 1 (by omega)]; exact hcc 1 _ rfl
  · rw [← add_field _ _ 2 (by omega)]; exact hcc 2 _ rfl
  · rw [← add_field _ _ 3 (by omega)]; exact hcc 3 _ rfl
  · rw [← add_field _ _ 4 (by omega)]; exact hcc 4 _ rfl
end Go.Proofs.YtnnnbeimehfiiaaDoor.Q
/-! The iterator over lines keeps its contract: it calls yield at each line, in order; its state lies in a captured cell. -/
set_option linter.unusedVariables false
set_option linter.unusedSimpArgs false
namespace Go.Proofs.YtnnnbeimehfiiaaDoor.Q
open Go Go.RowKit Go.Shelf Go.Proofs.YtnnnbeimehfiiaaDoorW.PrintWords
attribute [local go_sem] Oper.semAt_some
def leftAt (B : Nat) (W : World) : Nat := match W.cell? ⟨B, 0, none⟩ with
  | some (.slice _ n _) => n
  | _ => 0
theorem boxed_cell {W : World} {B t : Nat} {v : Value} (h : W.heap[B]? = some (.cells #[v] t (0, 0))) : W.cell? ⟨B, 0, none⟩ = some v := Boxed.cell (show Boxed W B t v from h)
theorem boxed_frozen {W : World} {B t : Nat} {v : Value} (h : W.heap[B]? = some (.cells #[v] t (0, 0))) : W.frozen? ⟨B, 0, none⟩ = false := Boxed.frozen (show Boxed W B t v from h)
theorem leftAt_eq {W : World} {B t n c : Nat} {A : Option Addr} (h : W.heap[B]? = some (.cells #[.slice A n c] t (0, 0))) : leftAt B W = n := by unfold leftAt; rw [boxed_cell h]
theorem w64s {i : Int} (h0 : -9223372036854775808 ≤ i) (h1 : i ≤ 9223372036854775807) : wrap64 i = i := by unfold wrap64; omega
set_option maxHeartbeats 8000000 in
set_option maxRecDepth 100000 in
theorem iter_in (n : Nat) (hn : 1 ≤ n) (l Bn : Nat) (w0 : World) (hBn : w0.heap.size ≤ Bn) (A0 : Option Addr) (c0 : Nat) (l0 : List Int) (hb0 : ∀ x ∈ l0, byte x) (hlen : l0.length ≤ 140737488355328) (xs : List (Option Addr × Nat × List Int)) (J : List (Option Addr × Nat × List Int) → World → Prop)
    (hJ : ∀ s W v, J s W → J s (W.setCell ⟨Bn, 0, none⟩ v))
    (hY : ∀ pre x W, J pre W → pre ++ [x] <+: xs → YieldAt Fence.wide (n - 1) Tryd.prog l #[Value.slice x.1 x.2.2.length x.2.1] W fun e W' => e = .returned (.bool true) ∧ J (pre ++ [x]) W' ∧ (Below w0.heap.size W W' ∧ W'.heap[Bn]? = W.heap[Bn]?))
    (W : World) (hW : Below w0.heap.size w0 W) (hcell : W.heap[Bn]? = some (.cells #[.slice A0 l0.length c0] 22 (0, 0))) (hF0 : Kd.F B8 w0 (fun k => k < w0.heap.size) A0 l0.length l0) (hc0 : l0.length ≤ c0) (hx : Chain w0 (fun k => k < w0.heap.size) A0 c0 l0 xs) (h0 : J [] W) :
    CallsIn Fence.wide n Tryd.prog 57 #[.func (.yield l) #[] #[], .pointer (some ⟨Bn, 0, none⟩)] W fun e W' => (∃ v, e = .returned v) ∧ J xs W' := by
  have HY := Aside0.mk hY; clear hY
  have HJ := Aside0.mk hJ; clear hJ
  have HB0 := Aside0.mk hb0; clear hb0
  refine callsIn_of_wp Tryd.func57 rfl trivial ?_ rfl
  simp only [Tryd.ntmps57, List.size_toArray, List.length_cons, List.length_nil, Nat.reduceAdd, Nat.reduceSub, Array.replicate_succ, Array.replicate_zero, List.push_toArray, List.append_toArray, List.nil_append, List.cons_append]
  gi_wp2
  gi_loopw [3] (fun p wr => ∃ (pre rest : List (Option Addr × Nat × List Int)) (A : Option Addr) (c : Nat) (m : List Int), xs = pre ++ rest ∧ Chain w0 (fun k => k < w0.heap.size) A c m rest ∧ wr.heap[Bn]? = some (.cells #[.slice A m.length c] 22 (0, 0)) ∧ Kd.F B8 w0 (fun k => k < w0.heap.size) A m.length m ∧ m.length ≤ c ∧ (∀ y ∈ m, y ∈ l0) ∧ m.length ≤ l0.length ∧ Below w0.heap.size w0 wr ∧ J pre wr)
    (fun p wr => leftAt Bn wr)
  case atStart =>
    exact ⟨[], xs, A0, c0, l0, rfl, hx, hcell, hF0, hc0, fun _ h => h, Nat.le_refl _, hW, h0⟩
  case round =>
    obtain ⟨pre, rest, A, c, m, hxx, hch, hB, hF, hmc, hml, hmlen, hbw, hJs⟩ := hrel
    have hcl := boxed_cell hB
    have hfz := boxed_frozen hB
    cases rest with
    | nil =>
      obtain rfl : m = [] := hch
      gi_wp2
      go_end0
      exact ⟨⟨_, rfl⟩, by simpa [hxx] using hJs⟩
    | cons x rest =>
      obtain ⟨rfl, hne, A', hcut, hF', hc', hr⟩ := hch
      have hpos := lnLen_pos hne
      have hle := lnLen_le m
      have hmp : 0 < m.length := by omega
      have hC : Kd.C B8 wr A m.length m := Kd.F_now (Kd.F_step hF (fun k hk _ => hbw.block k hk))
      obtain ⟨ad, rfl, _⟩ := hC.2.2 hmp
      have hby : ∀ y ∈ m, byte y := fun y hy => HB0.out y (hml y hy)
      obtain ⟨i0, hi, hz0, hz1, hz2⟩ := info_parts inf5
      have htk := (print_take_int (k := .u8) (P := Tryd.prog) 22 5 Tryd.underlying22 hi hz1 (some ad) c m (lnLen m : Nat) (by omega) (by omega) hmc).1
      simp only [Int.toNat_natCast] at htk
      clear hz0 hz1 hz2 hi
      have hidx := lnLen_idx m hby
      have HC := Aside0.mk hC
      have hcells : ∀ i, i < m.length → wr.cell? (ad.add i) = some (.int .u8 (m.getD i 0)) := fun i hi => by
        obtain ⟨ad', he, hc⟩ := Kd.at_int HC.out (i : Int) (by omega) (by omega)
        injection he with he
        subst he
        simpa [rd] using hc
      have HIB := Aside0.mk (ib_calls ad m.length c m 10 wr rfl hcells)
      clear hcells
      obtain ⟨q, hq⟩ : ∃ q, Lib.indexByte (Lib.bytesOf m) (10 : Int).toNat.toUInt8 = q := ⟨_, rfl⟩
      rw [hq] at HIB
      change Lib.indexByte (Lib.bytesOf m) 10 = q at hq
      rw [hq] at hidx
      clear hq
      obtain ⟨k, hk⟩ : ∃ k, lnLen m = k := ⟨_, rfl⟩
      simp only [hk] at hxx hr hF' hc' hcut htk hpos hle hidx
      clear hk
      have HY1 := Aside0.mk (HY.out pre (some ad, c, m.take k) wr hJs (by rw [hxx]; exact ⟨rest, by simp⟩))
      have HBW := Aside0.mk hbw
      have hm47 : m.length ≤ 140737488355328 := by omega
      have HREST := Aside0.mk (⟨hxx, hr, hF', hc', hml, hmlen⟩ : _ ∧ _ ∧ _ ∧ _ ∧ _ ∧ _)
      clear hxx hr hF' hc' hml hmlen hF hby hbw hC
      obtain ⟨fn, tmps, assign, body, hy, hR⟩ := HY1.out
      have htl : (m.take k).length = k := by rw [List.length_take]; omega
      dsimp only at hy
      rw [htl] at hy htk
      clear htl
      have HR := Aside0.mk hR
      clear hR HY1
      rcases hidx with ⟨rfl, rfl⟩ | ⟨hq1, hk1⟩
      · gi_wp2_with (refine ⟨trivial, ?_⟩; gi_at_call 58; refine (callsIn_wide.2 HIB.out).mono ?_; rintro e w' ⟨rfl, rfl⟩)
        refine HR.out.mono ?_
        rintro e W3 ⟨rfl, hJ3, hb3, hc3⟩
        have hB3 := hc3.trans hB
        have hcl3 := boxed_cell hB3
        have hfz3 := boxed_frozen hB3
        have HJ3 := Aside0.mk hJ3
        have HB3 := Aside0.mk hb3
        clear hJ3 hb3 hc3
        gi_wp2
        obtain ⟨hxx, hr, hF', hc', hml, hmlen⟩ := HREST.out
        have hdl : (m.drop m.length).length = 0 := by simp
        have hset : (W3.setCell ⟨Bn, 0, none⟩ (.slice A' (m.drop m.length).length (c - m.length))).heap[Bn]? = some (.cells #[.slice A' (m.drop m.length).length (c - m.length)] 22 (0, 0)) := Boxed.set _ (show Boxed W3 Bn 22 _ from hB3)
        rw [hdl] at hset
        go_roundw
        case rel => exact ⟨pre ++ [(some ad, c, m.take m.length)], rest, A', c - m.length, m.drop m.length, by rw [hxx]; simp, hr, by rw [hdl]; exact hset, hF', hc', fun y hy => hml y (List.mem_of_mem_drop hy), by omega, (HBW.out.trans HB3.out).setCell hBn _, HJ.out _ _ _ HJ3.out⟩
        case measure => rw [leftAt_eq hset, leftAt_eq hB]; omega
      · have hw1 : wrap64 (q + 1) = (k : Int) := by rw [hq1]; exact w64s (by omega) (by omega)
        gi_wp2_with (refine ⟨trivial, ?_⟩; gi_at_call 58; refine (callsIn_wide.2 HIB.out).mono ?_; rintro e w' ⟨rfl, rfl⟩)
        refine HR.out.mono ?_
        rintro e W3 ⟨rfl, hJ3, hb3, hc3⟩
        have hB3 := hc3.trans hB
        have hcl3 := boxed_cell hB3
        have hfz3 := boxed_frozen hB3
        have HJ3 := Aside0.mk hJ3
        have HB3 := Aside0.mk hb3
        clear hJ3 hb3 hc3
        gi_wp2
        obtain ⟨hxx, hr, hF', hc', hml, hmlen⟩ := HREST.out
        have hdl : (m.drop k).length = m.length - k := List.length_drop
        have hset : (W3.setCell ⟨Bn, 0, none⟩ (.slice A' (m.drop k).length (c - k))).heap[Bn]? = some (.cells #[.slice A' (m.drop k).length (c - k)] 22 (0, 0)) := Boxed.set _ (show Boxed W3 Bn 22 _ from hB3)
        rw [hdl] at hset
        go_roundw
        case rel => exact ⟨pre ++ [(some ad, c, m.take k)], rest, A', c - k, m.drop k, by rw [hxx]; simp, hr, by rw [hdl]; exact hset, hF', hc', fun y hy => hml y (List.mem_of_mem_drop hy), by omega, (HBW.out.trans HB3.out).setCell hBn _, HJ.out _ _ _ HJ3.out⟩
        case measure => rw [leftAt_eq hset, leftAt_eq hB]; omega
end Go.Proofs.YtnnnbeimehfiiaaDoor.Q
/-! line.Split: bytes as lines, each a copy of its own. -/
set_option linter.unusedVariables false
set_option linter.unusedSimpArgs false
namespace Go.Proofs.YtnnnbeimehfiiaaDoor.Q
open Go Go.RowKit Go.Shelf Go.Proofs.YtnnnbeimehfiiaaDoorW.PrintWords
attribute [local go_sem] Oper.semAt_some
theorem linesOf_len : ∀ l : List Int, (linesOf l).length ≤ l.length
  | [] => Nat.le_refl _
  | x :: r => by
    have ih := linesOf_len r
    unfold linesOf
    split
    · simpa using ih
    · split <;> rename_i h
      · simp
      · rw [h] at ih; simpa using Nat.le_succ_of_le ih
theorem linesOf_mem : ∀ (l : List Int) (y : List Int), y ∈ linesOf l → y.length ≤ l.length
  | [], y, h => by simp [linesOf] at h
  | x :: r, y, h => by
    have ih := linesOf_mem r
    unfold linesOf at h
    split at h
    · rcases List.mem_cons.1 h with rfl | h
      · simp
      · exact Nat.le_succ_of_le (ih y h)
    · split at h <;> rename_i hr
      · rw [List.mem_singleton] at h; subst h; simp
      · rcases List.mem_cons.1 h with rfl | h
        · have := ih _ (by rw [hr]; exact List.mem_cons_self); simpa using this
        · exact Nat.le_succ_of_le (ih y (by rw [hr]; exact List.mem_cons_of_mem _ h))
/-- The lines that came: slices of the call's own, each of its own bytes. -/
def Got (base : Nat) (W : World) (rows : List Value) (pre : List (Option Addr × Nat × List Int)) : Prop :=
  rows.length = pre.length ∧ ∀ (j : Nat) (x : Option Addr × Nat × List Int) (r : Value), pre[j]? = some x → rows[j]? = some r → W.ownsRow base 5 1 r x.2.2.length (x.2.2.map (Value.int .u8))
theorem Got.move {base : Nat} {W W' : World} {rows : List Value} {pre : List (Option Addr × Nat × List Int)} (h : Got base W rows pre) (hm : ∀ k cs, base ≤ k → W.heap[k]? = some (.cells cs 5 (0, 0)) → W'.heap[k]? = W.heap[k]?) : Got base W' rows pre :=
  ⟨h.1, fun j x r hx hr => by
    have ho := h.2 j x r hx hr
    refine own_move ho (fun k hk => ?_)
    obtain ⟨cs, hc⟩ := own_typed ho k hk
    exact hm k cs (own_base ho k hk) hc⟩
theorem Got.snoc {base : Nat} {W : World} {rows : List Value} {pre : List (Option Addr × Nat × List Int)} (h : Got base W rows pre) {r : Value} {x : Option Addr × Nat × List Int} (hr : W.ownsRow base 5 1 r x.2.2.length (x.2.2.map (Value.int .u8))) : Got base W (rows ++ [r]) (pre ++ [x]) := by
  obtain ⟨hl, hj⟩ := h
  refine ⟨by simp [hl], fun j y q hy hq => ?_⟩
  by_cases hlt : j < pre.length
  · rw [List.getElem?_append_left hlt] at hy
    rw [List.getElem?_append_left (by omega)] at hq
    exact hj j y q hy hq
  · have hj' : j = pre.length := by
      have := (List.getElem?_eq_some_iff.1 hy).1
      simp at this; omega
    subst hj'
    rw [List.getElem?_append_right (Nat.le_refl _)] at hy
    rw [List.getElem?_append_right (by omega)] at hq
    simp [hl] at hy hq
    subst hy hq
    exact hr
def SplI (w : World) (pre : List (Option Addr × Nat × List Int)) (W : World) : Prop :=
  (∃ v rows, Boxed W w.heap.size 34 v ∧ W.ownsRow (w.heap.size + 2) 22 1 v pre.length rows ∧ Got (w.heap.size + 2) W rows pre) ∧ Below w.heap.size w W ∧ w.heap.size + 2 ≤ W.heap.size
theorem SplI.own (w : World) (B : Nat) (hB : w.heap.size ≤ B) : OwnFrom B (SplI w) := by
  rintro s X Y row ⟨⟨v, rows, hv, hr, hg⟩, hb, hsz⟩ hgr hrow
  have hne : ∀ k cs t, X.heap[k]? = some (.cells cs t (0, 0)) → some k ≠ row := fun k cs t hk e => by
    obtain ⟨_, o, ho, hc⟩ := hrow k e.symm
    rw [hk] at ho; cases ho; cases hc
  refine ⟨⟨v, rows, hv.kept hgr (hne _ _ _ hv), own_move hr (fun k hk => ?_), hg.move (fun k cs _ hk => ?_)⟩, hb.grown hgr hb.size (fun k e => ?_), Nat.le_trans hsz hgr.size⟩
  · obtain ⟨cs, hc⟩ := own_typed hr k hk
    exact hgr.block k (Array.getElem?_eq_some_iff.1 hc).1 (hne _ _ _ hc)
  · exact hgr.block k (Array.getElem?_eq_some_iff.1 hk).1 (hne _ _ _ hk)
  · have := (hrow k e).1; omega
theorem SplI.set (w : World) (s : List (Option Addr × Nat × List Int)) (W : World) (u : Value) (h : SplI w s W) : SplI w s (W.setCell ⟨w.heap.size + 1, 0, none⟩ u) := by
  obtain ⟨⟨v, rows, hv, hr, hg⟩, hb, hsz⟩ := h
  have hn : ∀ k, k ≠ w.heap.size + 1 → (W.setCell ⟨w.heap.size + 1, 0, none⟩ u).heap[k]? = W.heap[k]? := fun k hk => Below.heap_setCell W ⟨w.heap.size + 1, 0, none⟩ u k hk
  exact ⟨⟨v, rows, (hn _ (by omega)).trans hv, own_move hr (fun k hk => hn k (by have := own_base hr k hk; omega)), hg.move (fun k cs hk _ => hn k (by omega))⟩, hb.setCell (by show w.heap.size ≤ w.heap.size + 1; omega) _, by simpa [World.setCell] using hsz⟩
/-- One round: a copy of the line, laid behind the others. -/
theorem SplI.step {w W Wc w1 : World} {pre : List (Option Addr × Nat × List Int)} {x : Option Addr × Nat × List Int} {v v' r : Value} {rows : List Value} {tmp : Obj}
    (hv : Boxed W w.heap.size 34 v) (hrow : W.ownsRow (w.heap.size + 2) 22 1 v pre.length rows) (hg : Got (w.heap.size + 2) W rows pre) (hb : Below w.heap.size w W) (hsz : w.heap.size + 2 ≤ W.heap.size)
    (hbc : Below W.heap.size W Wc) (hr : Wc.ownsRow W.heap.size 5 1 r x.2.2.length (x.2.2.map (Value.int .u8)))
    (hown' : w1.ownsRow (w.heap.size + 2) 22 1 v' (pre.length + 1) (rows ++ [r])) (hgrow : (Wc.alloc tmp).grownBy w1 v.ownBlock) (B : Nat) :
    Boxed w1 w.heap.size 34 v ∧ KeepsFrom B W (w1.setCell ⟨w.heap.size, 0, none⟩ v') ∧ (Below w.heap.size W (w1.setCell ⟨w.heap.size, 0, none⟩ v') ∧ (w1.setCell ⟨w.heap.size, 0, none⟩ v').heap[w.heap.size + 1]? = W.heap[w.heap.size + 1]?) ∧ SplI w (pre ++ [x]) (w1.setCell ⟨w.heap.size, 0, none⟩ v') := by
  have hsc := hbc.size
  have hvc : Boxed Wc w.heap.size 34 v := (hbc.block _ (by omega)).trans hv
  have hrc : Wc.ownsRow (w.heap.size + 2) 22 1 v pre.length rows := own_move hrow (fun k hk => hbc.block k (own_lt hrow k hk))
  have hgc : Got (w.heap.size + 2) Wc rows pre := hg.move (fun k cs _ hk => hbc.block k (Array.getElem?_eq_some_iff.1 hk).1)
  have hs1 := hgrow.size
  rw [World.size_alloc] at hs1
  have hw1 : ∀ k, k < Wc.heap.size → some k ≠ v.ownBlock → w1.heap[k]? = Wc.heap[k]? := fun k hk hne => (hgrow.block k (by rw [World.size_alloc]; omega) hne).trans (Below.heap_alloc Wc _ k hk)
  have hvb : some w.heap.size ≠ v.ownBlock := fun e => by have := own_base hrc _ e.symm; omega
  have hv1 : Boxed w1 w.heap.size 34 v := (hw1 _ (by omega) hvb).trans hvc
  have hset : ∀ k, k ≠ w.heap.size → (w1.setCell ⟨w.heap.size, 0, none⟩ v').heap[k]? = w1.heap[k]? := fun k hk => Below.heap_setCell w1 ⟨w.heap.size, 0, none⟩ v' k hk
  have hss : (w1.setCell ⟨w.heap.size, 0, none⟩ v').heap.size = w1.heap.size := by simp [World.setCell]
  have hall : ∀ k, k < Wc.heap.size → some k ≠ v.ownBlock → k ≠ w.heap.size → (w1.setCell ⟨w.heap.size, 0, none⟩ v').heap[k]? = Wc.heap[k]? := fun k hk h1 h2 => (hset k h2).trans (hw1 k hk h1)
  have hne5 : ∀ k cs, Wc.heap[k]? = some (.cells cs 5 (0, 0)) → some k ≠ v.ownBlock := fun k cs hk e => by
    obtain ⟨cs', hc⟩ := own_typed hrc k e.symm
    rw [hk] at hc
    injection hc with hc; injection hc with h1 h2 h3
    exact absurd h2 (by decide)
  have hnew : ∀ k, v.ownBlock = some k → w.heap.size + 2 ≤ k := fun k e => own_base hrc k e
  refine ⟨hv1, ⟨by omega, fun k o hk ho hnc => ?_⟩, ⟨⟨?_, ?_, ?_, by omega, fun k hk => ?_⟩, ?_⟩, ⟨v', rows ++ [r], hv1.set v', ?_, ?_⟩, ⟨?_, ?_, ?_, by omega, fun k hk => ?_⟩, by omega⟩
  · have hkl := (Array.getElem?_eq_some_iff.1 ho).1
    have hkc := (hbc.block k hkl).trans ho
    refine (hall k (by omega) (fun e => ?_) (fun e => ?_)).trans hkc
    · obtain ⟨cs', hc⟩ := own_typed hrc k e.symm
      rw [hkc] at hc; cases hc; cases hnc
    · subst e; rw [show W.heap[w.heap.size]? = _ from hv] at ho; cases ho; cases hnc
  · exact hgrow.os.trans hbc.os
  · exact hgrow.tape.trans hbc.tape
  · exact hgrow.output.trans hbc.output
  · exact (hall k (by omega) (fun e => by have := hnew k e.symm; omega) (by omega)).trans (hbc.block k (by omega))
  · exact (hall _ (by omega) (fun e => by have := hnew _ e.symm; omega) (by omega)).trans (hbc.block _ (by omega))
  · rw [List.length_append]
    exact own_move hown' (fun k hk => hset k (by have := own_base hown' k hk; omega))
  · have hr' : (w1.setCell ⟨w.heap.size, 0, none⟩ v').ownsRow (w.heap.size + 2) 5 1 r x.2.2.length (x.2.2.map (Value.int .u8)) := own_move (own_weaken hr (by omega)) (fun k hk => by
      obtain ⟨cs, hc⟩ := own_typed hr k hk
      exact hall k (own_lt hr k hk) (hne5 k cs hc) (by have := own_base hr k hk; omega))
    exact (hgc.move (fun k cs hk hc => hall k (Array.getElem?_eq_some_iff.1 hc).1 (hne5 k cs hc) (by omega))).snoc hr'
  · exact hgrow.os.trans (hbc.os.trans hb.os)
  · exact hgrow.tape.trans (hbc.tape.trans hb.tape)
  · exact hgrow.output.trans (hbc.output.trans hb.output)
  · exact (hall k (by have := hb.size; omega) (fun e => by have := hnew k e.symm; omega) (by omega)).trans ((hbc.block k (by have := hb.size; omega)).trans (hb.block k hk))
/-- The rows of what came, as lines. -/
theorem Got.lines {base : Nat} {W : World} {v : Value} {rows : List Value} {pre : List (Option Addr × Nat × List Int)} (hr : W.ownsRow base 22 1 v pre.length rows) (hg : Got base W rows pre) : Kd.R (Kd.slice 5 B8) 22 W base (fun _ => True) v (pre.map (·.2.2)) := by
  refine ⟨fun _ _ => trivial, rows, by rw [List.length_map]; exact hr, ?_, fun j x hx => ?_⟩
  · rw [hg.1, List.length_map]; simp [Kd.slice]
  · rw [List.getElem?_map] at hx
    obtain ⟨y, hy, rfl⟩ := Option.map_eq_some_iff.1 hx
    have hj : j < rows.length := by have := (List.getElem?_eq_some_iff.1 hy).1; rw [hg.1]; exact this
    have ho := hg.2 j y rows[j] hy (List.getElem?_eq_getElem hj)
    refine ⟨rows[j], ?_, ?_⟩
    · simp only [Kd.slice, Nat.mul_one]
      show List.take 1 (List.drop j rows) = [rows[j]]
      rw [List.drop_eq_getElem_cons hj]; rfl
    · refine Kd.R_of_own (by simpa [encs] using ho) (fun k hk => ⟨trivial, fun e => ?_⟩)
      obtain ⟨c1, h1⟩ := own_typed ho k hk
      obtain ⟨c2, h2⟩ := own_typed hr k e.symm
      rw [h1] at h2
      injection h2 with h2; injection h2 with _ h3
      exact absurd h3 (by decide)
end Go.Proofs.YtnnnbeimehfiiaaDoor.Q
/-! In a round of a range over a function, under the widest fence: a region is walked as anywhere. -/
namespace Go.Proofs.YtnnnbeimehfiiaaDoor.Q
open Go Go.RowKit
variable {P : Program} {n l : Nat}
theorem upon_in {o : Oper} {a : Act} {K : Act → World → Prop} {Q : Exit → Act → World → Prop} : ∀ {r : Result Next}, o.upon P a K Q r → o.uponIn (Fence.wide.inRound l) n P a K Q r
  | .ok (.value _) _, h => h
  | .ok .skip _, h => h
  | .ok (.defer _) _, h => h
  | .ok (.enter _ _) _, h => ⟨fun hd => by simp [Fence.wide] at hd, CallsIn.inRound l (callsIn_wide.2 h)⟩
  | .ok (.row _ _) _, h => ⟨fun hd => by simp [Fence.wide] at hd, fun c cs _ => let ⟨v, w', r, s⟩ := h c cs; ⟨v, w', r, stepsIn_wide.2 s⟩⟩
  | .ok (.round _ _ _ _ _) _, h => h.elim
  | .halt (.panic _) _, h => h
theorem oper_in {o : Oper} {a : Act} {w : World} {K : Act → World → Prop} {Q : Exit → Act → World → Prop} (hd : ∀ c, o.op ≠ .defer c) (h : o.wp P a w K Q) : o.wpIn (Fence.wide.inRound l) n P a w K Q :=
  ⟨fun _ _ => trivial, by rw [Oper.semAt_plain _ _ _ hd]; exact upon_in h⟩
theorem any_in {md : Region.Mode} {ops : Array Oper} {Q : Exit → Act → World → Prop} (hd : ∀ (i : Nat) (o : Oper), ops[i]? = some o → ∀ c, o.op ≠ .defer c) (hQ : ¬ LetsOut Q) : ∀ (fuel : Nat) (listed : Array Bool) (a : Act) (w : World), wpAny P md ops Q fuel listed a w → wpAnyIn (Fence.wide.inRound l) n P md ops Q fuel listed a w
  | 0, _, _, _, h => h
  | fuel + 1, listed, a, w, h => ⟨h.1, fun i hi => by
    have h1 := h.2 i hi
    unfold wpOp at h1
    unfold wpOpIn
    cases ho : ops[i]? with
    | none => rw [ho] at h1; exact any_in hd hQ fuel _ _ _ h1
    | some o =>
      rw [ho] at h1
      simp only at h1 ⊢
      split
      · rename_i hw
        rw [if_pos hw] at h1
        rcases h1 with h1 | h1
        · have h2 := oper_in (n := n) (l := l) (hd i o ho) h1
          exact Oper.wpIn_mono (fun a w => any_in hd hQ fuel _ a w) h2
        · exact absurd h1.2 hQ
      · rename_i hw
        rw [if_neg hw] at h1
        exact ⟨fun _ _ => trivial, any_in hd hQ fuel _ _ _ h1⟩⟩
theorem region_in {id : Nat} {ops : Array Oper} {Q : Exit → Act → World → Prop} {a : Act} {w : World} (hm : P.follows .mixedOrders = true) (hd : ∀ (i : Nat) (o : Oper), ops[i]? = some o → ∀ c, o.op ≠ .defer c) (hQ : ¬ LetsOut Q)
    (h : wpAny P .any ops Q ops.size (Array.replicate ops.size false) a { w with drawn := w.drawn + 1 }) : (Code.region id ops true).wpIn (Fence.wide.inRound l) n P Q a w :=
  wpIn_region_any hm (any_in hd hQ _ _ _ _ h)
open Go.Proofs.YtnnnbeimehfiiaaDoorW.PrintLast in
theorem start_in {S : World → Prop} {ds : List Nat} {id m : Nat} {ops : Array Oper} {Q : Exit → Act → World → Prop} {a : Act} {w : World} (k : Array Bool) (hd : ∀ (i : Nat) (o : Oper), ops[i]? = some o → ∀ c, o.op ≠ .defer c) (hQ : ¬ LetsOut Q) (hm : P.follows .mixedOrders = true) (hn : ops.size = m) (hl : Array.replicate m false = k) (hS : S w.drew)
    (h : S w.drew → wpAnyLast P .any ops Q S ds m k a w.drew) : (Code.region id ops true).wpIn (Fence.wide.inRound l) n P Q a w := by
  subst hn
  subst hl
  exact region_in hm hd hQ (wpAny_of_last _ _ _ _ (h hS))
end Go.Proofs.YtnnnbeimehfiiaaDoor.Q
-- Written by a program of this session (wip/gen_split.py) for this claim; Lean checks it.
/-! line.Split, walked: its lines, each of its own. -/
set_option linter.unusedVariables false
set_option linter.unusedSimpArgs false
namespace Go.Proofs.YtnnnbeimehfiiaaDoor.Q
open Go Go.RowKit Go.Shelf Go.Proofs.YtnnnbeimehfiiaaDoorW.PrintWords Go.Proofs.YtnnnbeimehfiiaaDoorW.PrintLast Go.Proofs.YtnnnbeimehfiiaaDoorW.PrintMore Go.Proofs.YtnnnbeimehfiiaaDoorW.SL
attribute [local go_sem] Oper.semAt_some
def split.T4 : Bool × List (List Nat × List Nat) := (true, [([], []), ([], []), ([1], [1]), ([2], [2]), ([0, 3, 2], [0, 3]), ([4, 4, 0, 1, 2, 3, 4], [4])])
def split.B4 : List Nat := [0, 0, 2, 6, 15, 31]
theorem split.tab4 : rtab .any (opsOf Tryd.f25 4) = split.T4 := by kernel_rfl
theorem split.bits4 : waitsOk split.T4.2 split.B4 = true := by kernel_rfl
set_option maxHeartbeats 2000000 in
theorem lines_in (n : Nat) (A : Option Addr) (m c : Nat) (w : World) :
    CallsIn Fence.wide n Tryd.prog 41 #[.slice A m c] w fun e w' => e = .returned (.func (.func 57) #[] #[.pointer (some ⟨w.heap.size, 0, none⟩)]) ∧ w' = w.alloc (.cells #[.slice A m c] 22) := by
  refine callsIn_of_wp Tryd.func41 rfl trivial ?_ rfl
  simp only [Tryd.ntmps41, List.size_toArray, List.length_cons, List.length_nil, Nat.reduceAdd, Nat.reduceSub, Array.replicate_succ, Array.replicate_zero, List.push_toArray, List.append_toArray, List.nil_append, List.cons_append]
  gi_wp2
  go_ret
  exact ⟨rfl, rfl⟩
theorem below_lo {a b : Nat} {w w' : World} (h : Below b w w') (hab : a ≤ b) : Below a w w' := ⟨h.os, h.tape, h.output, h.size, fun k hk => h.block k (Nat.lt_of_lt_of_le hk hab)⟩
theorem ownsRow_succ' {W : World} {base : Nat} {e : TypeId} {size : Nat} {v : Value} {ys : List Int} {xs : List Value} (hn : ys ≠ []) (h : W.ownsRow base e size v ys.length xs) : ∃ g cap, v = .slice (some ⟨g, 0, none⟩) ys.length cap := by
  rcases h.2 with ⟨_, h0⟩ | ⟨g, cap, _, rfl, _⟩
  · exact absurd (List.length_eq_zero_iff.1 h0) hn
  · exact ⟨g, cap, rfl⟩
theorem inf22 : (Tryd.prog.info? 22).map (fun i => (i.zero, i.size, i.bytes)) = some (some (.slice none 0 0), 1, 24) := by kernel_rfl
/-- One append of a row of one, as a step inside a region (its base told). -/
theorem app_stepB {P : Program} {ops : Array Oper} {o : Oper} {a : Act} {Q : Exit → Act → World → Prop} {K : Act → World → Prop} {W : World} (hw : Region.wanted o (yielded ops a.tmps) = true) (base : Nat) (s x : Operand) (t e : TypeId) (z : Value) (size bytes : Nat)
    (ho : o.op = .call { callee := .builtin .append, args := #[s, x], argTypes := #[t, t] })
    (ht : P.underlying t = some (.slice e)) (hinfo : (P.info? e).map (fun i => (i.zero, i.size, i.bytes)) = some (some z, size, bytes)) (hz : z.cells.size = size) (hs0 : 0 < size) (hb0 : 0 < bytes)
    (v : Value) (n : Nat) (xs news : List Value) (ad : Addr) (m c : Nat) (hs : a.eval s = v) (hx : a.eval x = .slice (some ad) m c) (hl : news.length = m * size) (hnews : ∀ j u, news[j]? = some u → W.cell? (ad.add j) = some u) (h1 : ∀ u ∈ news, u.oneCell' = true)
    (HO : W.ownsRow base e size v n xs) (hlen : (n + m) * bytes ≤ 140737488355328) (hbase : base ≤ W.heap.size)
    (h : ∀ v1 w1, w1.ownsRow base e size v1 (n + m) (xs ++ news) → W.grownBy w1 v.ownBlock → (v1.ownBlock = v.ownBlock ∨ v1.ownBlock = some W.heap.size) → K (a.put o.dst v1) w1) :
    if Region.wanted o (yielded ops a.tmps) = true then Oper.wp P o a W K Q else K (a.put o.dst undef) W := by
  obtain ⟨i0, hi, hzz⟩ := Option.map_eq_some_iff.1 hinfo
  simp only [Prod.mk.injEq] at hzz
  obtain ⟨hz0, hz1, hz2⟩ := hzz
  have hle : n + m ≤ 140737488355328 := Nat.le_trans (Nat.le_mul_of_pos_right _ hb0) hlen
  rw [if_pos hw]
  obtain ⟨v1, w1, hr, hown, hgr, _, hat⟩ := run_append_own_at (P := P) W base t o.type e i0 z size bytes ht hi hz0 hz1 hz2 hz hs0 v n xs HO ad m c news hl hnews h1 (by simp only [maxLen]; omega) hlen hbase
  unfold Oper.wp execOp
  simp only [ho, resolve, invoke, builtin, Sem.run_bind, Sem.run_pure, Result.andThen_ok, List.map_toArray, List.map_cons, List.map_nil, hs, hx, hr]
  exact h v1 w1 hown hgr hat
set_option maxHeartbeats 8000000 in
set_option maxRecDepth 100000 in
theorem split_calls (A : Option Addr) (c : Nat) (l : List Int) (w : World) (hr : Kd.C B8 w A l.length l) (hc : l.length ≤ c) (hb : ∀ x ∈ l, byte x) (hlen : l.length ≤ 5000000000) :
    Calls Tryd.prog 25 #[.slice A l.length c] w fun e w' => ∃ v, e = .returned v ∧ Kd.R (Kd.slice 5 B8) 22 w' w.heap.size (fun _ => True) v (linesOf l) ∧ Below w.heap.size w w' := by
  have hF : Kd.F B8 w (fun k => k < w.heap.size) A l.length l := Kd.C_F (Kd.heap_int _) hr
  obtain ⟨xs, hch, hmap⟩ := chain_mk w (fun k => k < w.heap.size) l.length A c l (Nat.le_refl _) hc hF
  have hxl : xs.length ≤ 5000000000 := by
    have h1 := congrArg List.length hmap
    rw [List.length_map] at h1
    have := linesOf_len l
    omega
  have hall := chain_all hc hF hch
  obtain ⟨i0, hi, hz0, hz1, hz2⟩ := info_parts inf22
  have HALL := Aside0.mk hall; clear hall
  have HF := Aside0.mk (⟨hF, hc, hch, hb, hlen, hmap⟩ : _ ∧ _ ∧ _ ∧ _ ∧ _ ∧ _); clear hF hc hch hb hlen hr hmap
  have HXL := Aside0.mk hxl; clear hxl
  have HYL : Aside0 (∀ x ∈ xs, x.2.2.length ≤ l.length) := ⟨by
    intro x hx
    have h1 : x.2.2 ∈ linesOf l := by rw [← HF.out.2.2.2.2.2]; exact List.mem_map.2 ⟨x, hx, rfl⟩
    exact linesOf_mem l _ h1⟩
  refine (callsIn_wide (n := 5)).1 ?_
  refine callsIn_of_wp_marks Tryd.func25 rfl trivial ?_ rfl
  simp only [Tryd.ntmps25, List.size_toArray, List.length_cons, List.length_nil, Nat.reduceAdd, Nat.reduceSub, Array.replicate_succ, Array.replicate_zero, List.push_toArray, List.append_toArray, List.nil_append, List.cons_append]
  gi_wp2_with (refine ⟨trivial, ?_⟩; gi_at_call 41; refine (lines_in _ A l.length c _).mono ?_; rintro e w' ⟨rfl, rfl⟩)
  obtain ⟨hF, hc, hch, hb, hlen, hmap⟩ := HF.out
  have hszW : ((w.alloc (.cells #[.slice none 0 0] 34)).alloc (.cells #[.slice A l.length c] 22)).heap.size = w.heap.size + 2 := by simp
  have hbW : Below w.heap.size w ((w.alloc (.cells #[.slice none 0 0] 34)).alloc (.cells #[.slice A l.length c] 22)) := ((Below.refl _ w).alloc (Nat.le_refl _) _).alloc (by simp) _
  have bO : Boxed ((w.alloc (.cells #[.slice none 0 0] 34)).alloc (.cells #[.slice A l.length c] 22)) w.heap.size 34 (.slice none 0 0) := (Boxed.new w 34 (.slice none 0 0)).alloc _
  have bN := Boxed.new (w.alloc (.cells #[.slice none 0 0] 34)) 22 (.slice A l.length c)
  rw [World.size_alloc] at bN
  obtain ⟨W0, hW0⟩ : ∃ W0, (w.alloc (.cells #[.slice none 0 0] 34)).alloc (.cells #[.slice A l.length c] 22) = W0 := ⟨_, rfl⟩
  rw [hW0] at hszW hbW bO bN ⊢
  clear hW0
  refine wpIn_rangeFunc_cell (α := Option Addr × Nat × List Int) (F := Fence.wide) rfl (by omega) (gf := 57) (lb := #[.pointer (some ⟨w.heap.size + 1, 0, none⟩)]) rfl trivial (enters_of Tryd.func57 (by kernel_rfl) rfl)
    (encs := fun x => #[Value.slice x.1 x.2.2.length x.2.1]) (Kp := fun X Y => Below w.heap.size X Y ∧ Y.heap[w.heap.size + 1]? = X.heap[w.heap.size + 1]?) (Bn := w.heap.size + 1) (xs := xs) (w0 := W0)
    (fun lo J W hW hJw hJs hY h0 => iter_in (5 - 1) (by omega) lo (w.heap.size + 1) w (by omega) A c l hb (by omega) xs J hJs hY W (hbW.trans (below_lo hW (by omega))) ((hW.block _ (by omega)).trans bN) hF hc hch h0)
    (by omega) (fun h k => ⟨h.1.trans k.1, k.2.trans h.2⟩)
    (fun W lo o o' hle h hnc hw => ⟨belowK_b (w := W0) (by omega) W lo o o' hle h hnc hw, World.putObj_heap_other (by omega)⟩)
    (Below.refl _ _) (fun _ => rfl) (SplI w) (SplI.own w _ (by omega)) (fun s W v h => SplI.set w s W v h)
    ⟨⟨_, [], bO, World.ownsRow_nil _ _ _ _, rfl, by simp⟩, hbW, by omega⟩
    (fun x => { tmps := #[.slice A l.length c, undef, .slice none 0 0, .pointer (some ⟨w.heap.size, 0, none⟩), .slice x.1 x.2.2.length x.2.1, .slice A l.length c, .func (.func 57) #[] #[.pointer (some ⟨w.heap.size + 1, 0, none⟩)], .slice x.1 x.2.2.length x.2.1, undef, undef, undef, undef, undef, undef], defers := [] }) ?assign ?body ?done
  case assign =>
    intro lo x W K hK
    gi_wp2
    exact hK
  case body =>
    rintro lo pre x W ⟨⟨v, rows, hv, hrow, hg⟩, hB, hsz⟩ hpre
    have hmem : x ∈ xs := hpre.subset (by simp)
    obtain ⟨hFx, hne, hxc, _⟩ := HALL.out x hmem
    have hpl : pre.length + 1 ≤ 5000000000 := by
      have := hpre.length_le
      simp at this
      have := HXL.out
      omega
    have hCx : Kd.C B8 W x.1 x.2.2.length x.2.2 := Kd.F_now (Kd.F_step hFx (fun k hk _ => hB.block k hk))
    obtain ⟨A1, c1, y⟩ := x
    obtain ⟨ad, rfl, _⟩ := hCx.2.2 (by cases y with | nil => exact absurd rfl hne | cons _ _ => simp)
    have hcell := hv.cell
    have hfz := hv.frozen
    have hyl : y.length ≤ 140737488355328 := by
      have := HYL.out _ hmem
      have h2 : y.length ≤ l.length := this
      omega
    replace hne : y ≠ [] := hne
    have hmx : Tryd.prog.follows .mixedOrders = true := by kernel_rfl
    have ROW := Aside0.mk (⟨hrow, hg, hB, hsz, hv, hxc⟩ : _ ∧ _ ∧ _ ∧ _ ∧ _ ∧ _)
    have hlt := hv.lt
    clear hrow hg hB hsz hv hFx hxc
    have HCX := Aside0.mk (Kd.C_below hCx (below_drew (Below.refl W.heap.size W)))
    clear hCx
    have hvd : W.drew.cell? ⟨w.heap.size, 0, none⟩ = some v := hcell
    have A : Below W.heap.size W.drew W.drew := Below.refl _ _
    gi_wp2
    refine start_in (m := 6) (S := fun w' => True) (ds := []) #[false, false, false, false, false, false] ?hd_ ?hq_ (by kernel_rfl) rfl rfl trivial (fun hHeld => ?_)
    case hd_ => intro i o ho c h; revert ho h; rcases i with _ | _ | _ | _ | _ | _ | i <;> simp <;> (intro h1 h2; subst h1; simp at h2)
    case hq_ => rintro ⟨a', w'', h⟩; exact h
    refine with_tabW split.tab4 split.bits4 (fun HT_ HW_ => ?_)
    refine pure_ (i := 1) (N := some 9) (v := ?_) (a' := ?_) #[false, true, false, false, false, false] rfl rfl (any_of HT_.out (by kernel_rfl)) (fun _ _ _ h => h) (Or.inl ⟨by rfl, ?_⟩) ?_ ?_
    rotate_left
    · intro w'
      go_simp
      with_reducible rfl
    rotate_left
    · simp only [Act.put, List.setIfInBounds_toArray, List.set_cons_zero, List.set_cons_succ, i64_w, i32_w]
      rfl
    refine inv_at [0, 2, 3, 4, 5] (fun a0_ b a w' => ∃ (r : Value) (tt : Value) (zz : Value), a = putSel a0_ b [(0, 8, v), (2, 10, r), (3, 11, tt), (4, 12, zz)] ∧ (b 4 = false → (Below W.heap.size W.drew w')) ∧ (b 2 = true → b 3 = false → ((∃ g cap, r = Value.slice (some ⟨g, 0, none⟩) y.length cap) ∧ w'.ownsRow W.heap.size 5 1 r y.length (y.map (Value.int .u8)))) ∧ (b 3 = true → b 4 = false → (∃ Wc : World, w' = Wc.alloc (.cells #[r] 22) ∧ tt = Value.slice (some ⟨Wc.heap.size, 0, none⟩) 1 1 ∧ Below W.heap.size W.drew Wc ∧ Wc.ownsRow W.heap.size 5 1 r y.length (y.map (Value.int .u8)) ∧ r.oneCell' = true)) ∧ (b 4 = true → b 5 = false → ((∃ g cap, zz = Value.slice (some ⟨g, 0, none⟩) (pre.length + 1) cap) ∧ Boxed w' w.heap.size 34 v ∧ KeepsFrom W0.heap.size W (w'.setCell ⟨w.heap.size, 0, none⟩ zz) ∧ (Below w.heap.size W (w'.setCell ⟨w.heap.size, 0, none⟩ zz) ∧ (w'.setCell ⟨w.heap.size, 0, none⟩ zz).heap[w.heap.size + 1]? = W.heap[w.heap.size + 1]?) ∧ SplI w (pre ++ [(some ad, c1, y)]) (w'.setCell ⟨w.heap.size, 0, none⟩ zz))) ∧ (b 5 = true → (KeepsFrom W0.heap.size W w' ∧ (Below w.heap.size W w' ∧ w'.heap[w.heap.size + 1]? = W.heap[w.heap.size + 1]?) ∧ SplI w (pre ++ [(some ad, c1, y)]) w'))) HT_.out HW_.out (by kernel_rfl) (by kernel_rfl) ?_ ?_ ?_
    · exact ⟨.bool false, .bool false, .bool false, by simp only [putSel, Bool.false_eq_true, if_false], fun _ => A, fun h_ => absurd h_ (by decide), fun h_ => absurd h_ (by decide), fun h_ => absurd h_ (by decide), fun h_ => absurd h_ (by decide)⟩
    · skip
      clear A
      refine steps_cons ?_ ?_
      · rintro b a w' ⟨r, tt, zz, ha, Q_A, Q_R, Q_T, Q_Z, Q_E⟩ hb_ hon hoff
        refine ⟨_, rfl, fun K hK => ?_⟩
        have e3 : a.tmps[3]? = some (.pointer (some ⟨w.heap.size, 0, none⟩)) := by rw [ha]; exact (putSel_off rfl).trans rfl
        replace ha := Aside0.mk ha
        have A := Aside0.mk (Q_A (hoff 4 (by kernel_rfl)))
        have hc_ : w'.cell? ⟨w.heap.size, 0, none⟩ = some v := (A.out.cell (show (⟨w.heap.size, 0, none⟩ : Addr).block < W.drew.heap.size from hlt)).trans hvd
        refine value_ (w1 := w') (v := v) (by rfl) rfl ?_ ?_
        · go_simp
          (try simp only [i64_w])
          try rfl
        refine hK.out _ _ ⟨r, tt, zz, (by rw [ha.out]; exact putSel_upk 0 hb_ rfl rfl rfl), Q_A, Q_R, Q_T, fun h0_ _ => absurd ((hoff 4 (by kernel_rfl)).symm.trans h0_) (by decide), fun h0_ => absurd ((hoff 5 (by kernel_rfl)).symm.trans h0_) (by decide)⟩
      refine steps_cons ?_ ?_
      · rintro b a w' ⟨r, tt, zz, ha, Q_A, Q_R, Q_T, Q_Z, Q_E⟩ hb_ hon hoff
        refine ⟨_, rfl, fun K hK => ?_⟩
        have e9 : a.tmps[9]? = some (.slice (some ad) y.length c1) := by rw [ha]; exact (putSel_off rfl).trans rfl
        replace ha := Aside0.mk ha
        have A := Aside0.mk (Q_A (hoff 4 (by kernel_rfl)))
        refine goes_ Tryd.func42 (by kernel_rfl) rfl #[.slice (some ad) y.length c1] (by rfl) rfl rfl (by first | (simp only [List.map_toArray, List.map_cons, List.map_nil, Act.eval, Array.getD_eq_getD_getElem?, Option.getD_some, e9]; done) | (simp only [List.map_toArray, List.map_cons, List.map_nil, Act.eval, Array.getD_eq_getD_getElem?, Option.getD_some, e9]; rfl)) ?_
        refine (clone_calls ad c1 y _ hne hyl (Kd.C_below HCX.out A.out)).mono ?_
        rintro e w24 ⟨rv, rfl, hr_, hb⟩
        obtain ⟨gr_, cr_, er_⟩ := ownsRow_succ' hne hr_
        subst er_
        refine ⟨_, rfl, ?_⟩
        have hA_ := A.out.trans (below_lo hb A.out.size)
        have hr2_ := own_weaken hr_ A.out.size
        refine hK.out _ _ ⟨(.slice (some ⟨gr_, 0, none⟩) y.length cr_), tt, zz, (by rw [ha.out]; exact putSel_upk 1 hb_ rfl rfl rfl), fun _ => hA_, fun _ _ => ⟨⟨_, _, rfl⟩, hr2_⟩, fun h0_ _ => absurd ((hoff 3 (by kernel_rfl)).symm.trans h0_) (by decide), fun h0_ _ => absurd ((hoff 4 (by kernel_rfl)).symm.trans h0_) (by decide), fun h0_ => absurd ((hoff 5 (by kernel_rfl)).symm.trans h0_) (by decide)⟩
      refine steps_cons ?_ ?_
      · rintro b a w' ⟨r, tt, zz, ha, Q_A, Q_R, Q_T, Q_Z, Q_E⟩ hb_ hon hoff
        refine ⟨_, rfl, fun K hK => ?_⟩
        have e10 : a.tmps[10]? = some (r) := by rw [ha]; exact putSel_on (e := (2, 10, r)) 1 rfl rfl (hon 2 (by kernel_rfl)) rfl
        replace ha := Aside0.mk ha
        have A := Aside0.mk (Q_A (hoff 4 (by kernel_rfl)))
        have R := Aside0.mk (Q_R (hon 2 (by kernel_rfl)) hb_)
        obtain ⟨⟨gr_, cr_, er_⟩, hr_⟩ := R.out
        subst er_
        refine value_ (w1 := w'.alloc (.cells #[.slice (some ⟨gr_, 0, none⟩) y.length cr_] 22)) (v := (.slice (some ⟨w'.heap.size, 0, none⟩) 1 1)) (by rfl) rfl ?_ ?_
        · go_simp
          try rfl
        refine hK.out _ _ ⟨(.slice (some ⟨gr_, 0, none⟩) y.length cr_), (.slice (some ⟨w'.heap.size, 0, none⟩) 1 1), zz, (by rw [ha.out]; exact putSel_upk 2 hb_ rfl rfl rfl), fun _ => (A.out.alloc A.out.size _), fun _ h1_ => absurd ((up_self b 3).symm.trans h1_) (by decide), fun _ _ => ⟨w', rfl, rfl, A.out, hr_, by simp [Value.oneCell']⟩, fun h0_ _ => absurd ((hoff 4 (by kernel_rfl)).symm.trans h0_) (by decide), fun h0_ => absurd ((hoff 5 (by kernel_rfl)).symm.trans h0_) (by decide)⟩
      refine steps_cons ?_ ?_
      · rintro b a w' ⟨r, tt, zz, ha, Q_A, Q_R, Q_T, Q_Z, Q_E⟩ hb_ hon hoff
        refine ⟨_, rfl, fun K hK => ?_⟩
        have e8 : a.tmps[8]? = some (v) := by rw [ha]; exact putSel_on (e := (0, 8, v)) 0 rfl rfl (hon 0 (by kernel_rfl)) rfl
        have e11 : a.tmps[11]? = some (tt) := by rw [ha]; exact putSel_on (e := (3, 11, tt)) 2 rfl rfl (hon 3 (by kernel_rfl)) rfl
        replace ha := Aside0.mk ha
        have A := Aside0.mk (Q_A hb_)
        have T := Aside0.mk (Q_T (hon 3 (by kernel_rfl)) hb_)
        obtain ⟨Wc, rfl, et_, hbc, hr_, h1_⟩ := T.out
        obtain ⟨hrow, hg, hB, hsz, hv, hxc⟩ := ROW.out
        have hszc : W.heap.size ≤ Wc.heap.size := hbc.size
        refine app_stepB (by rfl) (w.heap.size + 2) (.tmp 8) (.tmp 11) 34 22 (.slice none 0 0) 1 24 rfl Tryd.underlying34 inf22 rfl (by decide) (by decide) v pre.length rows [r] ⟨Wc.heap.size, 0, none⟩ 1 1 (eval_of e8) ((eval_of e11).trans et_) rfl (cell_one_new _ _ _) (by intro u hu; rw [List.mem_singleton] at hu; subst hu; exact h1_) ((own_move hrow (fun k hk => hbc.block k (own_lt hrow k hk))).alloc _) (by omega) (by rw [World.size_alloc]; omega) ?_
        intro v1 w1 hown' hgrow _
        obtain ⟨hv1, hk1, hkp, hs1⟩ := SplI.step (W := W.drew) (x := (some ad, c1, y)) hv hrow hg (Below.drew hB) hsz hbc hr_ hown' hgrow W0.heap.size
        refine hK.out _ _ ⟨r, tt, v1, (by rw [ha.out]; exact putSel_upk 3 hb_ rfl rfl rfl), fun h0_ => absurd ((up_self b 4).symm.trans h0_) (by decide), fun _ h1_ => absurd ((hon 3 (by kernel_rfl)).symm.trans h1_) (by decide), fun _ h1_ => absurd ((up_self b 4).symm.trans h1_) (by decide), fun _ _ => ⟨ownsRow_succ hown', hv1, ⟨hk1.size, hk1.same⟩, ⟨(Below.drew (Below.refl _ W)).trans hkp.1, hkp.2⟩, hs1⟩, fun h0_ => absurd ((hoff 5 (by kernel_rfl)).symm.trans h0_) (by decide)⟩
      refine steps_cons ?_ ?_
      · rintro b a w' ⟨r, tt, zz, ha, Q_A, Q_R, Q_T, Q_Z, Q_E⟩ hb_ hon hoff
        refine ⟨_, rfl, fun K hK => ?_⟩
        have e3 : a.tmps[3]? = some (.pointer (some ⟨w.heap.size, 0, none⟩)) := by rw [ha]; exact (putSel_off rfl).trans rfl
        have e12 : a.tmps[12]? = some (zz) := by rw [ha]; exact putSel_on (e := (4, 12, zz)) 3 rfl rfl (hon 4 (by kernel_rfl)) rfl
        replace ha := Aside0.mk ha
        have Z := Aside0.mk (Q_Z (hon 4 (by kernel_rfl)) hb_)
        obtain ⟨⟨g_, c_, rfl⟩, hv1, hk1, hkp, hs1⟩ := Z.out
        have hc_ := hv1.cell
        have hf_ := hv1.frozen
        refine skip_ (w1 := w'.setCell ⟨w.heap.size, 0, none⟩ (.slice (some ⟨g_, 0, none⟩) (pre.length + 1) c_)) (by rfl) rfl ?_ ?_
        · go_simp
          try rfl
        refine hK.out _ _ ⟨r, tt, (.slice (some ⟨g_, 0, none⟩) (pre.length + 1) c_), (by rw [ha.out]; exact putSel_none (v := undef) rfl), fun h0_ => absurd ((hon 4 (by kernel_rfl)).symm.trans h0_) (by decide), fun _ h1_ => absurd ((hon 3 (by kernel_rfl)).symm.trans h1_) (by decide), fun _ h1_ => absurd ((hon 4 (by kernel_rfl)).symm.trans h1_) (by decide), fun _ h1_ => absurd ((up_self b 5).symm.trans h1_) (by decide), fun _ => ⟨hk1, hkp, hs1⟩⟩
      exact steps_nil
    · rintro b a w' hall ⟨r, tt, zz, ha, Q_A, Q_R, Q_T, Q_Z, Q_E⟩
      clear A
      have hb0_ := hall 0 (by kernel_rfl)
      have hb2_ := hall 2 (by kernel_rfl)
      have hb3_ := hall 3 (by kernel_rfl)
      have hb4_ := hall 4 (by kernel_rfl)
      have hb5_ := hall 5 (by kernel_rfl)
      subst ha
      simp only [putSel, hb0_, hb2_, hb3_, hb4_, hb5_, if_true, Act.put, List.setIfInBounds_toArray, List.set_cons_zero, List.set_cons_succ]
      clear Q_A
      clear Q_R
      clear Q_T
      clear Q_Z
      have E := Aside0.mk (Q_E hb5_)
      clear Q_E
      clear hall hb0_ hb2_ hb3_ hb4_ hb5_
      exact E.out
  case done =>
    rintro D W hD ⟨⟨v, rows, hv, hrow, hg⟩, hB, hsz⟩ hK
    have hcell := hv.cell
    gi_wp2
    refine ⟨by simp, .inl ⟨_, _, rfl, run_takeDeferred hK, ?_⟩⟩
    have hD' : w.heap.size ≤ D := by omega
    have hrow' := ownsRow_putObj hrow (.deferred none) hK rfl
    have hg' : Got (w.heap.size + 2) (W.putObj D (.deferred none)) rows xs := hg.move (fun k cs _ hk => World.putObj_heap_other (fun e => by subst e; rw [hk] at hK; cases hK))
    refine ⟨_, results_tmp rfl _ _ _, v, rfl, ?_, hB.trans (belowK_b (w := w) (Nat.le_refl _) W D _ _ hD' hK rfl rfl)⟩
    have h := Got.lines hrow' hg'
    rw [hmap] at h
    exact Kd.R_lower h (by omega)
end Go.Proofs.YtnnnbeimehfiiaaDoor.Q
/-! Contracts in the form that a printer wants: strings.IndexByte, line.Split. -/
set_option linter.unusedVariables false
set_option linter.unusedSimpArgs false
namespace Go.Proofs.YtnnnbeimehfiiaaDoor.Q
open Go Go.RowKit Go.Proofs.YtnnnbeimehfiiaaDoorW.PrintWords
set_option maxHeartbeats 2000000 in
set_option maxRecDepth 100000 in
theorem ibs63 (s : ByteArray) (c : Int) (w : World) : Calls Tryd.prog 63 #[.string s, .int .u8 c] w fun e w' => e = .returned (.int .i64 (Lib.indexByte s.data.toList c.toNat.toUInt8)) ∧ w' = w := by
  go_enter Tryd.func63, Tryd.ntmps63
  go_wp2
  rw [run_callFunc_extern Tryd.func77 (by kernel_rfl) (by kernel_rfl) (by kernel_rfl) (e := Extern.BytealgIndexByte.indexByte) (by kernel_rfl), Lib.run_indexByteString]
  simp only [Result.andThen]
  rw [Oper.upon_value]
  go_wp2
  go_ret
  exact ⟨rfl, rfl⟩
set_option maxHeartbeats 2000000 in
set_option maxRecDepth 100000 in
theorem ibs_calls (s : ByteArray) (c : Int) (w : World) : Calls Tryd.prog 48 #[.string s, .int .u8 c] w fun e w' => e = .returned (.int .i64 (Lib.indexByte s.data.toList c.toNat.toUInt8)) ∧ w' = w := by
  go_enter Tryd.func48, Tryd.ntmps48
  go_wp2_with (go_at_call 63; refine (ibs63 s c _).mono ?_; rintro e w' ⟨rfl, rfl⟩)
  go_ret
  exact ⟨rfl, rfl⟩
theorem ibs_given (a0 : ByteArray) (a1 : Int) (r : Int) (w : World) (h : (some (Lib.indexByte a0.data.toList (Int.toNat a1).toUInt8) : Option Int) = some r) :
    Calls Tryd.prog 48 #[.string a0, .int .u8 a1] w fun e w' => e = .returned (.int .i64 r) ∧ Below w.heap.size w w' := by
  obtain rfl := Option.some.inj h
  exact (ibs_calls a0 a1 w).mono (fun e w' h => ⟨h.1, by rw [h.2]; exact Below.refl _ _⟩)
theorem split_given (A0 : Option Addr) (c0 : Nat) (l0 : List Int) (r : List (List Int)) (w : World) (hr0 : Kd.C (Kd.int .u8) w A0 l0.length l0) (hc0 : l0.length ≤ c0)
    (h : (if (l0.all fun x => decide (0 ≤ x) && decide (x < 256)) && decide (l0.length ≤ 5000000000) then some (linesOf l0) else none) = some r) :
    Calls Tryd.prog 25 #[.slice A0 l0.length c0] w fun e w' => ∃ v0_ : Value, e = .returned (v0_) ∧ Kd.N (Kd.slice 5 (Kd.int .u8)) 22 w' w.heap.size (fun k_ => (w.heap.size ≤ k_)) v0_ r ∧ Below w.heap.size w w' := by
  split at h
  · rename_i hb
    simp only [Bool.and_eq_true, List.all_eq_true, decide_eq_true_eq] at hb
    obtain rfl := Option.some.inj h
    refine (split_calls A0 c0 l0 w hr0 hc0 (fun x hx => hb.1 x hx) hb.2).mono ?_
    rintro e w' ⟨v, rfl, hr, hbl⟩
    exact ⟨v, rfl, Kd.N_mono (Kd.R_N (Kd.R_bound hr)) (fun k hk => hk.2.1), hbl⟩
  · cases h
end Go.Proofs.YtnnnbeimehfiiaaDoor.Q
-- Written by a program of this session (wip/mkprint.py, wip/pr.sh) for this claim; Lean checks it.
namespace Go.Proofs.YtnnnbeimehfiiaaDoor.Q
open Go.RowKit Go.Proofs.YtnnnbeimehfiiaaDoorW.PrintWords Go.Proofs.YtnnnbeimehfiiaaDoorW.PrintLast Go.Proofs.YtnnnbeimehfiiaaDoorW.PrintMore
attribute [local go_sem] max2_int min2_int max_two min_two max_three min_three max_four min_four   -- for this text's walks alone
set_option linter.unusedVariables false
set_option linter.unusedSimpArgs false
/-! ### mark_right: function 24 -/
def mark_right.f (a0 : Int) : Option (Bool) := if a0 ≥ 1 then (some (decide (a0 ≤ 16777216))) else (some false)
set_option maxHeartbeats 8000000 in
set_option maxRecDepth 100000 in
theorem mark_right.calls (a0 : Int) (r : Bool) (w : World) (h : mark_right.f a0 = some r) :
  Calls Tryd.prog 24 #[.int .i64 a0] w fun e w' => e = .returned (.bool r) ∧ Drawn0 w w' := by
 have H : (if a0 ≥ 1 then (some (decide (a0 ≤ 16777216))) else (some false)) = some r := h
 clear h
 by_cases c2 : a0 ≥ 1
 ·rw [if_pos c2] at H
  have c2b0 : decide (1 ≤ a0) = true := decide_eq_true c2
  clear c2
  obtain rfl := Option.some.inj H
  go_enter Tryd.func24, Tryd.ntmps24
  go_wp2
  go_ret
  exact ⟨by first | rfl | (simp; done) | (simp [*]; done), by repeat (first | exact Drawn0.refl _ | apply Drawn0.step)⟩
 ·rw [if_neg c2] at H
  have c2b0 : decide (1 ≤ a0) = false := decide_eq_false c2
  clear c2
  obtain rfl := Option.some.inj H
  go_enter Tryd.func24, Tryd.ntmps24
  go_wp2
  go_ret
  exact ⟨by first | rfl | (simp; done) | (simp [*]; done), by repeat (first | exact Drawn0.refl _ | apply Drawn0.step)⟩
/-! ### line_Split: function 25 -/
def line_Split.f (l0 : List Int) : Option ((List (List Int))) := if (l0.all fun x => decide (0 ≤ x) && decide (x < 256)) && decide (l0.length ≤ 5000000000) then some (Q.linesOf l0) else none
set_option maxHeartbeats 8000000 in
set_option maxRecDepth 100000 in
theorem line_Split.calls (A0 : Option Addr) (c0 : Nat) (l0 : List Int) (r : List (List Int)) (w : World) (hr0 : Kd.C (Kd.int .u8) w A0 l0.length l0) (hc0 : l0.length ≤ c0) (h : line_Split.f l0 = some r) :
  Calls Tryd.prog 25 #[.slice A0 l0.length c0] w fun e w' => ∃ v0_ : Value, e = .returned (v0_) ∧ Kd.N (Kd.slice 5 (Kd.int .u8)) 22 w' w.heap.size (fun k_ => (w.heap.size ≤ k_)) v0_ r ∧ Below w.heap.size w w' := by
 exact Q.split_given A0 c0 l0 r w hr0 hc0 h
/-! ### scarfref02_Split: function 27 -/
def scarfref02_Split.l0 : Nat → List Int → List (List Int) → List Int → Int → Option ((List (List Int)))
 | 0, _, _, _, _ => none
 | k + 1, x0, x3, x4, x5 => if x5 < (x0.length : Int) then (if 0 ≤ x5 then (if x4.length < 140737488355328 then ((some (x4 ++ [rd x0 x5] : List Int)).bind fun y102 => (if (rd x0 x5) = 10 then (if x3.length < 5864062014805 then (scarfref02_Split.l0 k x0 (x3 ++ [y102]) ([] : List Int) (wrap64 (x5 + 1))) else (none)) else (if x5 = (wrap64 ((x0.length : Int) - 1)) then (if x3.length < 5864062014805 then (scarfref02_Split.l0 k x0 (x3 ++ [y102]) ([] : List Int) (wrap64 (x5 + 1))) else (none)) else (scarfref02_Split.l0 k x0 x3 y102 (wrap64 (x5 + 1)))))) else (none)) else (none)) else (some x3)
def scarfref02_Split.f (k : Nat) (l0 : List Int) : Option ((List (List Int))) := scarfref02_Split.l0 k l0 ([] : List (List Int)) ([] : List Int) 0
theorem scarfref02_Split.mono_l : ∀ k, (∀ y0 y1 y2 y3, LeO (scarfref02_Split.l0 k y0 y1 y2 y3) (scarfref02_Split.l0 (k + 1) y0 y1 y2 y3))
 | 0 => fun _ _ _ _ r h => by simp [scarfref02_Split.l0] at h
 | k + 1 => by
  have ih0 := scarfref02_Split.mono_l k
  ·intro y0 y1 y2 y3
   unfold scarfref02_Split.l0
   repeat' first
   | (with_reducible exact ih0 _ _ _ _)
   | (with_reducible exact LeO.refl _)
   | (with_reducible exact LeO.none _)
   | (with_reducible refine LeO.ite ?_ ?_)
   | (with_reducible refine LeO.bind ?_ (fun _ => ?_))
   | exact ih0 _ _ _ _
   | exact LeO.none _
   | refine LeO.ite ?_ ?_
   | refine LeO.bind ?_ (fun _ => ?_)
theorem scarfref02_Split.mono : ∀ a0 k, LeO (scarfref02_Split.f k a0) (scarfref02_Split.f (k + 1) a0) := by
 intro a0 k
 have ih0 := scarfref02_Split.mono_l k
 unfold scarfref02_Split.f
 repeat' first
   | (with_reducible exact ih0 _ _ _ _)
   | (with_reducible exact LeO.refl _)
   | (with_reducible exact LeO.none _)
   | (with_reducible refine LeO.ite ?_ ?_)
   | (with_reducible refine LeO.bind ?_ (fun _ => ?_))
   | exact ih0 _ _ _ _
   | exact LeO.none _
   | refine LeO.ite ?_ ?_
   | refine LeO.bind ?_ (fun _ => ?_)
set_option maxHeartbeats 8000000 in
set_option maxRecDepth 100000 in
theorem scarfref02_Split.calls (k : Nat) (A0 : Option Addr) (c0 : Nat) (l0 : List Int) (r : List (List Int)) (w : World) (hr0 : Kd.C (Kd.int .u8) w A0 l0.length l0) (hc0 : l0.length ≤ c0) (h : scarfref02_Split.f k l0 = some r) :
  Calls Tryd.prog 27 #[.slice A0 l0.length c0] w fun e w' => ∃ v0_ : Value, e = .returned (v0_) ∧ Kd.S (Kd.slice 5 (Kd.int .u8)) 22 w' w.heap.size (fun _ => True) v0_ r ∧ Below w.heap.size w w' := by
 have HR0 := Aside0.mk hr0
 have HC0 := Aside0.mk hc0
 clear hr0 hc0
 have HB := Aside0.mk (Below.refl w.heap.size w)
 have H : (scarfref02_Split.l0 k l0 ([] : List (List Int)) ([] : List Int) 0) = some r := h
 clear h
 have H' := Aside0.mk H
 clear H
 go_enter Tryd.func27, Tryd.ntmps27
 go_wp2
 go_loopg [3, 4, 5] k (fun kq v3 v4 v5 w' => ∃ (x3_1 : List (List Int)) (x4_1 : List Int) (x5_1 : Int), v5 = .int .i64 x5_1 ∧ Aside0 (scarfref02_Split.l0 kq l0 x3_1 x4_1 x5_1 = some r) ∧ Aside0 (kq ≤ k) ∧ Aside0 (Kd.S (Kd.slice 5 (Kd.int .u8)) 22 w' w.heap.size (fun k_ => some k_ ≠ (v4 : Value).ownBlock) v3 x3_1) ∧ Aside0 (Kd.R (Kd.int .u8) 5 w' w.heap.size (fun _ => True) v4 x4_1) ∧ Aside0 (Below w.heap.size w w'))
 case atStart => exact ⟨(([] : List (List Int))), (([] : List Int)), (0), (by first | rfl | (simp; done) | (simp [*]; done)), H', ⟨Nat.le_refl _⟩, ⟨by first | exact Kd.S_nil _ _ _ _ _ | exact Kd.N_nil _ _ _ _ _ | exact Kd.V_nil _ _ _ _ _ | exact Kd.Q_nil _ _ _ _ _ | exact Kd.R_nil _ _ _ _ _⟩, ⟨by first | exact Kd.R_nil _ _ _ _ _ | exact Kd.N_nil _ _ _ _ _ | exact Kd.V_nil _ _ _ _ _ | exact Kd.Q_nil _ _ _ _ _ | exact Kd.S_nil _ _ _ _ _⟩, ⟨by repeat (first | (with_reducible first | exact HB.out | apply below_alloc | apply pw_below_drewN | apply below_drew1) | exact HB.out)⟩⟩
 case round =>
  clear H'
  obtain ⟨x3_1, x4_1, x5_1, rfl, HA, HK1, HO_3, HO_4, HB⟩ := hrel
  cases gk with
  | zero => exact absurd HA.out (by simp [scarfref02_Split.l0])
  | succ k1 =>
   have H := HA.out
   clear HA
   simp only [scarfref02_Split.l0] at H
   by_cases c2 : x5_1 < (l0.length : Int)
   ·rw [if_pos c2] at H
    have c2b0 : decide (x5_1 < (l0.length : Int)) = true := decide_eq_true c2
    clear c2
    by_cases c3 : 0 ≤ x5_1
    ·rw [if_pos c3] at H
     have c3b0 : decide (0 ≤ x5_1) = true := decide_eq_true c3
     clear c3
     by_cases c4 : x4_1.length < 140737488355328
     ·rw [if_pos c4] at H
      have LMc4 := Aside0.mk c4
      clear c4
      obtain ⟨y102, hy102⟩ : ∃ y_ : List Int, y_ = (x4_1 ++ [rd l0 x5_1]) := ⟨_, rfl⟩
      replace H : (if (rd l0 x5_1) = 10 then (if x3_1.length < 5864062014805 then (scarfref02_Split.l0 k1 l0 (x3_1 ++ [y102]) ([] : List Int) (wrap64 (x5_1 + 1))) else (none)) else (if x5_1 = (wrap64 ((l0.length : Int) - 1)) then (if x3_1.length < 5864062014805 then (scarfref02_Split.l0 k1 l0 (x3_1 ++ [y102]) ([] : List Int) (wrap64 (x5_1 + 1))) else (none)) else (scarfref02_Split.l0 k1 l0 x3_1 y102 (wrap64 (x5_1 + 1))))) = some r := by first | (rw [hy102]; with_reducible exact H) | (have H2_ := (Option.bind_some _ _).symm.trans H; rw [hy102]; with_reducible exact H2_) | (have H2_ := (Option.bind_some _ _).symm.trans H; with_reducible exact H2_) | with_reducible exact H | (rw [hy102]; exact H) | exact H
      have Ny102 := Aside0.mk hy102
      clear hy102
      by_cases c5 : (rd l0 x5_1) = 10
      ·rw [if_pos c5] at H
       have c5b0 : ((rd l0 x5_1) == 10) = true := beq_iff_eq.mpr c5
       have c5b1 : ((rd l0 x5_1) != 10) = false := bne_eq_false_iff_eq.mpr c5
       clear c5
       by_cases c6 : x3_1.length < 5864062014805
       ·rw [if_pos c6] at H
        have LMc6 := Aside0.mk c6
        clear c6
        obtain ⟨y106, hy106⟩ : ∃ y_ : List (List Int), y_ = (x3_1 ++ [y102]) := ⟨_, rfl⟩
        replace H : (scarfref02_Split.l0 k1 l0 y106 ([] : List Int) (wrap64 (x5_1 + 1))) = some r := by first | (rw [hy106]; with_reducible exact H) | (have H2_ := (Option.bind_some _ _).symm.trans H; rw [hy106]; with_reducible exact H2_) | (have H2_ := (Option.bind_some _ _).symm.trans H; with_reducible exact H2_) | with_reducible exact H | (rw [hy106]; exact H) | exact H
        have Ny106 := Aside0.mk hy106
        clear hy106
        have H' := Aside0.mk H
        clear H
        have p101 : 0 ≤ (x5_1 : Int) := of_decide_eq_true (by first | (with_reducible assumption) | assumption)
        have q101 : x5_1 < (l0.length : Int) := of_decide_eq_true (by first | (with_reducible assumption) | assumption)
        obtain ⟨ad101, e101, hx101_0⟩ := Kd.at_int HR0.out x5_1 p101 q101
        cases e101
        replace hx101_0 := (HB.out.cell (World.block_lt_of_cell? w _ hx101_0)).trans hx101_0
        replace p101 := eq_true p101
        replace q101 := eq_true q101
        go_wp2_with (first | ((with_reducible refine gate_builtin (b := .append) (xs := #[.tmp 12, .tmp 17]) rfl ?_); (try (refine gate_guard (by rfl) ?_; dsimp only)); at_builtin; refine Kd.R_append (Kd.int .u8) (w0 := w) w.heap.size rfl (.tmp 12) (.tmp 17) 22 5 (.int .u8 0) 1 rfl Tryd.underlying22 info5 rfl (by decide) (by omega) u4 x4_1 (rd l0 x5_1) [.int .u8 (rd l0 x5_1)] (fun _ => True) (fun _ => False) rfl rfl ?aP (fun _ hk => hk.elim) ?aF ?aO ?aB ?aS ?aL ?_; (case aP => exact rfl); (case aB => exact (by repeat (first | (with_reducible first | exact HB.out | apply below_alloc | apply pw_below_drewN | apply below_drew1) | exact HB.out))); (case aF => exact (fun _ _ => trivial)); (case aO => exact (by (with_reducible repeat (first | apply Kd.R_alloc | apply Kd.R_drewN | apply Kd.R_drew)); exact HO_4.out)); (case aS => exact (below_size (by repeat (first | (with_reducible first | exact HB.out | apply below_alloc | apply pw_below_drewN | apply below_drew1) | exact HB.out)))); (case aL => have := LMc4.out; omega); intro v103 w7 ho hb hg hat; rw [← Ny102.out] at ho; have n0_ := Aside0.mk (Kd.S_after (ok := (fun _ => True)) (by (with_reducible repeat (first | apply Kd.S_alloc | apply Kd.S_drewN | apply Kd.S_drew)); exact Kd.S_mono HO_3.out (fun _ hk => ⟨trivial, hk⟩)) hg hat); have n1_ := Aside0.mk (hb); have n2_ := Aside0.mk (ho); clear HO_3; clear HB; clear HO_4; have HO_3 := n0_; have HB := n1_; have HO104 := n2_; clear n0_ n1_ n2_; clear ho hb hg hat; have p105 : 0 ≤ (x5_1 : Int) := of_decide_eq_true (by first | (with_reducible assumption) | assumption); have q105 : x5_1 < (l0.length : Int) := of_decide_eq_true (by first | (with_reducible assumption) | assumption); obtain ⟨ad105, e105, hx105_0⟩ := Kd.at_int HR0.out x5_1 p105 q105; obtain rfl : ad101 = ad105 := (by injection e105); replace hx105_0 := (HB.out.cell (World.block_lt_of_cell? w _ hx105_0)).trans hx105_0; replace p105 := eq_true p105; replace q105 := eq_true q105; obtain ⟨Ao9, co9, eo9⟩ := Kd.R_slice HO104.out; subst eo9) | ((with_reducible refine gate_builtin (b := .append) (xs := #[.tmp 31, .tmp 33]) rfl ?_); (try (refine gate_guard (by rfl) ?_; dsimp only)); at_builtin; refine Kd.S_append (Kd.slice 5 (Kd.int .u8)) (w0 := w) w.heap.size rfl (.tmp 31) (.tmp 33) 34 22 (.slice none 0 0) 24 rfl Tryd.underlying34 info22 rfl (by decide) (by omega) u3 x3_1 y102 [.slice Ao9 y102.length co9] (fun _ => True) (fun k_ => some k_ = (.slice Ao9 y102.length co9 : Value).ownBlock) rfl rfl ?aP (fun k_ hk_ => ((Kd.R_mono (ok' := fun k_ => ((fun _ => True)) k_ ∧ some k_ ≠ (u3 : Value).ownBlock) (Kd.R_apart' (HO104.out) (Kd.S_typed HO_3.out) (by decide)) (fun k_ hk => ⟨trivial, hk.2⟩))).1 k_ hk_.symm) ?aF ?aO ?aB ?aS ?aL ?_; (case aP => exact Kd.M_row (Kd.R_mono (Kd.R_tight rfl (Kd.R_mono (ok' := fun k_ => ((fun _ => True)) k_ ∧ some k_ ≠ (u3 : Value).ownBlock) (Kd.R_apart' (HO104.out) (Kd.S_typed HO_3.out) (by decide)) (fun k_ hk => ⟨trivial, hk.2⟩))) (fun _ h_ => h_))); (case aB => exact (by repeat (first | (with_reducible first | exact HB.out | apply below_alloc | apply pw_below_drewN | apply below_drew1) | exact HB.out))); (case aF => exact (fun _ _ => trivial)); (case aO => exact (by (with_reducible repeat (first | apply Kd.S_alloc | apply Kd.S_drewN | apply Kd.S_drew)); exact Kd.S_mono HO_3.out (fun k_ hk => ⟨trivial, fun e_ => hk.2 e_⟩))); (case aS => exact (below_size (by repeat (first | (with_reducible first | exact HB.out | apply below_alloc | apply pw_below_drewN | apply below_drew1) | exact HB.out)))); (case aL => have := LMc6.out; omega); intro v107 w8 ho hb hg hat; rw [← Ny106.out] at ho; have n0_ := Aside0.mk (hb); have n1_ := Aside0.mk (ho); clear HB; clear HO_3; clear HO104; have HB := n0_; have HO108 := n1_; clear n0_ n1_; clear ho hb hg hat))
        go_roundg k1
        case measure => have := HK1.out; omega
        case rel => exact ⟨(y106), (([] : List Int)), (wrap64 (x5_1 + 1)), (by first | rfl | (simp; done) | (simp [*]; done)), H', ⟨by have := HK1.out; omega⟩, ⟨by (with_reducible repeat (first | apply Kd.S_alloc | apply Kd.S_drewN | apply Kd.S_drew)); exact Kd.S_mono HO108.out (fun _ hk => (by simp [Value.ownBlock]))⟩, ⟨by first | exact Kd.R_nil _ _ _ _ _ | exact Kd.N_nil _ _ _ _ _ | exact Kd.V_nil _ _ _ _ _ | exact Kd.Q_nil _ _ _ _ _ | exact Kd.S_nil _ _ _ _ _⟩, ⟨by repeat (first | (with_reducible first | exact HB.out | apply below_alloc | apply pw_below_drewN | apply below_drew1) | exact HB.out)⟩⟩
       ·rw [if_neg c6] at H
        exact absurd H (by simp)
      ·rw [if_neg c5] at H
       have c5b0 : ((rd l0 x5_1) == 10) = false := beq_eq_false_iff_ne.mpr c5
       have c5b1 : ((rd l0 x5_1) != 10) = true := bne_iff_ne.mpr c5
       by_cases c10 : x5_1 = (wrap64 ((l0.length : Int) - 1))
       ·rw [if_pos c10] at H
        have c10b0 : (x5_1 == (wrap64 ((l0.length : Int) - 1))) = true := beq_iff_eq.mpr c10
        have c10b1 : (x5_1 != (wrap64 ((l0.length : Int) - 1))) = false := bne_eq_false_iff_eq.mpr c10
        clear c10
        by_cases c11 : x3_1.length < 5864062014805
        ·rw [if_pos c11] at H
         have LMc11 := Aside0.mk c11
         clear c11
         obtain ⟨y109, hy109⟩ : ∃ y_ : List (List Int), y_ = (x3_1 ++ [y102]) := ⟨_, rfl⟩
         replace H : (scarfref02_Split.l0 k1 l0 y109 ([] : List Int) (wrap64 (x5_1 + 1))) = some r := by first | (rw [hy109]; with_reducible exact H) | (have H2_ := (Option.bind_some _ _).symm.trans H; rw [hy109]; with_reducible exact H2_) | (have H2_ := (Option.bind_some _ _).symm.trans H; with_reducible exact H2_) | with_reducible exact H | (rw [hy109]; exact H) | exact H
         have Ny109 := Aside0.mk hy109
         clear hy109
         have H' := Aside0.mk H
         clear H
         have p101 : 0 ≤ (x5_1 : Int) := of_decide_eq_true (by first | (with_reducible assumption) | assumption)
         have q101 : x5_1 < (l0.length : Int) := of_decide_eq_true (by first | (with_reducible assumption) | assumption)
         obtain ⟨ad101, e101, hx101_0⟩ := Kd.at_int HR0.out x5_1 p101 q101
         cases e101
         replace hx101_0 := (HB.out.cell (World.block_lt_of_cell? w _ hx101_0)).trans hx101_0
         replace p101 := eq_true p101
         replace q101 := eq_true q101
         go_wp2_with (first | ((with_reducible refine gate_builtin (b := .append) (xs := #[.tmp 12, .tmp 17]) rfl ?_); (try (refine gate_guard (by rfl) ?_; dsimp only)); at_builtin; refine Kd.R_append (Kd.int .u8) (w0 := w) w.heap.size rfl (.tmp 12) (.tmp 17) 22 5 (.int .u8 0) 1 rfl Tryd.underlying22 info5 rfl (by decide) (by omega) u4 x4_1 (rd l0 x5_1) [.int .u8 (rd l0 x5_1)] (fun _ => True) (fun _ => False) rfl rfl ?aP (fun _ hk => hk.elim) ?aF ?aO ?aB ?aS ?aL ?_; (case aP => exact rfl); (case aB => exact (by repeat (first | (with_reducible first | exact HB.out | apply below_alloc | apply pw_below_drewN | apply below_drew1) | exact HB.out))); (case aF => exact (fun _ _ => trivial)); (case aO => exact (by (with_reducible repeat (first | apply Kd.R_alloc | apply Kd.R_drewN | apply Kd.R_drew)); exact HO_4.out)); (case aS => exact (below_size (by repeat (first | (with_reducible first | exact HB.out | apply below_alloc | apply pw_below_drewN | apply below_drew1) | exact HB.out)))); (case aL => have := LMc4.out; omega); intro v103 w12 ho hb hg hat; rw [← Ny102.out] at ho; have n0_ := Aside0.mk (Kd.S_after (ok := (fun _ => True)) (by (with_reducible repeat (first | apply Kd.S_alloc | apply Kd.S_drewN | apply Kd.S_drew)); exact Kd.S_mono HO_3.out (fun _ hk => ⟨trivial, hk⟩)) hg hat); have n1_ := Aside0.mk (hb); have n2_ := Aside0.mk (ho); clear HO_3; clear HB; clear HO_4; have HO_3 := n0_; have HB := n1_; have HO104 := n2_; clear n0_ n1_ n2_; clear ho hb hg hat; have p105 : 0 ≤ (x5_1 : Int) := of_decide_eq_true (by first | (with_reducible assumption) | assumption); have q105 : x5_1 < (l0.length : Int) := of_decide_eq_true (by first | (with_reducible assumption) | assumption); obtain ⟨ad105, e105, hx105_0⟩ := Kd.at_int HR0.out x5_1 p105 q105; obtain rfl : ad101 = ad105 := (by injection e105); replace hx105_0 := (HB.out.cell (World.block_lt_of_cell? w _ hx105_0)).trans hx105_0; replace p105 := eq_true p105; replace q105 := eq_true q105; obtain ⟨Ao14, co14, eo14⟩ := Kd.R_slice HO104.out; subst eo14) | ((with_reducible refine gate_builtin (b := .append) (xs := #[.tmp 31, .tmp 33]) rfl ?_); (try (refine gate_guard (by rfl) ?_; dsimp only)); at_builtin; refine Kd.S_append (Kd.slice 5 (Kd.int .u8)) (w0 := w) w.heap.size rfl (.tmp 31) (.tmp 33) 34 22 (.slice none 0 0) 24 rfl Tryd.underlying34 info22 rfl (by decide) (by omega) u3 x3_1 y102 [.slice Ao14 y102.length co14] (fun _ => True) (fun k_ => some k_ = (.slice Ao14 y102.length co14 : Value).ownBlock) rfl rfl ?aP (fun k_ hk_ => ((Kd.R_mono (ok' := fun k_ => ((fun _ => True)) k_ ∧ some k_ ≠ (u3 : Value).ownBlock) (Kd.R_apart' (HO104.out) (Kd.S_typed HO_3.out) (by decide)) (fun k_ hk => ⟨trivial, hk.2⟩))).1 k_ hk_.symm) ?aF ?aO ?aB ?aS ?aL ?_; (case aP => exact Kd.M_row (Kd.R_mono (Kd.R_tight rfl (Kd.R_mono (ok' := fun k_ => ((fun _ => True)) k_ ∧ some k_ ≠ (u3 : Value).ownBlock) (Kd.R_apart' (HO104.out) (Kd.S_typed HO_3.out) (by decide)) (fun k_ hk => ⟨trivial, hk.2⟩))) (fun _ h_ => h_))); (case aB => exact (by repeat (first | (with_reducible first | exact HB.out | apply below_alloc | apply pw_below_drewN | apply below_drew1) | exact HB.out))); (case aF => exact (fun _ _ => trivial)); (case aO => exact (by (with_reducible repeat (first | apply Kd.S_alloc | apply Kd.S_drewN | apply Kd.S_drew)); exact Kd.S_mono HO_3.out (fun k_ hk => ⟨trivial, fun e_ => hk.2 e_⟩))); (case aS => exact (below_size (by repeat (first | (with_reducible first | exact HB.out | apply below_alloc | apply pw_below_drewN | apply below_drew1) | exact HB.out)))); (case aL => have := LMc11.out; omega); intro v110 w13 ho hb hg hat; rw [← Ny109.out] at ho; have n0_ := Aside0.mk (hb); have n1_ := Aside0.mk (ho); clear HB; clear HO_3; clear HO104; have HB := n0_; have HO111 := n1_; clear n0_ n1_; clear ho hb hg hat))
         go_roundg k1
         case measure => have := HK1.out; omega
         case rel => exact ⟨(y109), (([] : List Int)), (wrap64 (x5_1 + 1)), (by first | rfl | (simp; done) | (simp [*]; done)), H', ⟨by have := HK1.out; omega⟩, ⟨by (with_reducible repeat (first | apply Kd.S_alloc | apply Kd.S_drewN | apply Kd.S_drew)); exact Kd.S_mono HO111.out (fun _ hk => (by simp [Value.ownBlock]))⟩, ⟨by first | exact Kd.R_nil _ _ _ _ _ | exact Kd.N_nil _ _ _ _ _ | exact Kd.V_nil _ _ _ _ _ | exact Kd.Q_nil _ _ _ _ _ | exact Kd.S_nil _ _ _ _ _⟩, ⟨by repeat (first | (with_reducible first | exact HB.out | apply below_alloc | apply pw_below_drewN | apply below_drew1) | exact HB.out)⟩⟩
        ·rw [if_neg c11] at H
         exact absurd H (by simp)
       ·rw [if_neg c10] at H
        have c10b0 : (x5_1 == (wrap64 ((l0.length : Int) - 1))) = false := beq_eq_false_iff_ne.mpr c10
        have c10b1 : (x5_1 != (wrap64 ((l0.length : Int) - 1))) = true := bne_iff_ne.mpr c10
        have H' := Aside0.mk H
        clear H
        have p101 : 0 ≤ (x5_1 : Int) := of_decide_eq_true (by first | (with_reducible assumption) | assumption)
        have q101 : x5_1 < (l0.length : Int) := of_decide_eq_true (by first | (with_reducible assumption) | assumption)
        obtain ⟨ad101, e101, hx101_0⟩ := Kd.at_int HR0.out x5_1 p101 q101
        cases e101
        replace hx101_0 := (HB.out.cell (World.block_lt_of_cell? w _ hx101_0)).trans hx101_0
        replace p101 := eq_true p101
        replace q101 := eq_true q101
        go_wp2_with (first | ((with_reducible refine gate_builtin (b := .append) (xs := #[.tmp 12, .tmp 17]) rfl ?_); (try (refine gate_guard (by rfl) ?_; dsimp only)); at_builtin; refine Kd.R_append (Kd.int .u8) (w0 := w) w.heap.size rfl (.tmp 12) (.tmp 17) 22 5 (.int .u8 0) 1 rfl Tryd.underlying22 info5 rfl (by decide) (by omega) u4 x4_1 (rd l0 x5_1) [.int .u8 (rd l0 x5_1)] (fun _ => True) (fun _ => False) rfl rfl ?aP (fun _ hk => hk.elim) ?aF ?aO ?aB ?aS ?aL ?_; (case aP => exact rfl); (case aB => exact (by repeat (first | (with_reducible first | exact HB.out | apply below_alloc | apply pw_below_drewN | apply below_drew1) | exact HB.out))); (case aF => exact (fun _ _ => trivial)); (case aO => exact (by (with_reducible repeat (first | apply Kd.R_alloc | apply Kd.R_drewN | apply Kd.R_drew)); exact HO_4.out)); (case aS => exact (below_size (by repeat (first | (with_reducible first | exact HB.out | apply below_alloc | apply pw_below_drewN | apply below_drew1) | exact HB.out)))); (case aL => have := LMc4.out; omega); intro v103 w15 ho hb hg hat; rw [← Ny102.out] at ho; have n0_ := Aside0.mk (Kd.S_after (ok := (fun _ => True)) (by (with_reducible repeat (first | apply Kd.S_alloc | apply Kd.S_drewN | apply Kd.S_drew)); exact Kd.S_mono HO_3.out (fun _ hk => ⟨trivial, hk⟩)) hg hat); have n1_ := Aside0.mk (hb); have n2_ := Aside0.mk (ho); clear HO_3; clear HB; clear HO_4; have HO_3 := n0_; have HB := n1_; have HO104 := n2_; clear n0_ n1_ n2_; clear ho hb hg hat; have p105 : 0 ≤ (x5_1 : Int) := of_decide_eq_true (by first | (with_reducible assumption) | assumption); have q105 : x5_1 < (l0.length : Int) := of_decide_eq_true (by first | (with_reducible assumption) | assumption); obtain ⟨ad105, e105, hx105_0⟩ := Kd.at_int HR0.out x5_1 p105 q105; obtain rfl : ad101 = ad105 := (by injection e105); replace hx105_0 := (HB.out.cell (World.block_lt_of_cell? w _ hx105_0)).trans hx105_0; replace p105 := eq_true p105; replace q105 := eq_true q105))
        go_roundg k1
        case measure => have := HK1.out; omega
        case rel => exact ⟨(x3_1), (y102), (wrap64 (x5_1 + 1)), (by first | rfl | (simp; done) | (simp [*]; done)), H', ⟨by have := HK1.out; omega⟩, ⟨by (with_reducible repeat (first | apply Kd.S_alloc | apply Kd.S_drewN | apply Kd.S_drew)); exact Kd.S_mono HO_3.out (fun _ hk => hk.2)⟩, ⟨by (with_reducible repeat (first | apply Kd.R_alloc | apply Kd.R_drewN | apply Kd.R_drew)); exact HO104.out⟩, ⟨by repeat (first | (with_reducible first | exact HB.out | apply below_alloc | apply pw_below_drewN | apply below_drew1) | exact HB.out)⟩⟩
     ·rw [if_neg c4] at H
      exact absurd H (by simp)
    ·rw [if_neg c3] at H
     exact absurd H (by simp)
   ·rw [if_neg c2] at H
    have c2b0 : decide (x5_1 < (l0.length : Int)) = false := decide_eq_false c2
    clear c2
    obtain rfl := Option.some.inj H
    go_wp2
    go_ret
    exact ⟨_, by first | rfl | (simp [errW_none, errW_some] <;> rfl) | (simp [*, errW_none, errW_some] <;> rfl), by (with_reducible repeat (first | apply Kd.S_alloc | apply Kd.S_drewN | apply Kd.S_drew)); exact Kd.S_mono HO_3.out (fun _ hk => trivial), by repeat (first | (with_reducible first | exact HB.out | apply below_alloc | apply pw_below_drewN | apply below_drew1) | exact HB.out)⟩
/-! ### scarfref18_runs: function 32 -/
mutual
def scarfref18_runs.j0 : Nat → List Int → Bool → Option (Int)
 | 0, _, _ => none
 | k + 1, x0, x30 => if x30 = true then (some 0) else (scarfref18_runs.l0 k x0 1)
def scarfref18_runs.l0 : Nat → List Int → Int → Option (Int)
 | 0, _, _ => none
 | k + 1, x0, x3 => if x3 < (x0.length : Int) then (if 0 ≤ x3 then (if 0 < (x0.length : Int) then (if (rd x0 x3) = (rd x0 0) then (scarfref18_runs.l0 k x0 (wrap64 (x3 + 1))) else (some x3)) else (none)) else (none)) else (some x3)
end
def scarfref18_runs.f (k : Nat) (l0 : List Int) : Option (Int) := if (l0.length : Int) = 0 then (scarfref18_runs.j0 k l0 true) else (if 0 < (l0.length : Int) then (if (rd l0 0) = 60 then (scarfref18_runs.j0 k l0 false) else (if (rd l0 0) = 124 then (scarfref18_runs.j0 k l0 false) else (if (rd l0 0) = 61 then (scarfref18_runs.j0 k l0 false) else (scarfref18_runs.j0 k l0 ((rd l0 0) != 62))))) else (none))
theorem scarfref18_runs.mono_l : ∀ k, (∀ y0 y1, LeO (scarfref18_runs.j0 k y0 y1) (scarfref18_runs.j0 (k + 1) y0 y1)) ∧ (∀ y0 y1, LeO (scarfref18_runs.l0 k y0 y1) (scarfref18_runs.l0 (k + 1) y0 y1))
 | 0 => ⟨fun _ _ r h => by simp [scarfref18_runs.j0] at h, fun _ _ r h => by simp [scarfref18_runs.l0] at h⟩
 | k + 1 => by
  obtain ⟨ih0, ih1⟩ := scarfref18_runs.mono_l k
  refine ⟨?_, ?_⟩
  ·intro y0 y1
   unfold scarfref18_runs.j0
   repeat' first
   | (with_reducible exact ih0 _ _)
   | (with_reducible exact ih1 _ _)
   | (with_reducible exact LeO.refl _)
   | (with_reducible exact LeO.none _)
   | (with_reducible refine LeO.ite ?_ ?_)
   | (with_reducible refine LeO.bind ?_ (fun _ => ?_))
   | exact ih0 _ _
   | exact ih1 _ _
   | exact LeO.none _
   | refine LeO.ite ?_ ?_
   | refine LeO.bind ?_ (fun _ => ?_)
  ·intro y0 y1
   unfold scarfref18_runs.l0
   repeat' first
   | (with_reducible exact ih0 _ _)
   | (with_reducible exact ih1 _ _)
   | (with_reducible exact LeO.refl _)
   | (with_reducible exact LeO.none _)
   | (with_reducible refine LeO.ite ?_ ?_)
   | (with_reducible refine LeO.bind ?_ (fun _ => ?_))
   | exact ih0 _ _
   | exact ih1 _ _
   | exact LeO.none _
   | refine LeO.ite ?_ ?_
   | refine LeO.bind ?_ (fun _ => ?_)
theorem scarfref18_runs.mono : ∀ a0 k, LeO (scarfref18_runs.f k a0) (scarfref18_runs.f (k + 1) a0) := by
 intro a0 k
 obtain ⟨ih0, ih1⟩ := scarfref18_runs.mono_l k
 unfold scarfref18_runs.f
 repeat' first
   | (with_reducible exact ih0 _ _)
   | (with_reducible exact ih1 _ _)
   | (with_reducible exact LeO.refl _)
   | (with_reducible exact LeO.none _)
   | (with_reducible refine LeO.ite ?_ ?_)
   | (with_reducible refine LeO.bind ?_ (fun _ => ?_))
   | exact ih0 _ _
   | exact ih1 _ _
   | exact LeO.none _
   | refine LeO.ite ?_ ?_
   | refine LeO.bind ?_ (fun _ => ?_)
set_option maxHeartbeats 8000000 in
set_option maxRecDepth 100000 in
theorem scarfref18_runs.calls (k : Nat) (A0 : Option Addr) (c0 : Nat) (l0 : List Int) (r : Int) (w : World) (hr0 : Kd.C (Kd.int .u8) w A0 l0.length l0) (hc0 : l0.length ≤ c0) (h : scarfref18_runs.f k l0 = some r) :
  Calls Tryd.prog 32 #[.slice A0 l0.length c0] w fun e w' => e = .returned (.int .i64 r) ∧ Drawn0 w w' := by
 have HR0 := Aside0.mk hr0
 have HC0 := Aside0.mk hc0
 clear hr0 hc0
 have H : (if (l0.length : Int) = 0 then (scarfref18_runs.j0 k l0 true) else (if 0 < (l0.length : Int) then (if (rd l0 0) = 60 then (scarfref18_runs.j0 k l0 false) else (if (rd l0 0) = 124 then (scarfref18_runs.j0 k l0 false) else (if (rd l0 0) = 61 then (scarfref18_runs.j0 k l0 false) else (scarfref18_runs.j0 k l0 ((rd l0 0) != 62))))) else (none))) = some r := h
 clear h
 have HC2 := Aside0.mk H
 clear H
 go_enter Tryd.func32, Tryd.ntmps32
 go_upto_region 1 with (fail)
 repeat (go_quiet (fail); go_upto_region 1 with (fail))
 go_cut [30] (fun v30 wc => ∃ (kq : Nat) (x30_1 : Bool), v30 = .bool x30_1 ∧ Aside0 (scarfref18_runs.j0 kq l0 x30_1 = some r) ∧ Aside0 (kq ≤ k) ∧ Drawn0 w wc)
 case first =>
  have H := HC2.out
  clear HC2
  by_cases c3 : (l0.length : Int) = 0
  ·rw [if_pos c3] at H
   have c3b0 : ((l0.length : Int) == 0) = true := beq_iff_eq.mpr c3
   have c3b1 : ((l0.length : Int) != 0) = false := bne_eq_false_iff_eq.mpr c3
   clear c3
   (first | rw [c3b0] | (simp only [i64_w, i32_w]; rw [c3b0]) | skip)
   have H' := Aside0.mk H
   clear H
   go_wp2
   repeat (go_quiet (fail); try go_wp2)
   go_meet
   case rel => exact ⟨_, (true), (by first | rfl | (simp; done) | (simp [*]; done)), H', ⟨by first | omega | exact Nat.le_refl _⟩, by repeat (first | exact Drawn0.refl _ | apply Drawn0.step)⟩
  ·rw [if_neg c3] at H
   have c3b0 : ((l0.length : Int) == 0) = false := beq_eq_false_iff_ne.mpr c3
   have c3b1 : ((l0.length : Int) != 0) = true := bne_iff_ne.mpr c3
   have c3b2 : ¬ (l0 = []) := fun h_ => c3 (by rw [h_]; rfl)
   (first | rw [c3b0] | (simp only [i64_w, i32_w]; rw [c3b0]) | skip)
   by_cases c4 : 0 < (l0.length : Int)
   ·rw [if_pos c4] at H
    have c4b0 : decide (0 < (l0.length : Int)) = true := decide_eq_true c4
    have c4b1 : decide (0 < l0.length) = true := decide_eq_true (by omega)
    clear c4
    by_cases c5 : (rd l0 0) = 60
    ·rw [if_pos c5] at H
     have c5b0 : ((rd l0 0) == 60) = true := beq_iff_eq.mpr c5
     have c5b1 : ((rd l0 0) != 60) = false := bne_eq_false_iff_eq.mpr c5
     clear c5
     have H' := Aside0.mk H
     clear H
     have p112 : 0 ≤ (0 : Int) := (by omega)
     have q112 : 0 < (l0.length : Int) := of_decide_eq_true (by first | (with_reducible assumption) | assumption)
     obtain ⟨ad112, e112, hx112_0⟩ := Kd.at_int HR0.out 0 p112 q112
     cases e112
     have qi112 : (0 < l0.length) = True := eq_true (by omega)
     (try rw [show ((0 : Int)).toNat = 0 from rfl] at hx112_0)
     (try rw [Addr.add_zero'] at hx112_0)
     replace p112 := eq_true p112
     replace q112 := eq_true q112
     go_wp2
     repeat (go_quiet (fail); try go_wp2)
     go_meet
     case rel => exact ⟨_, (false), (by first | rfl | (simp; done) | (simp [*]; done)), H', ⟨by first | omega | exact Nat.le_refl _⟩, by repeat (first | exact Drawn0.refl _ | apply Drawn0.step)⟩
    ·rw [if_neg c5] at H
     have c5b0 : ((rd l0 0) == 60) = false := beq_eq_false_iff_ne.mpr c5
     have c5b1 : ((rd l0 0) != 60) = true := bne_iff_ne.mpr c5
     by_cases c6 : (rd l0 0) = 124
     ·rw [if_pos c6] at H
      have c6b0 : ((rd l0 0) == 124) = true := beq_iff_eq.mpr c6
      have c6b1 : ((rd l0 0) != 124) = false := bne_eq_false_iff_eq.mpr c6
      clear c6
      have H' := Aside0.mk H
      clear H
      have p112 : 0 ≤ (0 : Int) := (by omega)
      have q112 : 0 < (l0.length : Int) := of_decide_eq_true (by first | (with_reducible assumption) | assumption)
      obtain ⟨ad112, e112, hx112_0⟩ := Kd.at_int HR0.out 0 p112 q112
      cases e112
      have qi112 : (0 < l0.length) = True := eq_true (by omega)
      (try rw [show ((0 : Int)).toNat = 0 from rfl] at hx112_0)
      (try rw [Addr.add_zero'] at hx112_0)
      replace p112 := eq_true p112
      replace q112 := eq_true q112
      have p113 : 0 ≤ (0 : Int) := (by omega)
      have q113 : 0 < (l0.length : Int) := of_decide_eq_true (by first | (with_reducible assumption) | assumption)
      obtain ⟨ad113, e113, hx113_0⟩ := Kd.at_int HR0.out 0 p113 q113
      obtain rfl : ad112 = ad113 := (by injection e113)
      have qi113 : (0 < l0.length) = True := eq_true (by omega)
      (try rw [show ((0 : Int)).toNat = 0 from rfl] at hx113_0)
      (try rw [Addr.add_zero'] at hx113_0)
      replace p113 := eq_true p113
      replace q113 := eq_true q113
      go_wp2
      repeat (go_quiet (fail); try go_wp2)
      go_meet
      case rel => exact ⟨_, (false), (by first | rfl | (simp; done) | (simp [*]; done)), H', ⟨by first | omega | exact Nat.le_refl _⟩, by repeat (first | exact Drawn0.refl _ | apply Drawn0.step)⟩
     ·rw [if_neg c6] at H
      have c6b0 : ((rd l0 0) == 124) = false := beq_eq_false_iff_ne.mpr c6
      have c6b1 : ((rd l0 0) != 124) = true := bne_iff_ne.mpr c6
      by_cases c7 : (rd l0 0) = 61
      ·rw [if_pos c7] at H
       have c7b0 : ((rd l0 0) == 61) = true := beq_iff_eq.mpr c7
       have c7b1 : ((rd l0 0) != 61) = false := bne_eq_false_iff_eq.mpr c7
       clear c7
       have H' := Aside0.mk H
       clear H
       have p112 : 0 ≤ (0 : Int) := (by omega)
       have q112 : 0 < (l0.length : Int) := of_decide_eq_true (by first | (with_reducible assumption) | assumption)
       obtain ⟨ad112, e112, hx112_0⟩ := Kd.at_int HR0.out 0 p112 q112
       cases e112
       have qi112 : (0 < l0.length) = True := eq_true (by omega)
       (try rw [show ((0 : Int)).toNat = 0 from rfl] at hx112_0)
       (try rw [Addr.add_zero'] at hx112_0)
       replace p112 := eq_true p112
       replace q112 := eq_true q112
       have p113 : 0 ≤ (0 : Int) := (by omega)
       have q113 : 0 < (l0.length : Int) := of_decide_eq_true (by first | (with_reducible assumption) | assumption)
       obtain ⟨ad113, e113, hx113_0⟩ := Kd.at_int HR0.out 0 p113 q113
       obtain rfl : ad112 = ad113 := (by injection e113)
       have qi113 : (0 < l0.length) = True := eq_true (by omega)
       (try rw [show ((0 : Int)).toNat = 0 from rfl] at hx113_0)
       (try rw [Addr.add_zero'] at hx113_0)
       replace p113 := eq_true p113
       replace q113 := eq_true q113
       have p114 : 0 ≤ (0 : Int) := (by omega)
       have q114 : 0 < (l0.length : Int) := of_decide_eq_true (by first | (with_reducible assumption) | assumption)
       obtain ⟨ad114, e114, hx114_0⟩ := Kd.at_int HR0.out 0 p114 q114
       obtain rfl : ad112 = ad114 := (by injection e114)
       have qi114 : (0 < l0.length) = True := eq_true (by omega)
       (try rw [show ((0 : Int)).toNat = 0 from rfl] at hx114_0)
       (try rw [Addr.add_zero'] at hx114_0)
       replace p114 := eq_true p114
       replace q114 := eq_true q114
       go_wp2
       repeat (go_quiet (fail); try go_wp2)
       go_meet
       case rel => exact ⟨_, (false), (by first | rfl | (simp; done) | (simp [*]; done)), H', ⟨by first | omega | exact Nat.le_refl _⟩, by repeat (first | exact Drawn0.refl _ | apply Drawn0.step)⟩
      ·rw [if_neg c7] at H
       have c7b0 : ((rd l0 0) == 61) = false := beq_eq_false_iff_ne.mpr c7
       have c7b1 : ((rd l0 0) != 61) = true := bne_iff_ne.mpr c7
       have H' := Aside0.mk H
       clear H
       have p112 : 0 ≤ (0 : Int) := (by omega)
       have q112 : 0 < (l0.length : Int) := of_decide_eq_true (by first | (with_reducible assumption) | assumption)
       obtain ⟨ad112, e112, hx112_0⟩ := Kd.at_int HR0.out 0 p112 q112
       cases e112
       have qi112 : (0 < l0.length) = True := eq_true (by omega)
       (try rw [show ((0 : Int)).toNat = 0 from rfl] at hx112_0)
       (try rw [Addr.add_zero'] at hx112_0)
       replace p112 := eq_true p112
       replace q112 := eq_true q112
       have p113 : 0 ≤ (0 : Int) := (by omega)
       have q113 : 0 < (l0.length : Int) := of_decide_eq_true (by first | (with_reducible assumption) | assumption)
       obtain ⟨ad113, e113, hx113_0⟩ := Kd.at_int HR0.out 0 p113 q113
       obtain rfl : ad112 = ad113 := (by injection e113)
       have qi113 : (0 < l0.length) = True := eq_true (by omega)
       (try rw [show ((0 : Int)).toNat = 0 from rfl] at hx113_0)
       (try rw [Addr.add_zero'] at hx113_0)
       replace p113 := eq_true p113
       replace q113 := eq_true q113
       have p114 : 0 ≤ (0 : Int) := (by omega)
       have q114 : 0 < (l0.length : Int) := of_decide_eq_true (by first | (with_reducible assumption) | assumption)
       obtain ⟨ad114, e114, hx114_0⟩ := Kd.at_int HR0.out 0 p114 q114
       obtain rfl : ad112 = ad114 := (by injection e114)
       have qi114 : (0 < l0.length) = True := eq_true (by omega)
       (try rw [show ((0 : Int)).toNat = 0 from rfl] at hx114_0)
       (try rw [Addr.add_zero'] at hx114_0)
       replace p114 := eq_true p114
       replace q114 := eq_true q114
       have p115 : 0 ≤ (0 : Int) := (by omega)
       have q115 : 0 < (l0.length : Int) := of_decide_eq_true (by first | (with_reducible assumption) | assumption)
       obtain ⟨ad115, e115, hx115_0⟩ := Kd.at_int HR0.out 0 p115 q115
       obtain rfl : ad112 = ad115 := (by injection e115)
       have qi115 : (0 < l0.length) = True := eq_true (by omega)
       (try rw [show ((0 : Int)).toNat = 0 from rfl] at hx115_0)
       (try rw [Addr.add_zero'] at hx115_0)
       replace p115 := eq_true p115
       replace q115 := eq_true q115
       go_wp2
       repeat (go_quiet (fail); try go_wp2)
       go_meet
       case rel => exact ⟨_, (((rd l0 0) != 62)), (by first | rfl | (simp; done) | (simp [*]; done)), H', ⟨by first | omega | exact Nat.le_refl _⟩, by repeat (first | exact Drawn0.refl _ | apply Drawn0.step)⟩
   ·rw [if_neg c4] at H
    exact absurd H (by simp)
 case rest =>
  clear HC2
  try clear p1
  try clear q1
  try clear hx1
  try clear qi1
  try clear p2
  try clear c3
  try clear c3b0
  try clear c3b1
  try clear c3b2
  try clear c4
  try clear c4b0
  try clear c4b1
  try clear c5
  try clear c5b0
  try clear c5b1
  try clear c6
  try clear c6b0
  try clear c6b1
  try clear c7
  try clear c7b0
  try clear c7b1
  try clear hx112_0
  try clear hx113_0
  try clear hx114_0
  try clear hx115_0
  try clear p112
  try clear p113
  try clear p114
  try clear p115
  try clear q112
  try clear q113
  try clear q114
  try clear q115
  obtain ⟨kq, x30_1, rfl, HA, HJ1, ⟨mc1, rfl⟩⟩ := hcut
  cases kq with
  | zero => exact absurd HA.out (by simp [scarfref18_runs.j0])
  | succ kj1 =>
   have H := HA.out
   clear HA
   simp only [scarfref18_runs.j0] at H
   by_cases c8 : x30_1 = true
   ·subst c8
    have H1 : (some 0) = some r := by rw [if_pos rfl] at H; exact H
    clear H
    have H := H1
    clear H1
    obtain rfl := Option.some.inj H
    go_wp2
    repeat (go_quiet (fail); try go_wp2)
    go_ret
    exact ⟨by first | rfl | (simp; done) | (simp [*]; done), by repeat (first | exact Drawn0.refl _ | apply Drawn0.step)⟩
   ·replace c8 := Bool.eq_false_iff.mpr c8
    subst c8
    have H1 : (scarfref18_runs.l0 kj1 l0 1) = some r := by rw [if_neg (show ¬ (false = true) by decide)] at H; exact H
    clear H
    have H := H1
    clear H1
    have H' := Aside0.mk H
    clear H
    go_wp2
    repeat (go_quiet (fail); try go_wp2)
    go_loopg [3] kj1 (fun kq v3 w' => ∃ (x3_2 : Int), v3 = .int .i64 x3_2 ∧ Aside0 (scarfref18_runs.l0 kq l0 x3_2 = some r) ∧ Aside0 (kq ≤ kj1) ∧ Drawn0 w w')
    case atStart => exact ⟨(1), (by first | rfl | (simp; done) | (simp [*]; done)), H', ⟨Nat.le_refl _⟩, by repeat (first | exact Drawn0.refl _ | apply Drawn0.step)⟩
    case round =>
     clear H'
     try clear c1
     try clear p1
     try clear q1
     try clear hx1
     try clear qi1
     try clear p2
     try clear c3
     try clear c3b0
     try clear c3b1
     try clear c3b2
     try clear c4
     try clear c4b0
     try clear c4b1
     try clear c5
     try clear c5b0
     try clear c5b1
     try clear c6
     try clear c6b0
     try clear c6b1
     try clear c7
     try clear c7b0
     try clear c7b1
     try clear c8
     try clear hx112_0
     try clear hx113_0
     try clear hx114_0
     try clear hx115_0
     try clear p1
     try clear p112
     try clear p113
     try clear p114
     try clear p115
     try clear p2
     try clear q1
     try clear q112
     try clear q113
     try clear q114
     try clear q115
     obtain ⟨x3_2, rfl, HA, HK2, ⟨m2, rfl⟩⟩ := hrel
     cases gk with
     | zero => exact absurd HA.out (by simp [scarfref18_runs.l0])
     | succ k2 =>
      have H := HA.out
      clear HA
      simp only [scarfref18_runs.l0] at H
      by_cases c9 : x3_2 < (l0.length : Int)
      ·rw [if_pos c9] at H
       have c9b0 : decide (x3_2 < (l0.length : Int)) = true := decide_eq_true c9
       clear c9
       by_cases c10 : 0 ≤ x3_2
       ·rw [if_pos c10] at H
        have c10b0 : decide (0 ≤ x3_2) = true := decide_eq_true c10
        clear c10
        by_cases c11 : 0 < (l0.length : Int)
        ·rw [if_pos c11] at H
         have c11b0 : decide (0 < (l0.length : Int)) = true := decide_eq_true c11
         have c11b1 : decide (0 < l0.length) = true := decide_eq_true (by omega)
         clear c11
         by_cases c12 : (rd l0 x3_2) = (rd l0 0)
         ·rw [if_pos c12] at H
          have c12b0 : ((rd l0 x3_2) == (rd l0 0)) = true := beq_iff_eq.mpr c12
          have c12b1 : ((rd l0 x3_2) != (rd l0 0)) = false := bne_eq_false_iff_eq.mpr c12
          clear c12
          have H' := Aside0.mk H
          clear H
          have p116 : 0 ≤ (x3_2 : Int) := of_decide_eq_true (by first | (with_reducible assumption) | assumption)
          have q116 : x3_2 < (l0.length : Int) := of_decide_eq_true (by first | (with_reducible assumption) | assumption)
          obtain ⟨ad116, e116, hx116_0⟩ := Kd.at_int HR0.out x3_2 p116 q116
          cases e116
          replace p116 := eq_true p116
          replace q116 := eq_true q116
          have p117 : 0 ≤ (0 : Int) := (by omega)
          have q117 : 0 < (l0.length : Int) := of_decide_eq_true (by first | (with_reducible assumption) | assumption)
          obtain ⟨ad117, e117, hx117_0⟩ := Kd.at_int HR0.out 0 p117 q117
          obtain rfl : ad116 = ad117 := (by injection e117)
          have qi117 : (0 < l0.length) = True := eq_true (by omega)
          (try rw [show ((0 : Int)).toNat = 0 from rfl] at hx117_0)
          (try rw [Addr.add_zero'] at hx117_0)
          replace p117 := eq_true p117
          replace q117 := eq_true q117
          go_wp2
          repeat (go_quiet (fail); try go_wp2)
          go_roundg k2
          case measure => have := HJ1.out; have := HK2.out; omega
          case rel => exact ⟨(wrap64 (x3_2 + 1)), (by first | rfl | (simp; done) | (simp [*]; done)), H', ⟨by have := HJ1.out; have := HK2.out; omega⟩, by repeat (first | exact Drawn0.refl _ | apply Drawn0.step)⟩
         ·rw [if_neg c12] at H
          have c12b0 : ((rd l0 x3_2) == (rd l0 0)) = false := beq_eq_false_iff_ne.mpr c12
          have c12b1 : ((rd l0 x3_2) != (rd l0 0)) = true := bne_iff_ne.mpr c12
          obtain rfl := Option.some.inj H
          have p116 : 0 ≤ (x3_2 : Int) := of_decide_eq_true (by first | (with_reducible assumption) | assumption)
          have q116 : x3_2 < (l0.length : Int) := of_decide_eq_true (by first | (with_reducible assumption) | assumption)
          obtain ⟨ad116, e116, hx116_0⟩ := Kd.at_int HR0.out x3_2 p116 q116
          cases e116
          replace p116 := eq_true p116
          replace q116 := eq_true q116
          have p117 : 0 ≤ (0 : Int) := (by omega)
          have q117 : 0 < (l0.length : Int) := of_decide_eq_true (by first | (with_reducible assumption) | assumption)
          obtain ⟨ad117, e117, hx117_0⟩ := Kd.at_int HR0.out 0 p117 q117
          obtain rfl : ad116 = ad117 := (by injection e117)
          have qi117 : (0 < l0.length) = True := eq_true (by omega)
          (try rw [show ((0 : Int)).toNat = 0 from rfl] at hx117_0)
          (try rw [Addr.add_zero'] at hx117_0)
          replace p117 := eq_true p117
          replace q117 := eq_true q117
          go_wp2
          repeat (go_quiet (fail); try go_wp2)
          go_ret
          exact ⟨by first | rfl | (simp; done) | (simp [*]; done), by repeat (first | exact Drawn0.refl _ | apply Drawn0.step)⟩
        ·rw [if_neg c11] at H
         exact absurd H (by simp)
       ·rw [if_neg c10] at H
        exact absurd H (by simp)
      ·rw [if_neg c9] at H
       have c9b0 : decide (x3_2 < (l0.length : Int)) = false := decide_eq_false c9
       clear c9
       obtain rfl := Option.some.inj H
       go_wp2
       repeat (go_quiet (fail); try go_wp2)
       go_ret
       exact ⟨by first | rfl | (simp; done) | (simp [*]; done), by repeat (first | exact Drawn0.refl _ | apply Drawn0.step)⟩
end Go.Proofs.YtnnnbeimehfiiaaDoor.Q
-- Written by a program of this session (wip/mkprint.py, wip/pr.sh) for this claim; Lean checks it.
namespace Go.Proofs.YtnnnbeimehfiiaaDoor.Q
open Go.RowKit Go.Proofs.YtnnnbeimehfiiaaDoorW.PrintWords Go.Proofs.YtnnnbeimehfiiaaDoorW.PrintLast Go.Proofs.YtnnnbeimehfiiaaDoorW.PrintMore
attribute [local go_sem] max2_int min2_int max_two min_two max_three min_three max_four min_four   -- for this text's walks alone
set_option linter.unusedVariables false
set_option linter.unusedSimpArgs false
/-! ### scarfref18_Labelled: function 15 -/
mutual
def scarfref18_Labelled.l0 : Nat → ByteArray → List Int → Int → Option (ByteArray)
 | 0, _, _, _ => none
 | k + 1, x0, x3, x4 => if x4 < (x0.size : Int) then (scarfref18_Labelled.j1 k x0 x3 x4 (decide (x4 < 200))) else (scarfref18_Labelled.j1 k x0 x3 x4 false)
def scarfref18_Labelled.j1 : Nat → ByteArray → List Int → Int → Bool → Option (ByteArray)
 | 0, _, _, _, _ => none
 | k + 1, x0, x3, x4, x13 => if x13 = true then (if 0 ≤ x4 then (if x4 < (x0.size : Int) then (if (bt x0 x4) < 32 then (if x3.length < 140737488355328 then (scarfref18_Labelled.l0 k x0 (x3 ++ [63]) (wrap64 (x4 + 1))) else (none)) else (if (bt x0 x4) > 126 then (if x3.length < 140737488355328 then (scarfref18_Labelled.l0 k x0 (x3 ++ [63]) (wrap64 (x4 + 1))) else (none)) else (if x3.length < 140737488355328 then (scarfref18_Labelled.l0 k x0 (x3 ++ [bt x0 x4]) (wrap64 (x4 + 1))) else (none)))) else (none)) else (none)) else (scarfref18_Labelled.l1 k x3)
def scarfref18_Labelled.l1 : Nat → List Int → Option (ByteArray)
 | 0, _ => none
 | k + 1, x3 => if (x3.length : Int) > 0 then (if 0 ≤ (wrap64 ((x3.length : Int) - 1)) then (if (wrap64 ((x3.length : Int) - 1)) < (x3.length : Int) then (if (rd x3 (wrap64 ((x3.length : Int) - 1))) = 32 then (if (wrap64 ((x3.length : Int) - 1)) ≤ (x3.length : Int) then (scarfref18_Labelled.l1 k (x3.take ((wrap64 ((x3.length : Int) - 1)) : Int).toNat)) else (none)) else (some (strOfNums x3))) else (none)) else (none)) else (some (strOfNums x3))
end
def scarfref18_Labelled.f (k : Nat) (a0 : ByteArray) : Option (ByteArray) := scarfref18_Labelled.l0 k a0 ([] : List Int) 0
theorem scarfref18_Labelled.mono_l : ∀ k, (∀ y0 y1 y2, LeO (scarfref18_Labelled.l0 k y0 y1 y2) (scarfref18_Labelled.l0 (k + 1) y0 y1 y2)) ∧ (∀ y0 y1 y2 y3, LeO (scarfref18_Labelled.j1 k y0 y1 y2 y3) (scarfref18_Labelled.j1 (k + 1) y0 y1 y2 y3)) ∧ (∀ y0, LeO (scarfref18_Labelled.l1 k y0) (scarfref18_Labelled.l1 (k + 1) y0))
 | 0 => ⟨fun _ _ _ r h => by simp [scarfref18_Labelled.l0] at h, fun _ _ _ _ r h => by simp [scarfref18_Labelled.j1] at h, fun _ r h => by simp [scarfref18_Labelled.l1] at h⟩
 | k + 1 => by
  obtain ⟨ih0, ih1, ih2⟩ := scarfref18_Labelled.mono_l k
  refine ⟨?_, ?_, ?_⟩
  ·intro y0 y1 y2
   unfold scarfref18_Labelled.l0
   repeat' first
   | (with_reducible exact ih0 _ _ _)
   | (with_reducible exact ih1 _ _ _ _)
   | (with_reducible exact ih2 _)
   | (with_reducible exact LeO.refl _)
   | (with_reducible exact LeO.none _)
   | (with_reducible refine LeO.ite ?_ ?_)
   | (with_reducible refine LeO.bind ?_ (fun _ => ?_))
   | exact ih0 _ _ _
   | exact ih1 _ _ _ _
   | exact ih2 _
   | exact LeO.none _
   | refine LeO.ite ?_ ?_
   | refine LeO.bind ?_ (fun _ => ?_)
  ·intro y0 y1 y2 y3
   unfold scarfref18_Labelled.j1
   repeat' first
   | (with_reducible exact ih0 _ _ _)
   | (with_reducible exact ih1 _ _ _ _)
   | (with_reducible exact ih2 _)
   | (with_reducible exact LeO.refl _)
   | (with_reducible exact LeO.none _)
   | (with_reducible refine LeO.ite ?_ ?_)
   | (with_reducible refine LeO.bind ?_ (fun _ => ?_))
   | exact ih0 _ _ _
   | exact ih1 _ _ _ _
   | exact ih2 _
   | exact LeO.none _
   | refine LeO.ite ?_ ?_
   | refine LeO.bind ?_ (fun _ => ?_)
  ·intro y0
   unfold scarfref18_Labelled.l1
   repeat' first
   | (with_reducible exact ih0 _ _ _)
   | (with_reducible exact ih1 _ _ _ _)
   | (with_reducible exact ih2 _)
   | (with_reducible exact LeO.refl _)
   | (with_reducible exact LeO.none _)
   | (with_reducible refine LeO.ite ?_ ?_)
   | (with_reducible refine LeO.bind ?_ (fun _ => ?_))
   | exact ih0 _ _ _
   | exact ih1 _ _ _ _
   | exact ih2 _
   | exact LeO.none _
   | refine LeO.ite ?_ ?_
   | refine LeO.bind ?_ (fun _ => ?_)
theorem scarfref18_Labelled.mono : ∀ a0 k, LeO (scarfref18_Labelled.f k a0) (scarfref18_Labelled.f (k + 1) a0) := by
 intro a0 k
 obtain ⟨ih0, ih1, ih2⟩ := scarfref18_Labelled.mono_l k
 unfold scarfref18_Labelled.f
 repeat' first
   | (with_reducible exact ih0 _ _ _)
   | (with_reducible exact ih1 _ _ _ _)
   | (with_reducible exact ih2 _)
   | (with_reducible exact LeO.refl _)
   | (with_reducible exact LeO.none _)
   | (with_reducible refine LeO.ite ?_ ?_)
   | (with_reducible refine LeO.bind ?_ (fun _ => ?_))
   | exact ih0 _ _ _
   | exact ih1 _ _ _ _
   | exact ih2 _
   | exact LeO.none _
   | refine LeO.ite ?_ ?_
   | refine LeO.bind ?_ (fun _ => ?_)
set_option maxHeartbeats 8000000 in
set_option maxRecDepth 100000 in
theorem scarfref18_Labelled.calls (k : Nat) (a0 : ByteArray) (r : ByteArray) (w : World) (h : scarfref18_Labelled.f k a0 = some r) :
  Calls Tryd.prog 15 #[.string a0] w fun e w' => e = .returned (.string r) ∧ Below w.heap.size w w' := by
 have HB := Aside0.mk (Below.refl w.heap.size w)
 have H : (scarfref18_Labelled.l0 k a0 ([] : List Int) 0) = some r := h
 clear h
 have H' := Aside0.mk H
 clear H
 go_enter Tryd.func15, Tryd.ntmps15
 go_wp2
 go_loopg [3, 4] k (fun kq v3 v4 w' => ∃ (x3_1 : List Int) (x4_1 : Int), v4 = .int .i64 x4_1 ∧ Aside0 (scarfref18_Labelled.l0 kq a0 x3_1 x4_1 = some r) ∧ Aside0 (kq ≤ k) ∧ Aside0 (Kd.R (Kd.int .u8) 5 w' w.heap.size (fun _ => True) v3 x3_1) ∧ Aside0 (Below w.heap.size w w'))
 case atStart => exact ⟨(([] : List Int)), (0), (by first | rfl | (simp; done) | (simp [*]; done)), H', ⟨Nat.le_refl _⟩, ⟨by first | exact Kd.R_nil _ _ _ _ _ | exact Kd.N_nil _ _ _ _ _ | exact Kd.V_nil _ _ _ _ _ | exact Kd.Q_nil _ _ _ _ _ | exact Kd.S_nil _ _ _ _ _⟩, ⟨by repeat (first | (with_reducible first | exact HB.out | apply below_alloc | apply pw_below_drewN | apply below_drew1) | exact HB.out)⟩⟩
 case round =>
  clear H'
  try clear c1
  obtain ⟨x3_1, x4_1, rfl, HA, HK1, HO_3, HB⟩ := hrel
  cases gk with
  | zero => exact absurd HA.out (by simp [scarfref18_Labelled.l0])
  | succ k1 =>
   have H := HA.out
   clear HA
   simp only [scarfref18_Labelled.l0] at H
   have HC2 := Aside0.mk H
   clear H
   go_upto_region 3 with (fail)
   go_cut [13] (fun v13 wc => ∃ (kq : Nat) (x13_1 : Bool), v13 = .bool x13_1 ∧ Aside0 (scarfref18_Labelled.j1 kq a0 x3_1 x4_1 x13_1 = some r) ∧ Aside0 (kq ≤ k1) ∧ Aside0 (Kd.R (Kd.int .u8) 5 wc w.heap.size (fun _ => True) u3 x3_1) ∧ Aside0 (Below w.heap.size w wc))
   case first =>
    have H := HC2.out
    clear HC2
    by_cases c3 : x4_1 < (a0.size : Int)
    ·rw [if_pos c3] at H
     have c3b0 : decide (x4_1 < (a0.size : Int)) = true := decide_eq_true c3
     clear c3
     (first | rw [c3b0] | (simp only [i64_w, i32_w]; rw [c3b0]) | skip)
     have H' := Aside0.mk H
     clear H
     go_wp2
     go_meet
     case rel => exact ⟨_, (decide (x4_1 < 200)), (by first | rfl | (simp; done) | (simp [*]; done)), H', ⟨by have := HK1.out; first | omega | exact Nat.le_refl _⟩, ⟨by (with_reducible repeat (first | apply Kd.R_alloc | apply Kd.R_drewN | apply Kd.R_drew)); exact HO_3.out⟩, ⟨by repeat (first | (with_reducible first | exact HB.out | apply below_alloc | apply pw_below_drewN | apply below_drew1) | exact HB.out)⟩⟩
    ·rw [if_neg c3] at H
     have c3b0 : decide (x4_1 < (a0.size : Int)) = false := decide_eq_false c3
     clear c3
     (first | rw [c3b0] | (simp only [i64_w, i32_w]; rw [c3b0]) | skip)
     have H' := Aside0.mk H
     clear H
     go_wp2
     go_meet
     case rel => exact ⟨_, (false), (by first | rfl | (simp; done) | (simp [*]; done)), H', ⟨by have := HK1.out; first | omega | exact Nat.le_refl _⟩, ⟨by (with_reducible repeat (first | apply Kd.R_alloc | apply Kd.R_drewN | apply Kd.R_drew)); exact HO_3.out⟩, ⟨by repeat (first | (with_reducible first | exact HB.out | apply below_alloc | apply pw_below_drewN | apply below_drew1) | exact HB.out)⟩⟩
   case rest =>
    clear HC2
    try clear c1
    try clear p2
    try clear c3
    try clear c3b0
    obtain ⟨kq, x13_1, rfl, HA, HJ1, HO_3, HB⟩ := hcut
    cases kq with
    | zero => exact absurd HA.out (by simp [scarfref18_Labelled.j1])
    | succ kj1 =>
     have H := HA.out
     clear HA
     simp only [scarfref18_Labelled.j1] at H
     by_cases c4 : x13_1 = true
     ·subst c4
      have H1 : (if 0 ≤ x4_1 then (if x4_1 < (a0.size : Int) then (if (bt a0 x4_1) < 32 then (if x3_1.length < 140737488355328 then (scarfref18_Labelled.l0 kj1 a0 (x3_1 ++ [63]) (wrap64 (x4_1 + 1))) else (none)) else (if (bt a0 x4_1) > 126 then (if x3_1.length < 140737488355328 then (scarfref18_Labelled.l0 kj1 a0 (x3_1 ++ [63]) (wrap64 (x4_1 + 1))) else (none)) else (if x3_1.length < 140737488355328 then (scarfref18_Labelled.l0 kj1 a0 (x3_1 ++ [bt a0 x4_1]) (wrap64 (x4_1 + 1))) else (none)))) else (none)) else (none)) = some r := by rw [if_pos rfl] at H; exact H
      clear H
      have H := H1
      clear H1
      by_cases c5 : 0 ≤ x4_1
      ·rw [if_pos c5] at H
       have c5b0 : decide (0 ≤ x4_1) = true := decide_eq_true c5
       clear c5
       by_cases c6 : x4_1 < (a0.size : Int)
       ·rw [if_pos c6] at H
        have c6b0 : decide (x4_1 < (a0.size : Int)) = true := decide_eq_true c6
        clear c6
        by_cases c8 : (bt a0 x4_1) < 32
        ·rw [if_pos c8] at H
         have c8b0 : decide ((bt a0 x4_1) < 32) = true := decide_eq_true c8
         clear c8
         by_cases c9 : x3_1.length < 140737488355328
         ·rw [if_pos c9] at H
          have LMc9 := Aside0.mk c9
          clear c9
          obtain ⟨y131, hy131⟩ : ∃ y_ : List Int, y_ = (x3_1 ++ [63]) := ⟨_, rfl⟩
          replace H : (scarfref18_Labelled.l0 kj1 a0 y131 (wrap64 (x4_1 + 1))) = some r := by first | (rw [hy131]; with_reducible exact H) | (have H2_ := (Option.bind_some _ _).symm.trans H; rw [hy131]; with_reducible exact H2_) | (have H2_ := (Option.bind_some _ _).symm.trans H; with_reducible exact H2_) | with_reducible exact H | (rw [hy131]; exact H) | exact H
          have Ny131 := Aside0.mk hy131
          clear hy131
          have H' := Aside0.mk H
          clear H
          have p7 : 0 ≤ (x4_1 : Int) := of_decide_eq_true (by first | (with_reducible assumption) | assumption)
          have q7 : x4_1 < (a0.size : Int) := of_decide_eq_true (by first | (with_reducible assumption) | assumption)
          have hx7 := bt_at a0 x4_1
          replace p7 := eq_true p7
          replace q7 := eq_true q7
          go_wp2_with (first | ((with_reducible refine gate_builtin (b := .append) (xs := #[.tmp 25, .tmp 27]) rfl ?_); (try (refine gate_guard (by rfl) ?_; dsimp only)); at_builtin; refine Kd.R_append (Kd.int .u8) (w0 := w) w.heap.size rfl (.tmp 25) (.tmp 27) 22 5 (.int .u8 0) 1 rfl Tryd.underlying22 info5 rfl (by decide) (by omega) u3 x3_1 63 [.int .u8 63] (fun _ => True) (fun _ => False) rfl rfl ?aP (fun _ hk => hk.elim) ?aF ?aO ?aB ?aS ?aL ?_; (case aP => exact rfl); (case aB => exact (by repeat (first | (with_reducible first | exact HB.out | apply below_alloc | apply pw_below_drewN | apply below_drew1) | exact HB.out))); (case aF => exact (fun _ _ => trivial)); (case aO => exact (by (with_reducible repeat (first | apply Kd.R_alloc | apply Kd.R_drewN | apply Kd.R_drew)); exact HO_3.out)); (case aS => exact (below_size (by repeat (first | (with_reducible first | exact HB.out | apply below_alloc | apply pw_below_drewN | apply below_drew1) | exact HB.out)))); (case aL => have := LMc9.out; omega); intro v132 w10 ho hb hg hat; rw [← Ny131.out] at ho; have n0_ := Aside0.mk (hb); have n1_ := Aside0.mk (ho); clear HB; clear HO_3; have HB := n0_; have HO133 := n1_; clear n0_ n1_; clear ho hb hg hat))
          go_roundg kj1
          case measure => have := HK1.out; have := HJ1.out; omega
          case rel => exact ⟨(y131), (wrap64 (x4_1 + 1)), (by first | rfl | (simp; done) | (simp [*]; done)), H', ⟨by have := HK1.out; have := HJ1.out; omega⟩, ⟨by (with_reducible repeat (first | apply Kd.R_alloc | apply Kd.R_drewN | apply Kd.R_drew)); exact HO133.out⟩, ⟨by repeat (first | (with_reducible first | exact HB.out | apply below_alloc | apply pw_below_drewN | apply below_drew1) | exact HB.out)⟩⟩
         ·rw [if_neg c9] at H
          exact absurd H (by simp)
        ·rw [if_neg c8] at H
         have c8b0 : decide ((bt a0 x4_1) < 32) = false := decide_eq_false c8
         clear c8
         by_cases c11 : (bt a0 x4_1) > 126
         ·rw [if_pos c11] at H
          have c11b0 : decide (126 < (bt a0 x4_1)) = true := decide_eq_true c11
          clear c11
          by_cases c12 : x3_1.length < 140737488355328
          ·rw [if_pos c12] at H
           have LMc12 := Aside0.mk c12
           clear c12
           obtain ⟨y134, hy134⟩ : ∃ y_ : List Int, y_ = (x3_1 ++ [63]) := ⟨_, rfl⟩
           replace H : (scarfref18_Labelled.l0 kj1 a0 y134 (wrap64 (x4_1 + 1))) = some r := by first | (rw [hy134]; with_reducible exact H) | (have H2_ := (Option.bind_some _ _).symm.trans H; rw [hy134]; with_reducible exact H2_) | (have H2_ := (Option.bind_some _ _).symm.trans H; with_reducible exact H2_) | with_reducible exact H | (rw [hy134]; exact H) | exact H
           have Ny134 := Aside0.mk hy134
           clear hy134
           have H' := Aside0.mk H
           clear H
           have p7 : 0 ≤ (x4_1 : Int) := of_decide_eq_true (by first | (with_reducible assumption) | assumption)
           have q7 : x4_1 < (a0.size : Int) := of_decide_eq_true (by first | (with_reducible assumption) | assumption)
           have hx7 := bt_at a0 x4_1
           replace p7 := eq_true p7
           replace q7 := eq_true q7
           go_wp2_with (first | ((with_reducible refine gate_builtin (b := .append) (xs := #[.tmp 25, .tmp 27]) rfl ?_); (try (refine gate_guard (by rfl) ?_; dsimp only)); at_builtin; refine Kd.R_append (Kd.int .u8) (w0 := w) w.heap.size rfl (.tmp 25) (.tmp 27) 22 5 (.int .u8 0) 1 rfl Tryd.underlying22 info5 rfl (by decide) (by omega) u3 x3_1 63 [.int .u8 63] (fun _ => True) (fun _ => False) rfl rfl ?aP (fun _ hk => hk.elim) ?aF ?aO ?aB ?aS ?aL ?_; (case aP => exact rfl); (case aB => exact (by repeat (first | (with_reducible first | exact HB.out | apply below_alloc | apply pw_below_drewN | apply below_drew1) | exact HB.out))); (case aF => exact (fun _ _ => trivial)); (case aO => exact (by (with_reducible repeat (first | apply Kd.R_alloc | apply Kd.R_drewN | apply Kd.R_drew)); exact HO_3.out)); (case aS => exact (below_size (by repeat (first | (with_reducible first | exact HB.out | apply below_alloc | apply pw_below_drewN | apply below_drew1) | exact HB.out)))); (case aL => have := LMc12.out; omega); intro v135 w13 ho hb hg hat; rw [← Ny134.out] at ho; have n0_ := Aside0.mk (hb); have n1_ := Aside0.mk (ho); clear HB; clear HO_3; have HB := n0_; have HO136 := n1_; clear n0_ n1_; clear ho hb hg hat))
           go_roundg kj1
           case measure => have := HK1.out; have := HJ1.out; omega
           case rel => exact ⟨(y134), (wrap64 (x4_1 + 1)), (by first | rfl | (simp; done) | (simp [*]; done)), H', ⟨by have := HK1.out; have := HJ1.out; omega⟩, ⟨by (with_reducible repeat (first | apply Kd.R_alloc | apply Kd.R_drewN | apply Kd.R_drew)); exact HO136.out⟩, ⟨by repeat (first | (with_reducible first | exact HB.out | apply below_alloc | apply pw_below_drewN | apply below_drew1) | exact HB.out)⟩⟩
          ·rw [if_neg c12] at H
           exact absurd H (by simp)
         ·rw [if_neg c11] at H
          have c11b0 : decide (126 < (bt a0 x4_1)) = false := decide_eq_false c11
          clear c11
          by_cases c14 : x3_1.length < 140737488355328
          ·rw [if_pos c14] at H
           have LMc14 := Aside0.mk c14
           clear c14
           obtain ⟨y137, hy137⟩ : ∃ y_ : List Int, y_ = (x3_1 ++ [bt a0 x4_1]) := ⟨_, rfl⟩
           replace H : (scarfref18_Labelled.l0 kj1 a0 y137 (wrap64 (x4_1 + 1))) = some r := by first | (rw [hy137]; with_reducible exact H) | (have H2_ := (Option.bind_some _ _).symm.trans H; rw [hy137]; with_reducible exact H2_) | (have H2_ := (Option.bind_some _ _).symm.trans H; with_reducible exact H2_) | with_reducible exact H | (rw [hy137]; exact H) | exact H
           have Ny137 := Aside0.mk hy137
           clear hy137
           have H' := Aside0.mk H
           clear H
           have p7 : 0 ≤ (x4_1 : Int) := of_decide_eq_true (by first | (with_reducible assumption) | assumption)
           have q7 : x4_1 < (a0.size : Int) := of_decide_eq_true (by first | (with_reducible assumption) | assumption)
           have hx7 := bt_at a0 x4_1
           replace p7 := eq_true p7
           replace q7 := eq_true q7
           go_wp2_with (first | ((with_reducible refine gate_builtin (b := .append) (xs := #[.tmp 25, .tmp 27]) rfl ?_); (try (refine gate_guard (by rfl) ?_; dsimp only)); at_builtin; refine Kd.R_append (Kd.int .u8) (w0 := w) w.heap.size rfl (.tmp 25) (.tmp 27) 22 5 (.int .u8 0) 1 rfl Tryd.underlying22 info5 rfl (by decide) (by omega) u3 x3_1 (bt a0 x4_1) [.int .u8 (bt a0 x4_1)] (fun _ => True) (fun _ => False) rfl rfl ?aP (fun _ hk => hk.elim) ?aF ?aO ?aB ?aS ?aL ?_; (case aP => exact rfl); (case aB => exact (by repeat (first | (with_reducible first | exact HB.out | apply below_alloc | apply pw_below_drewN | apply below_drew1) | exact HB.out))); (case aF => exact (fun _ _ => trivial)); (case aO => exact (by (with_reducible repeat (first | apply Kd.R_alloc | apply Kd.R_drewN | apply Kd.R_drew)); exact HO_3.out)); (case aS => exact (below_size (by repeat (first | (with_reducible first | exact HB.out | apply below_alloc | apply pw_below_drewN | apply below_drew1) | exact HB.out)))); (case aL => have := LMc14.out; omega); intro v138 w15 ho hb hg hat; rw [← Ny137.out] at ho; have n0_ := Aside0.mk (hb); have n1_ := Aside0.mk (ho); clear HB; clear HO_3; have HB := n0_; have HO139 := n1_; clear n0_ n1_; clear ho hb hg hat))
           go_roundg kj1
           case measure => have := HK1.out; have := HJ1.out; omega
           case rel => exact ⟨(y137), (wrap64 (x4_1 + 1)), (by first | rfl | (simp; done) | (simp [*]; done)), H', ⟨by have := HK1.out; have := HJ1.out; omega⟩, ⟨by (with_reducible repeat (first | apply Kd.R_alloc | apply Kd.R_drewN | apply Kd.R_drew)); exact HO139.out⟩, ⟨by repeat (first | (with_reducible first | exact HB.out | apply below_alloc | apply pw_below_drewN | apply below_drew1) | exact HB.out)⟩⟩
          ·rw [if_neg c14] at H
           exact absurd H (by simp)
       ·rw [if_neg c6] at H
        exact absurd H (by simp)
      ·rw [if_neg c5] at H
       exact absurd H (by simp)
     ·replace c4 := Bool.eq_false_iff.mpr c4
      subst c4
      have H1 : (scarfref18_Labelled.l1 kj1 x3_1) = some r := by rw [if_neg (show ¬ (false = true) by decide)] at H; exact H
      clear H
      have H := H1
      clear H1
      have H' := Aside0.mk H
      clear H
      go_wp2
      go_loopg [3] kj1 (fun kq v3 w' => ∃ (x3_3 : List Int), Aside0 (scarfref18_Labelled.l1 kq x3_3 = some r) ∧ Aside0 (kq ≤ kj1) ∧ Aside0 (Kd.R (Kd.int .u8) 5 w' w.heap.size (fun _ => True) v3 x3_3) ∧ Aside0 (Below w.heap.size w w'))
      case atStart => exact ⟨(x3_1), H', ⟨Nat.le_refl _⟩, ⟨by (with_reducible repeat (first | apply Kd.R_alloc | apply Kd.R_drewN | apply Kd.R_drew)); exact HO_3.out⟩, ⟨by repeat (first | (with_reducible first | exact HB.out | apply below_alloc | apply pw_below_drewN | apply below_drew1) | exact HB.out)⟩⟩
      case round =>
       clear H'
       try clear c1
       try clear p2
       try clear c3
       try clear c3b0
       try clear c4
       try clear c5
       try clear c5b0
       try clear c6
       try clear c6b0
       try clear p6
       try clear p7
       try clear q7
       try clear hx7
       try clear c8
       try clear c8b0
       try clear c9
       try clear c11
       try clear c11b0
       try clear c12
       try clear c14
       try clear c15
       try clear p2
       try clear p7
       try clear q7
       obtain ⟨x3_3, HA, HK3, HO_3, HB⟩ := hrel
       cases gk with
       | zero => exact absurd HA.out (by simp [scarfref18_Labelled.l1])
       | succ k3 =>
        have H := HA.out
        clear HA
        simp only [scarfref18_Labelled.l1] at H
        by_cases c16 : (x3_3.length : Int) > 0
        ·rw [if_pos c16] at H
         have c16b0 : decide (0 < (x3_3.length : Int)) = true := decide_eq_true c16
         have c16b1 : decide (0 < x3_3.length) = true := decide_eq_true (by omega)
         clear c16
         obtain ⟨ji17, hji17⟩ : ∃ j_ : Int, (wrap64 ((x3_3.length : Int) - 1)) = j_ := ⟨_, rfl⟩
         replace H : (if 0 ≤ (ji17) then (if (ji17) < (x3_3.length : Int) then (if (rd x3_3 (ji17)) = 32 then (if (ji17) ≤ (x3_3.length : Int) then (scarfref18_Labelled.l1 k3 (x3_3.take ((ji17) : Int).toNat)) else (none)) else (some (strOfNums x3_3))) else (none)) else (none)) = some r := by first | (rw [hji17] at H; exact H) | (simp only [hji17] at H ⊢; exact H)
         have hji17w : (IntKind.i64.wrap ((x3_3.length : Int) - 1)) = ji17 := (i64_w _).trans hji17
         by_cases c18 : 0 ≤ (ji17)
         ·rw [if_pos c18] at H
          have c18b0 : decide (0 ≤ (ji17)) = true := decide_eq_true c18
          clear c18
          by_cases c19 : (ji17) < (x3_3.length : Int)
          ·rw [if_pos c19] at H
           have c19b0 : decide ((ji17) < (x3_3.length : Int)) = true := decide_eq_true c19
           clear c19
           by_cases c20 : (rd x3_3 (ji17)) = 32
           ·rw [if_pos c20] at H
            have c20b0 : ((rd x3_3 (ji17)) == 32) = true := beq_iff_eq.mpr c20
            have c20b1 : ((rd x3_3 (ji17)) != 32) = false := bne_eq_false_iff_eq.mpr c20
            clear c20
            by_cases c21 : (ji17) ≤ (x3_3.length : Int)
            ·rw [if_pos c21] at H
             have c21b0 := eq_true c21
             have c21b1 : decide ((ji17) ≤ (x3_3.length : Int)) = true := decide_eq_true c21
             clear c21
             obtain ⟨y141, hy141⟩ : ∃ y_ : List Int, y_ = (x3_3.take ((ji17) : Int).toNat) := ⟨_, rfl⟩
             replace H : (scarfref18_Labelled.l1 k3 y141) = some r := by first | (rw [hy141]; with_reducible exact H) | (have H2_ := (Option.bind_some _ _).symm.trans H; rw [hy141]; with_reducible exact H2_) | (have H2_ := (Option.bind_some _ _).symm.trans H; with_reducible exact H2_) | with_reducible exact H | (rw [hy141]; exact H) | exact H
             have Ny141 := Aside0.mk hy141
             clear hy141
             have H' := Aside0.mk H
             clear H
             obtain ⟨Ao22, co22, eo22⟩ := Kd.R_slice HO_3.out
             subst eo22
             have p140 : 0 ≤ ((ji17) : Int) := of_decide_eq_true (by first | (with_reducible assumption) | assumption)
             have q140 : (ji17) < (x3_3.length : Int) := of_decide_eq_true (by first | (with_reducible assumption) | assumption)
             obtain ⟨ad140, e140, hx140_0⟩ := Kd.at_int (Kd.R_reads' HO_3.out).2.2 (ji17) p140 q140
             cases e140
             replace p140 := eq_true p140
             replace q140 := eq_true q140
             have q23 : ((ji17) : Int) ≤ ((x3_3.length : Int) : Int) := of_decide_eq_true (by first | (with_reducible assumption) | assumption)
             obtain ⟨i023, hi023, _, hsz23, _⟩ := info_parts info5
             have hcut23 := cut_to (P := Tryd.prog) 22 5 .i64 Tryd.underlying22 hi023 (some ad140) x3_3.length co22 (ji17) (of_decide_eq_true (by first | (with_reducible assumption) | assumption)) q23 (Kd.R_reads' HO_3.out).2.1
             have hr23 := Kd.R_take (m := ((ji17) : Int).toNat) HO_3.out (by omega)
             have hy23 : y141.length = ((ji17) : Int).toNat := (by rw [Ny141.out, List.length_take]; omega)
             rw [← Ny141.out] at hr23
             rw [← hy23] at hr23 hcut23
             clear hy23 hi023 hsz23 HO_3
             have HO143 := Aside0.mk hr23
             clear hr23
             replace q23 := eq_true q23
             go_wp2
             go_roundg k3
             case measure => have := HK1.out; have := HJ1.out; have := HK3.out; omega
             case rel => exact ⟨(y141), H', ⟨by have := HK1.out; have := HJ1.out; have := HK3.out; omega⟩, ⟨by (with_reducible repeat (first | apply Kd.R_alloc | apply Kd.R_drewN | apply Kd.R_drew)); exact HO143.out⟩, ⟨by repeat (first | (with_reducible first | exact HB.out | apply below_alloc | apply pw_below_drewN | apply below_drew1) | exact HB.out)⟩⟩
            ·rw [if_neg c21] at H
             exact absurd H (by simp)
           ·rw [if_neg c20] at H
            have c20b0 : ((rd x3_3 (ji17)) == 32) = false := beq_eq_false_iff_ne.mpr c20
            have c20b1 : ((rd x3_3 (ji17)) != 32) = true := bne_iff_ne.mpr c20
            obtain rfl := Option.some.inj H
            obtain ⟨Ao24, co24, eo24⟩ := Kd.R_slice HO_3.out
            subst eo24
            have p140 : 0 ≤ ((ji17) : Int) := of_decide_eq_true (by first | (with_reducible assumption) | assumption)
            have q140 : (ji17) < (x3_3.length : Int) := of_decide_eq_true (by first | (with_reducible assumption) | assumption)
            obtain ⟨ad140, e140, hx140_0⟩ := Kd.at_int (Kd.R_reads' HO_3.out).2.2 (ji17) p140 q140
            cases e140
            replace p140 := eq_true p140
            replace q140 := eq_true q140
            have hcv25 := own_string (P := Tryd.prog) Tryd.underlying22 Tryd.underlying5 Tryd.underlying9 (Kd.own_of_R HO_3.out)
            go_wp2
            go_ret
            exact ⟨by first | rfl | (simp [errW_none, errW_some] <;> rfl) | (simp only [← hji17]; first | rfl | (simp [errW_none, errW_some] <;> rfl)) | (simp [*, errW_none, errW_some] <;> rfl), by repeat (first | (with_reducible first | exact HB.out | apply below_alloc | apply pw_below_drewN | apply below_drew1) | exact HB.out)⟩
          ·rw [if_neg c19] at H
           exact absurd H (by simp)
         ·rw [if_neg c18] at H
          exact absurd H (by simp)
        ·rw [if_neg c16] at H
         have c16b0 : decide (0 < (x3_3.length : Int)) = false := decide_eq_false c16
         have c16b1 : decide (0 < x3_3.length) = false := decide_eq_false (by omega)
         clear c16
         obtain rfl := Option.some.inj H
         obtain ⟨Ao26, co26, eo26⟩ := Kd.R_slice HO_3.out
         subst eo26
         have hcv27 := own_string (P := Tryd.prog) Tryd.underlying22 Tryd.underlying5 Tryd.underlying9 (Kd.own_of_R HO_3.out)
         go_wp2
         go_ret
         exact ⟨by first | rfl | (simp [errW_none, errW_some] <;> rfl) | (simp [*, errW_none, errW_some] <;> rfl), by repeat (first | (with_reducible first | exact HB.out | apply below_alloc | apply pw_below_drewN | apply below_drew1) | exact HB.out)⟩
/-! ### strings_IndexByte: function 48 -/
def strings_IndexByte.f (a0 : ByteArray) (a1 : Int) : Option (Int) := some (Lib.indexByte a0.data.toList (Int.toNat a1).toUInt8)
set_option maxHeartbeats 8000000 in
set_option maxRecDepth 100000 in
theorem strings_IndexByte.calls (a0 : ByteArray) (a1 : Int) (r : Int) (w : World) (h : strings_IndexByte.f a0 a1 = some r) :
  Calls Tryd.prog 48 #[.string a0, .int .u8 a1] w fun e w' => e = .returned (.int .i64 r) ∧ Below w.heap.size w w' := by
 exact Q.ibs_given a0 a1 r w h
/-! ### mark_signs: function 31 -/
mutual
def mark_signs.j0 : Nat → List Int → Bool → Option (Int × Int)
 | 0, _, _ => none
 | k + 1, x0, x14 => if x14 = true then (some (0, 0)) else (mark_signs.l0 k x0 0)
def mark_signs.l0 : Nat → List Int → Int → Option (Int × Int)
 | 0, _, _ => none
 | k + 1, x0, x4 => if x4 < (x0.length : Int) then (if 0 ≤ x4 then (if 0 < (x0.length : Int) then (if (rd x0 x4) = (rd x0 0) then (mark_signs.l0 k x0 (wrap64 (x4 + 1))) else (some (x4, rd x0 0))) else (none)) else (none)) else (if 0 < (x0.length : Int) then (some (x4, rd x0 0)) else (none))
end
def mark_signs.f (k : Nat) (l0 : List Int) : Option (Int × Int) := if (l0.length : Int) = 0 then (mark_signs.j0 k l0 true) else (if 0 < (l0.length : Int) then ((strings_IndexByte.f (⟨#[60, 124, 61, 62]⟩ : ByteArray) (rd l0 0)).bind fun t145 => (mark_signs.j0 k l0 (decide (t145 < 0)))) else (none))
theorem mark_signs.mono_l : ∀ k, (∀ y0 y1, LeO (mark_signs.j0 k y0 y1) (mark_signs.j0 (k + 1) y0 y1)) ∧ (∀ y0 y1, LeO (mark_signs.l0 k y0 y1) (mark_signs.l0 (k + 1) y0 y1))
 | 0 => ⟨fun _ _ r h => by simp [mark_signs.j0] at h, fun _ _ r h => by simp [mark_signs.l0] at h⟩
 | k + 1 => by
  obtain ⟨ih0, ih1⟩ := mark_signs.mono_l k
  refine ⟨?_, ?_⟩
  ·intro y0 y1
   unfold mark_signs.j0
   repeat' first
   | (with_reducible exact ih0 _ _)
   | (with_reducible exact ih1 _ _)
   | (with_reducible exact LeO.refl _)
   | (with_reducible exact LeO.none _)
   | (with_reducible refine LeO.ite ?_ ?_)
   | (with_reducible refine LeO.bind ?_ (fun _ => ?_))
   | exact ih0 _ _
   | exact ih1 _ _
   | exact LeO.none _
   | refine LeO.ite ?_ ?_
   | refine LeO.bind ?_ (fun _ => ?_)
  ·intro y0 y1
   unfold mark_signs.l0
   repeat' first
   | (with_reducible exact ih0 _ _)
   | (with_reducible exact ih1 _ _)
   | (with_reducible exact LeO.refl _)
   | (with_reducible exact LeO.none _)
   | (with_reducible refine LeO.ite ?_ ?_)
   | (with_reducible refine LeO.bind ?_ (fun _ => ?_))
   | exact ih0 _ _
   | exact ih1 _ _
   | exact LeO.none _
   | refine LeO.ite ?_ ?_
   | refine LeO.bind ?_ (fun _ => ?_)
theorem mark_signs.mono : ∀ a0 k, LeO (mark_signs.f k a0) (mark_signs.f (k + 1) a0) := by
 intro a0 k
 obtain ⟨ih0, ih1⟩ := mark_signs.mono_l k
 unfold mark_signs.f
 repeat' first
   | (with_reducible exact ih0 _ _)
   | (with_reducible exact ih1 _ _)
   | (with_reducible exact LeO.refl _)
   | (with_reducible exact LeO.none _)
   | (with_reducible refine LeO.ite ?_ ?_)
   | (with_reducible refine LeO.bind ?_ (fun _ => ?_))
   | exact ih0 _ _
   | exact ih1 _ _
   | exact LeO.none _
   | refine LeO.ite ?_ ?_
   | refine LeO.bind ?_ (fun _ => ?_)
set_option maxHeartbeats 8000000 in
set_option maxRecDepth 100000 in
theorem mark_signs.calls (k : Nat) (A0 : Option Addr) (c0 : Nat) (l0 : List Int) (r1 : Int) (r2 : Int) (w : World) (hr0 : Kd.C (Kd.int .u8) w A0 l0.length l0) (hc0 : l0.length ≤ c0) (h : mark_signs.f k l0 = some (r1, r2)) :
  Calls Tryd.prog 31 #[.slice A0 l0.length c0] w fun e w' => e = .returned (.tuple #[.int .i64 r1, .int .u8 r2]) ∧ Below w.heap.size w w' := by
 have HR0 := Aside0.mk hr0
 have HC0 := Aside0.mk hc0
 clear hr0 hc0
 have HB := Aside0.mk (Below.refl w.heap.size w)
 have H : (if (l0.length : Int) = 0 then (mark_signs.j0 k l0 true) else (if 0 < (l0.length : Int) then ((strings_IndexByte.f (⟨#[60, 124, 61, 62]⟩ : ByteArray) (rd l0 0)).bind fun t145 => (mark_signs.j0 k l0 (decide (t145 < 0)))) else (none))) = some (r1, r2) := h
 clear h
 have HC2 := Aside0.mk H
 clear H
 go_enter Tryd.func31, Tryd.ntmps31
 go_upto_region 1 with (fail)
 repeat (go_quiet (fail); go_upto_region 1 with (fail))
 go_cut [14] (fun v14 wc => ∃ (kq : Nat) (x14_1 : Bool), v14 = .bool x14_1 ∧ Aside0 (mark_signs.j0 kq l0 x14_1 = some (r1, r2)) ∧ Aside0 (kq ≤ k) ∧ Aside0 (Below w.heap.size w wc))
 case first =>
  have H := HC2.out
  clear HC2
  by_cases c3 : (l0.length : Int) = 0
  ·rw [if_pos c3] at H
   have c3b0 : ((l0.length : Int) == 0) = true := beq_iff_eq.mpr c3
   have c3b1 : ((l0.length : Int) != 0) = false := bne_eq_false_iff_eq.mpr c3
   clear c3
   (first | rw [c3b0] | (simp only [i64_w, i32_w]; rw [c3b0]) | skip)
   have H' := Aside0.mk H
   clear H
   go_wp2
   repeat (go_quiet (fail); try go_wp2)
   go_meet
   case rel => exact ⟨_, (true), (by first | rfl | (simp; done) | (simp [*]; done)), H', ⟨by first | omega | exact Nat.le_refl _⟩, ⟨by repeat (first | (with_reducible first | exact HB.out | apply below_alloc | apply pw_below_drewN | apply below_drew1) | exact HB.out)⟩⟩
  ·rw [if_neg c3] at H
   have c3b0 : ((l0.length : Int) == 0) = false := beq_eq_false_iff_ne.mpr c3
   have c3b1 : ((l0.length : Int) != 0) = true := bne_iff_ne.mpr c3
   have c3b2 : ¬ (l0 = []) := fun h_ => c3 (by rw [h_]; rfl)
   (first | rw [c3b0] | (simp only [i64_w, i32_w]; rw [c3b0]) | skip)
   by_cases c4 : 0 < (l0.length : Int)
   ·rw [if_pos c4] at H
    have c4b0 : decide (0 < (l0.length : Int)) = true := decide_eq_true c4
    have c4b1 : decide (0 < l0.length) = true := decide_eq_true (by omega)
    clear c4
    replace H := Option.bind_eq_some_iff.mp H
    obtain ⟨t145, A50, H⟩ := H
    replace H : (mark_signs.j0 k l0 (decide (t145 < 0))) = some (r1, r2) := H
    have A5 := Aside0.mk A50
    clear A50
    have H' := Aside0.mk H
    clear H
    have p144 : 0 ≤ (0 : Int) := (by omega)
    have q144 : 0 < (l0.length : Int) := of_decide_eq_true (by first | (with_reducible assumption) | assumption)
    obtain ⟨ad144, e144, hx144_0⟩ := Kd.at_int HR0.out 0 p144 q144
    cases e144
    have qi144 : (0 < l0.length) = True := eq_true (by omega)
    (try rw [show ((0 : Int)).toNat = 0 from rfl] at hx144_0)
    (try rw [Addr.add_zero'] at hx144_0)
    replace hx144_0 := (HB.out.cell (World.block_lt_of_cell? w _ hx144_0)).trans hx144_0
    replace p144 := eq_true p144
    replace q144 := eq_true q144
    go_wp2_with (first | (go_at_call 48; (with_reducible refine (strings_IndexByte.calls (⟨#[60, 124, 61, 62]⟩ : ByteArray) (rd l0 0) t145 _ A5.out).mono ?_); rintro e w6 ⟨rfl, hb⟩; have n0_ := Aside0.mk (below_step (by repeat (first | (with_reducible first | exact HB.out | apply below_alloc | apply pw_below_drewN | apply below_drew1) | exact HB.out)) hb); clear HB; have HB := n0_; clear n0_; (try clear hb); (try clear hb2); (try clear hk); (try clear hi)))
    repeat (go_quiet (first | (go_at_call 48; (with_reducible refine (strings_IndexByte.calls (⟨#[60, 124, 61, 62]⟩ : ByteArray) (rd l0 0) t145 _ A5.out).mono ?_); rintro e w6 ⟨rfl, hb⟩; have n0_ := Aside0.mk (below_step (by repeat (first | (with_reducible first | exact HB.out | apply below_alloc | apply pw_below_drewN | apply below_drew1) | exact HB.out)) hb); clear HB; have HB := n0_; clear n0_; (try clear hb); (try clear hb2); (try clear hk); (try clear hi))); try go_wp2_with (first | (go_at_call 48; (with_reducible refine (strings_IndexByte.calls (⟨#[60, 124, 61, 62]⟩ : ByteArray) (rd l0 0) t145 _ A5.out).mono ?_); rintro e w6 ⟨rfl, hb⟩; have n0_ := Aside0.mk (below_step (by repeat (first | (with_reducible first | exact HB.out | apply below_alloc | apply pw_below_drewN | apply below_drew1) | exact HB.out)) hb); clear HB; have HB := n0_; clear n0_; (try clear hb); (try clear hb2); (try clear hk); (try clear hi))))
    go_meet
    case rel => exact ⟨_, (decide (t145 < 0)), (by first | rfl | (simp; done) | (simp [*]; done)), H', ⟨by first | omega | exact Nat.le_refl _⟩, ⟨by repeat (first | (with_reducible first | exact HB.out | apply below_alloc | apply pw_below_drewN | apply below_drew1) | exact HB.out)⟩⟩
   ·rw [if_neg c4] at H
    exact absurd H (by simp)
 case rest =>
  clear HC2
  try clear p1
  try clear q1
  try clear hx1
  try clear qi1
  try clear p2
  try clear c3
  try clear c3b0
  try clear c3b1
  try clear c3b2
  try clear c4
  try clear c4b0
  try clear c4b1
  try clear hx144_0
  try clear p144
  try clear q144
  obtain ⟨kq, x14_1, rfl, HA, HJ1, HB⟩ := hcut
  cases kq with
  | zero => exact absurd HA.out (by simp [mark_signs.j0])
  | succ kj1 =>
   have H := HA.out
   clear HA
   simp only [mark_signs.j0] at H
   by_cases c7 : x14_1 = true
   ·subst c7
    have H1 : (some (0, 0)) = some (r1, r2) := by rw [if_pos rfl] at H; exact H
    clear H
    have H := H1
    clear H1
    simp only [Option.some.injEq, Prod.mk.injEq] at H
    obtain ⟨rfl, rfl⟩ := H
    go_wp2
    repeat (go_quiet (fail); try go_wp2)
    go_ret2
    exact ⟨by first | rfl | (simp [errW_none, errW_some] <;> rfl) | (simp [*, errW_none, errW_some] <;> rfl), by repeat (first | (with_reducible first | exact HB.out | apply below_alloc | apply pw_below_drewN | apply below_drew1) | exact HB.out)⟩
   ·replace c7 := Bool.eq_false_iff.mpr c7
    subst c7
    have H1 : (mark_signs.l0 kj1 l0 0) = some (r1, r2) := by rw [if_neg (show ¬ (false = true) by decide)] at H; exact H
    clear H
    have H := H1
    clear H1
    have H' := Aside0.mk H
    clear H
    go_wp2
    repeat (go_quiet (fail); try go_wp2)
    go_loopg [4] kj1 (fun kq v4 w' => ∃ (x4_2 : Int), v4 = .int .i64 x4_2 ∧ Aside0 (mark_signs.l0 kq l0 x4_2 = some (r1, r2)) ∧ Aside0 (kq ≤ kj1) ∧ Aside0 (Below w.heap.size w w'))
    case atStart => exact ⟨(0), (by first | rfl | (simp; done) | (simp [*]; done)), H', ⟨Nat.le_refl _⟩, ⟨by repeat (first | (with_reducible first | exact HB.out | apply below_alloc | apply pw_below_drewN | apply below_drew1) | exact HB.out)⟩⟩
    case round =>
     clear H'
     try clear p1
     try clear q1
     try clear hx1
     try clear qi1
     try clear p2
     try clear c3
     try clear c3b0
     try clear c3b1
     try clear c3b2
     try clear c4
     try clear c4b0
     try clear c4b1
     try clear c7
     try clear hx144_0
     try clear p1
     try clear p144
     try clear p2
     try clear q1
     try clear q144
     obtain ⟨x4_2, rfl, HA, HK2, HB⟩ := hrel
     cases gk with
     | zero => exact absurd HA.out (by simp [mark_signs.l0])
     | succ k2 =>
      have H := HA.out
      clear HA
      simp only [mark_signs.l0] at H
      by_cases c8 : x4_2 < (l0.length : Int)
      ·rw [if_pos c8] at H
       have c8b0 : decide (x4_2 < (l0.length : Int)) = true := decide_eq_true c8
       clear c8
       by_cases c9 : 0 ≤ x4_2
       ·rw [if_pos c9] at H
        have c9b0 : decide (0 ≤ x4_2) = true := decide_eq_true c9
        clear c9
        by_cases c10 : 0 < (l0.length : Int)
        ·rw [if_pos c10] at H
         have c10b0 : decide (0 < (l0.length : Int)) = true := decide_eq_true c10
         have c10b1 : decide (0 < l0.length) = true := decide_eq_true (by omega)
         clear c10
         by_cases c11 : (rd l0 x4_2) = (rd l0 0)
         ·rw [if_pos c11] at H
          have c11b0 : ((rd l0 x4_2) == (rd l0 0)) = true := beq_iff_eq.mpr c11
          have c11b1 : ((rd l0 x4_2) != (rd l0 0)) = false := bne_eq_false_iff_eq.mpr c11
          clear c11
          have H' := Aside0.mk H
          clear H
          have p146 : 0 ≤ (x4_2 : Int) := of_decide_eq_true (by first | (with_reducible assumption) | assumption)
          have q146 : x4_2 < (l0.length : Int) := of_decide_eq_true (by first | (with_reducible assumption) | assumption)
          obtain ⟨ad146, e146, hx146_0⟩ := Kd.at_int HR0.out x4_2 p146 q146
          cases e146
          replace hx146_0 := (HB.out.cell (World.block_lt_of_cell? w _ hx146_0)).trans hx146_0
          replace p146 := eq_true p146
          replace q146 := eq_true q146
          have p147 : 0 ≤ (0 : Int) := (by omega)
          have q147 : 0 < (l0.length : Int) := of_decide_eq_true (by first | (with_reducible assumption) | assumption)
          obtain ⟨ad147, e147, hx147_0⟩ := Kd.at_int HR0.out 0 p147 q147
          obtain rfl : ad146 = ad147 := (by injection e147)
          have qi147 : (0 < l0.length) = True := eq_true (by omega)
          (try rw [show ((0 : Int)).toNat = 0 from rfl] at hx147_0)
          (try rw [Addr.add_zero'] at hx147_0)
          replace hx147_0 := (HB.out.cell (World.block_lt_of_cell? w _ hx147_0)).trans hx147_0
          replace p147 := eq_true p147
          replace q147 := eq_true q147
          go_wp2
          repeat (go_quiet (fail); try go_wp2)
          go_roundg k2
          case measure => have := HJ1.out; have := HK2.out; omega
          case rel => exact ⟨(wrap64 (x4_2 + 1)), (by first | rfl | (simp; done) | (simp [*]; done)), H', ⟨by have := HJ1.out; have := HK2.out; omega⟩, ⟨by repeat (first | (with_reducible first | exact HB.out | apply below_alloc | apply pw_below_drewN | apply below_drew1) | exact HB.out)⟩⟩
         ·rw [if_neg c11] at H
          have c11b0 : ((rd l0 x4_2) == (rd l0 0)) = false := beq_eq_false_iff_ne.mpr c11
          have c11b1 : ((rd l0 x4_2) != (rd l0 0)) = true := bne_iff_ne.mpr c11
          simp only [Option.some.injEq, Prod.mk.injEq] at H
          obtain ⟨rfl, rfl⟩ := H
          have p146 : 0 ≤ (x4_2 : Int) := of_decide_eq_true (by first | (with_reducible assumption) | assumption)
          have q146 : x4_2 < (l0.length : Int) := of_decide_eq_true (by first | (with_reducible assumption) | assumption)
          obtain ⟨ad146, e146, hx146_0⟩ := Kd.at_int HR0.out x4_2 p146 q146
          cases e146
          replace hx146_0 := (HB.out.cell (World.block_lt_of_cell? w _ hx146_0)).trans hx146_0
          replace p146 := eq_true p146
          replace q146 := eq_true q146
          have p147 : 0 ≤ (0 : Int) := (by omega)
          have q147 : 0 < (l0.length : Int) := of_decide_eq_true (by first | (with_reducible assumption) | assumption)
          obtain ⟨ad147, e147, hx147_0⟩ := Kd.at_int HR0.out 0 p147 q147
          obtain rfl : ad146 = ad147 := (by injection e147)
          have qi147 : (0 < l0.length) = True := eq_true (by omega)
          (try rw [show ((0 : Int)).toNat = 0 from rfl] at hx147_0)
          (try rw [Addr.add_zero'] at hx147_0)
          replace hx147_0 := (HB.out.cell (World.block_lt_of_cell? w _ hx147_0)).trans hx147_0
          replace p147 := eq_true p147
          replace q147 := eq_true q147
          have p148 : 0 ≤ (0 : Int) := (by omega)
          have q148 : 0 < (l0.length : Int) := of_decide_eq_true (by first | (with_reducible assumption) | assumption)
          obtain ⟨ad148, e148, hx148_0⟩ := Kd.at_int HR0.out 0 p148 q148
          obtain rfl : ad146 = ad148 := (by injection e148)
          have qi148 : (0 < l0.length) = True := eq_true (by omega)
          (try rw [show ((0 : Int)).toNat = 0 from rfl] at hx148_0)
          (try rw [Addr.add_zero'] at hx148_0)
          replace hx148_0 := (HB.out.cell (World.block_lt_of_cell? w _ hx148_0)).trans hx148_0
          replace p148 := eq_true p148
          replace q148 := eq_true q148
          go_wp2
          repeat (go_quiet (fail); try go_wp2)
          go_ret2
          exact ⟨by first | rfl | (simp [errW_none, errW_some] <;> rfl) | (simp [*, errW_none, errW_some] <;> rfl), by repeat (first | (with_reducible first | exact HB.out | apply below_alloc | apply pw_below_drewN | apply below_drew1) | exact HB.out)⟩
        ·rw [if_neg c10] at H
         exact absurd H (by simp)
       ·rw [if_neg c9] at H
        exact absurd H (by simp)
      ·rw [if_neg c8] at H
       have c8b0 : decide (x4_2 < (l0.length : Int)) = false := decide_eq_false c8
       clear c8
       by_cases c12 : 0 < (l0.length : Int)
       ·rw [if_pos c12] at H
        have c12b0 : decide (0 < (l0.length : Int)) = true := decide_eq_true c12
        have c12b1 : decide (0 < l0.length) = true := decide_eq_true (by omega)
        clear c12
        simp only [Option.some.injEq, Prod.mk.injEq] at H
        obtain ⟨rfl, rfl⟩ := H
        have p149 : 0 ≤ (0 : Int) := (by omega)
        have q149 : 0 < (l0.length : Int) := of_decide_eq_true (by first | (with_reducible assumption) | assumption)
        obtain ⟨ad149, e149, hx149_0⟩ := Kd.at_int HR0.out 0 p149 q149
        cases e149
        have qi149 : (0 < l0.length) = True := eq_true (by omega)
        (try rw [show ((0 : Int)).toNat = 0 from rfl] at hx149_0)
        (try rw [Addr.add_zero'] at hx149_0)
        replace hx149_0 := (HB.out.cell (World.block_lt_of_cell? w _ hx149_0)).trans hx149_0
        replace p149 := eq_true p149
        replace q149 := eq_true q149
        go_wp2
        repeat (go_quiet (fail); try go_wp2)
        go_ret2
        exact ⟨by first | rfl | (simp [errW_none, errW_some] <;> rfl) | (simp [*, errW_none, errW_some] <;> rfl), by repeat (first | (with_reducible first | exact HB.out | apply below_alloc | apply pw_below_drewN | apply below_drew1) | exact HB.out)⟩
       ·rw [if_neg c12] at H
        exact absurd H (by simp)
end Go.Proofs.YtnnnbeimehfiiaaDoor.Q
/-! Marker lines in plain Lean: what a line begins with; the two ways of telling a marker line's sign. -/
set_option linter.unusedVariables false
set_option linter.unusedSimpArgs false
namespace Go.Proofs.YtnnnbeimehfiiaaDoor.Q
open Go Go.RowKit Go.Proofs.YtnnnbeimehfiiaaDoorW.PrintWords
def sgCh (x : Int) : Bool := x == 60 || x == 124 || x == 61 || x == 62
def rl (c : Int) : List Int → Nat
  | [] => 0
  | x :: r => if x = c then rl c r + 1 else 0
def sgn (l : List Int) : Nat × Int := match l with
  | [] => (0, 0)
  | x :: r => if sgCh x then (rl x (x :: r), x) else (0, 0)
def trimNl (l : List Int) : List Int := if l.getLast? = some 10 then l.dropLast else l
def okTail (r : List Int) (s : Int) : Bool := match r with
  | [] => true
  | y :: _ => y == 32 && s != 61
/-- The sign of a marker line; 0: it is none. -/
def mkOf (n : Nat) (l : List Int) : Int := if (sgn l).1 = n ∧ okTail (trimNl (l.drop n)) (sgn l).2 = true then (sgn l).2 else 0
theorem rl_le (c : Int) : ∀ l : List Int, rl c l ≤ l.length
  | [] => Nat.le_refl _
  | x :: r => by have := rl_le c r; unfold rl; split <;> simp only [List.length_cons] <;> omega
theorem sgn_le (l : List Int) : (sgn l).1 ≤ l.length := by
  unfold sgn
  split
  · exact Nat.zero_le _
  · split
    · exact rl_le _ _
    · exact Nat.zero_le _
theorem sgn_ch {l : List Int} (h : 1 ≤ (sgn l).1) : sgCh (sgn l).2 = true ∧ ∃ r, l = (sgn l).2 :: r := by
  cases l with
  | nil => simp [sgn] at h
  | cons x r =>
    by_cases hx : sgCh x = true
    · have e : sgn (x :: r) = (rl x (x :: r), x) := if_pos hx
      rw [e]; exact ⟨hx, r, rfl⟩
    · have e : sgn (x :: r) = (0, 0) := if_neg hx
      rw [e] at h; simp at h
theorem rd_get {l : List Int} {i : Nat} (h : i < l.length) : rd l (i : Int) = l[i] := by simp [rd, List.getD_eq_getElem?_getD, List.getElem?_eq_getElem h]
theorem w64n {i : Nat} (h : i ≤ 9223372036854775806) : wrap64 ((i : Int) + 1) = ((i + 1 : Nat) : Int) := by unfold wrap64; omega
theorem signs_loop (l : List Int) (hl : l.length ≤ 5000000000) (h0 : 0 < l.length) : ∀ (m i : Nat), l.length - i = m → i ≤ l.length → mark_signs.l0 (m + 1) l (i : Int) = some (((i + rl (rd l 0) (l.drop i) : Nat) : Int), rd l 0)
  | 0, i, hm, hi => by
    have : i = l.length := by omega
    subst this
    simp [mark_signs.l0, rl, h0]
  | m + 1, i, hm, hi => by
    have hlt : i < l.length := by omega
    have ih := signs_loop l hl h0 m (i + 1) (by omega) (by omega)
    unfold mark_signs.l0
    rw [if_pos (by omega), if_pos (by omega), if_pos (by omega), rd_get hlt, w64n (by omega), ih, List.drop_eq_getElem_cons hlt]
    by_cases h : l[i] = rd l 0
    · rw [if_pos h]; simp only [rl, h, if_true]; congr 3; omega
    · rw [if_neg h]; simp [rl, h]
theorem idx_ch : ∀ m : Fin 256, decide (Lib.indexByte [60, 124, 61, 62] (Int.toNat (m.val : Int)).toUInt8 < 0) = !sgCh (m.val : Int) := by decide +kernel
theorem idx_sg {x : Int} (h : byte x) : decide (Lib.indexByte [60, 124, 61, 62] (Int.toNat x).toUInt8 < 0) = !sgCh x := by
  obtain ⟨m, rfl⟩ := Int.eq_ofNat_of_zero_le h.1
  have := h.2
  exact idx_ch ⟨m, by omega⟩
theorem sgn_rl {l : List Int} (h0 : 0 < l.length) (hs : sgCh (rd l 0) = true) : sgn l = (rl (rd l 0) l, rd l 0) := by
  cases l with
  | nil => simp at h0
  | cons x r =>
    have : rd (x :: r) 0 = x := rfl
    rw [this] at hs ⊢
    simp [sgn, hs]
theorem sgn_no {l : List Int} (h0 : 0 < l.length) (hs : sgCh (rd l 0) = false) : sgn l = (0, 0) := by
  cases l with
  | nil => simp at h0
  | cons x r =>
    have : rd (x :: r) 0 = x := rfl
    rw [this] at hs
    simp [sgn, hs]
theorem signs_ev (l : List Int) (hl : l.length ≤ 5000000000) (hb : ∀ x ∈ l, byte x) : ∃ k, mark_signs.f k l = some ((((sgn l).1 : Nat) : Int), (sgn l).2) := by
  by_cases h0 : l.length = 0
  · refine ⟨1, ?_⟩
    obtain rfl := List.length_eq_zero_iff.1 h0
    rfl
  · have hp : 0 < l.length := by omega
    refine ⟨l.length + 1 + 1, ?_⟩
    unfold mark_signs.f
    rw [if_neg (by omega), if_pos (by omega)]
    have hr : byte (rd l 0) := by
      cases l with
      | nil => simp at hp
      | cons x r => exact hb x List.mem_cons_self
    have hix := idx_sg hr
    simp only [strings_IndexByte.f, Option.bind_some]
    change mark_signs.j0 (l.length + 1 + 1) l (decide (Lib.indexByte [60, 124, 61, 62] (Int.toNat (rd l 0)).toUInt8 < 0)) = _
    rw [hix]
    unfold mark_signs.j0
    cases hs : sgCh (rd l 0) with
    | true =>
      rw [sgn_rl hp hs]
      have := signs_loop l hl hp l.length 0 (by omega) (by omega)
      simp only [Bool.not_true, Bool.false_eq_true, if_false]
      simpa using this
    | false => rw [sgn_no hp hs]; rfl
end Go.Proofs.YtnnnbeimehfiiaaDoor.Q
/-! mark.Read in plain Lean; the parts while they are made, as they lie: the last one's rows may be written, the others' are kept. -/
set_option linter.unusedVariables false
set_option linter.unusedSimpArgs false
namespace Go.Proofs.YtnnnbeimehfiiaaDoor.Q
open Go Go.RowKit Go.Proofs.YtnnnbeimehfiiaaDoorW.PrintWords Go.Proofs.YtnnnbeimehfiiaaDoorW.SL
def addText (p : Pt) (x : List Int) : Pt := { p with text := p.text ++ x }
def addSide (p : Pt) : Nat → List Int → Pt
  | 0, x => { p with s0 := p.s0 ++ x }
  | 1, x => { p with s1 := p.s1 ++ x }
  | _, x => { p with s2 := p.s2 ++ x }
def onLast (f : Pt → Pt) : List Pt → List Pt
  | [] => []
  | [p] => [f p]
  | p :: r => p :: onLast f r
/-- One line: the parts and the state behind it; none: the text has no parts. -/
def rdStep (n : Nat) (s : List Pt × Nat) (x : List Int) : Option (List Pt × Nat) :=
  if mkOf n x = 0 then
    if s.2 = 0 then
      match s.1.getLast? with
      | some p => if p.region then some (s.1 ++ [⟨false, x, [], [], []⟩], 0) else some (onLast (addText · x) s.1, 0)
      | none => some ([⟨false, x, [], [], []⟩], 0)
    else some (onLast (addSide · (s.2 - 1) x) s.1, s.2)
  else if mkOf n x = 60 ∧ s.2 = 0 then some (s.1 ++ [⟨true, [], [], [], []⟩], 1)
  else if mkOf n x = 124 ∧ s.2 = 1 ∨ mkOf n x = 61 ∧ s.2 = 2 then some (s.1, s.2 + 1)
  else if mkOf n x = 62 ∧ s.2 = 3 then some (s.1, 0)
  else none
def rdAll (n : Nat) : List (List Int) → List Pt × Nat → Option (List Pt × Nat)
  | [], s => some s
  | x :: r, s => (rdStep n s x).bind (rdAll n r)
def readOf (n : Int) (b : List Int) : List Pt × Int :=
  if n ≥ 1 ∧ n ≤ 16777216 then
    match rdAll n.toNat (linesOf b) ([], 0) with
    | some (ps, st) => if st = 0 then (ps, 0) else ([], 5)
    | none => ([], 5)
  else ([], 1)
theorem onLast_snoc (f : Pt → Pt) : ∀ (fr : List Pt) (p : Pt), onLast f (fr ++ [p]) = fr ++ [f p]
  | [], p => rfl
  | [q], p => rfl
  | q :: r :: fr, p => by
    have ih := onLast_snoc f (r :: fr) p
    simp only [List.cons_append, onLast] at ih ⊢
    rw [ih]
abbrev us8 (xs : List Int) : List Value := xs.map (Value.int .u8)
/-- Parts that are kept, their cells told. -/
def kpF (ps : List Pt) (cells : List Value) : FA :=
  ⟨fun w Z => cells.length = ps.length * 5 ∧ ∀ (j : Nat) (p : Pt), ps[j]? = some p → Kd.FK kP w Z p ((cells.drop (j * 5)).take 5),
   fun h hs hZ => ⟨h.1, fun j p hp => Kd.FK_mono (Kd.FK_step (h.2 j p hp) (fun k hk hl => hs k hk hl)) hZ⟩⟩
section
variable {w0 w w' w1 : World} {Z : Nat → Prop} {l : List Asr} {F : List FA}
/-- The row at the head is kept from now on. -/
theorem Stt.freezeHead {v : Value} {e size n : Nat} {xs : List Value} (S : Stt w0 Z (row v e size n xs :: l) F w) : Stt w0 (fun k => Z k ∨ v.ownBlock = some k) l (ownF v e size n xs :: F) w := by
  obtain ⟨f, ⟨f1, f2, he, hd, ha, hr⟩, hk⟩ := S.st.hs
  refine ⟨⟨S.st.below, fun k hk => ?_, f2, hr, fun k h2 => ⟨(hk k ((he k).2 (.inr h2))).1, fun hz => ?_⟩⟩, fun a hm => ?_, fun k hk => .inl (S.old k hk)⟩
  · rcases hk with hk | hk
    · exact S.st.zlt k hk
    · exact own_lt ha.2 k hk
  · rcases hz with hz | hz
    · exact (hk k ((he k).2 (.inr h2))).2 hz
    · exact hd k ((ha.1 k).2 hz) h2
  · rcases List.mem_cons.1 hm with rfl | hm
    · exact ⟨fun k hk => .inr hk, ha.2⟩
    · exact a.step (S.fr a hm) (fun _ _ _ => rfl) (fun k hk => .inl hk)
theorem ownF_F {v : Value} {xs : List Int} (h : (ownF v 5 1 xs.length (us8 xs)).P w Z) : ∃ A c, v = .slice A xs.length c ∧ xs.length ≤ c ∧ Kd.F B8 w Z A xs.length xs := by
  obtain ⟨hz, ho⟩ := h
  have hR : Kd.R B8 5 w 0 Z v xs := Kd.R_of_own (by simpa [encs] using ho) hz
  obtain ⟨A, c, rfl, hle, _⟩ := Kd.R_reads hR
  exact ⟨A, c, rfl, hle, Kd.R_F hR⟩
end
/-- The parts so far, as they lie. -/
def RdI (w0 : World) (F0 : List FA) (ps : List Pt) (vo : Value) (W : World) : Prop :=
  ∃ (Z : Nat → Prop) (cells : List Value) (vT v0 v1 v2 : Value) (T S0 S1 S2 : List Int) (fr : List Pt) (fc : List Value),
    Stt w0 Z [row vT 5 1 T.length (us8 T), row v0 5 1 S0.length (us8 S0), row v1 5 1 S1.length (us8 S1), row v2 5 1 S2.length (us8 S2), row vo 50 5 ps.length cells] (kpF fr fc :: F0) W ∧
    ((ps = [] ∧ cells = [] ∧ fr = [] ∧ fc = [] ∧ T = [] ∧ S0 = [] ∧ S1 = [] ∧ S2 = []) ∨ ∃ rg, ps = fr ++ [⟨rg, T, S0, S1, S2⟩] ∧ cells = fc ++ [.bool rg, vT, v0, v1, v2])
theorem RdI.start {w0 w : World} {F0 : List FA} {Z : Nat → Prop} (S : Stt w0 Z [] F0 w) : RdI w0 F0 [] (.slice none 0 0) w := by
  refine ⟨Z, [], _, _, _, _, [], [], [], [], [], [], (?_ : Stt w0 Z [row (.slice none 0 0) 5 1 0 [], row (.slice none 0 0) 5 1 0 [], row (.slice none 0 0) 5 1 0 [], row (.slice none 0 0) 5 1 0 [], row (.slice none 0 0) 50 5 0 []] _ w), .inl ⟨rfl, rfl, rfl, rfl, rfl, rfl, rfl, rfl⟩⟩
  have S2 := S.with (((((S.st.row_nil 50 5).row_nil 5 1).row_nil 5 1).row_nil 5 1).row_nil 5 1)
  exact S2.add ⟨rfl, fun j p h => by simp at h⟩
theorem RdI.below {w0 w : World} {F0 : List FA} {ps : List Pt} {vo : Value} (h : RdI w0 F0 ps vo w) : Below w0.heap.size w0 w := by
  obtain ⟨Z, cells, vT, v0, v1, v2, T, S0, S1, S2, fr, fc, S, _⟩ := h
  exact S.below
theorem RdI.fr {w0 w : World} {F0 : List FA} {ps : List Pt} {vo : Value} (h : RdI w0 F0 ps vo w) : ∃ Z : Nat → Prop, ∀ a ∈ F0, a.P w Z := by
  obtain ⟨Z, cells, vT, v0, v1, v2, T, S0, S1, S2, fr, fc, S, _⟩ := h
  exact ⟨Z, fun a ha => S.fr a (List.mem_cons_of_mem _ ha)⟩
/-- A step that makes new blocks alone. -/
theorem RdI.keep {w0 w w' : World} {F0 : List FA} {ps : List Pt} {vo : Value} (h : RdI w0 F0 ps vo w) (hb : Below w.heap.size w w') : RdI w0 F0 ps vo w' := by
  obtain ⟨Z, cells, vT, v0, v1, v2, T, S0, S1, S2, fr, fc, S, hc⟩ := h
  exact ⟨Z, cells, vT, v0, v1, v2, T, S0, S1, S2, fr, fc, S.keep hb, hc⟩
/-- All that was made is kept: the parts, read. -/
theorem RdI.freeze {w0 w : World} {F0 : List FA} {ps : List Pt} {vo : Value} (h : RdI w0 F0 ps vo w) : ∃ (Z : Nat → Prop) (cells : List Value), Stt w0 Z [row vo 50 5 ps.length cells] (kpF ps cells :: F0) w := by
  obtain ⟨Z, cells, vT, v0, v1, v2, T, S0, S1, S2, fr, fc, S, hc⟩ := h
  have S4 := Stt.freezeHead (Stt.freezeHead (Stt.freezeHead (Stt.freezeHead S)))
  refine ⟨_, cells, S4.st, fun a ha => ?_, S4.old⟩
  rcases List.mem_cons.1 ha with rfl | ha
  · rcases hc with ⟨rfl, rfl, _⟩ | ⟨rg, rfl, rfl⟩
    · exact ⟨rfl, fun j p hp => by simp at hp⟩
    · have hk := S4.fr (kpF fr fc) (by simp)
      obtain ⟨A4, c4, rfl, l4, f4⟩ := ownF_F (S4.fr (ownF v2 5 1 S2.length (us8 S2)) (by simp))
      obtain ⟨A3, c3, rfl, l3, f3⟩ := ownF_F (S4.fr (ownF v1 5 1 S1.length (us8 S1)) (by simp))
      obtain ⟨A2, c2, rfl, l2, f2⟩ := ownF_F (S4.fr (ownF v0 5 1 S0.length (us8 S0)) (by simp))
      obtain ⟨A1, c1, rfl, l1, f1⟩ := ownF_F (S4.fr (ownF vT 5 1 T.length (us8 T)) (by simp))
      refine ⟨by simp [hk.1, Nat.add_mul], fun j p hp => ?_⟩
      by_cases hj : j < fr.length
      · rw [List.getElem?_append_left hj] at hp
        have h2 := hk.2 j p hp
        have hle : j * 5 + 5 ≤ fc.length := by have := hk.1; omega
        rw [List.drop_append_of_le_length (by omega), List.take_append_of_le_length (by rw [List.length_drop]; omega)]
        exact h2
      · have hj2 : j = fr.length := by
          have := (List.getElem?_eq_some_iff.1 hp).1
          simp at this; omega
        subst hj2
        simp only [List.getElem?_append_right (Nat.le_refl _), Nat.sub_self, List.getElem?_cons_zero, Option.some.injEq] at hp
        subst hp
        rw [← hk.1, List.drop_left]
        exact kP_mkF w _ ⟨rg, T, S0, S1, S2⟩ ⟨l1, f1⟩ ⟨l2, f2⟩ ⟨l3, f3⟩ ⟨l4, f4⟩
  · exact S4.fr a (by simp [ha])
end Go.Proofs.YtnnnbeimehfiiaaDoor.Q
/-! mark.Read: a part more; a line laid behind a part's row; the end. -/
set_option linter.unusedVariables false
set_option linter.unusedSimpArgs false
namespace Go.Proofs.YtnnnbeimehfiiaaDoor.Q
open Go Go.RowKit Go.Proofs.YtnnnbeimehfiiaaDoorW.PrintWords Go.Proofs.YtnnnbeimehfiiaaDoorW.SL
def fld (p : Pt) : Nat → List Int
  | 0 => p.text
  | 1 => p.s0
  | 2 => p.s1
  | _ => p.s2
def addF (p : Pt) (x : List Int) : Nat → Pt
  | 0 => { p with text := p.text ++ x }
  | 1 => { p with s0 := p.s0 ++ x }
  | 2 => { p with s1 := p.s1 ++ x }
  | _ => { p with s2 := p.s2 ++ x }
theorem own_setN {w : World} {v : Value} {e size n k : Nat} {xs : List Value} (h : w.ownsRow 0 e size v n xs) (hk : k < n * size) (u : Value) : ∃ g cap, v = .slice (some ⟨g, 0, none⟩) n cap ∧ (w.setCell ⟨g, k, none⟩ u).ownsRow 0 e size v n (xs.set k u) ∧ w.grownBy (w.setCell ⟨g, k, none⟩ u) v.ownBlock ∧ (∀ (j : Nat) (t : Value), xs[j]? = some t → w.cell? ⟨g, j, none⟩ = some t) ∧ ∀ j, w.frozen? ⟨g, j, none⟩ = false := by
  obtain ⟨h1, h2⟩ := h
  rcases h2 with ⟨rfl, rfl⟩ | ⟨g, cap, cur, rfl, _, hg, hnc, hcm, hcs, ht⟩
  · omega
  · have hle : n * size ≤ cap * size := Nat.mul_le_mul_right _ hnc
    refine ⟨g, cap, rfl, ⟨by simpa using h1, .inr ⟨g, cap, cur.setIfInBounds k u, rfl, Nat.zero_le _, blk_set hg k u, hnc, hcm, by simpa using hcs, ?_⟩⟩, ⟨rfl, rfl, rfl, by simp [World.setCell], fun q _ hq => Below.heap_setCell w ⟨g, k, none⟩ u q (fun e => hq (by simp [Value.ownBlock, e]))⟩, fun j t hj => ?_, fun j => blk_frozen hg j⟩
    · rw [← ht]
      simp [List.take_set]
    · have hjx : j < n * size := by have := (List.getElem?_eq_some_iff.1 hj).1; omega
      refine (blk_cell hg j).trans ?_
      rw [← ht, List.getElem?_take] at hj
      rw [if_pos hjx] at hj
      simpa using hj
theorem RdI.push {w0 w : World} {F0 : List FA} {ps : List Pt} {vo : Value} (h : RdI w0 F0 ps vo w) (rg : Bool) : ∃ cells, w.ownsRow 0 50 5 vo ps.length cells ∧ ∀ (W' w1 : World) (v1 : Value), Below w.heap.size w W' → w1.ownsRow 0 50 5 v1 (ps.length + 1) (cells ++ [.bool rg, .slice none 0 0, .slice none 0 0, .slice none 0 0, .slice none 0 0]) → W'.grownBy w1 vo.ownBlock → (v1.ownBlock = vo.ownBlock ∨ v1.ownBlock = some W'.heap.size) →
    RdI w0 F0 (ps ++ [⟨rg, [], [], [], []⟩]) v1 w1 := by
  obtain ⟨Z, cells, S⟩ := h.freeze
  refine ⟨cells, S.rowAt 0 rfl, fun W' w1 v1 hb ho hg hat => ?_⟩
  have S1 := (S.keep hb).updRow 0 rfl ho hg (hat.imp id (fun h => ⟨_, h, Nat.le_refl _⟩))
  have S2 := S1.with ((((S1.st.row_nil 5 1).row_nil 5 1).row_nil 5 1).row_nil 5 1)
  exact ⟨Z, _, _, _, _, _, [], [], [], [], ps, cells, by simpa using S2, .inr ⟨rg, rfl, rfl⟩⟩
theorem RdI.app {w0 w : World} {F0 : List FA} {ps : List Pt} {vo : Value} (h : RdI w0 F0 ps vo w) {fr0 : List Pt} {p : Pt} (hps : ps = fr0 ++ [p]) (k : Nat) (hk : k < 4) (x : List Int) :
    ∃ g cap v, vo = .slice (some ⟨g, 0, none⟩) ps.length cap ∧ w.cell? ⟨g, fr0.length * 5, none⟩ = some (.bool p.region) ∧ w.cell? ⟨g, fr0.length * 5 + (k + 1), none⟩ = some v ∧ w.ownsRow 0 5 1 v (fld p k).length (us8 (fld p k)) ∧
      ∀ (w1 : World) (v1 : Value), w1.ownsRow 0 5 1 v1 ((fld p k).length + x.length) (us8 (fld p k) ++ us8 x) → w.grownBy w1 v.ownBlock → (v1.ownBlock = v.ownBlock ∨ v1.ownBlock = some w.heap.size) →
        w1.cell? ⟨g, fr0.length * 5 + (k + 1), none⟩ = some v ∧ w1.frozen? ⟨g, fr0.length * 5 + (k + 1), none⟩ = false ∧ RdI w0 F0 (fr0 ++ [addF p x k]) vo (w1.setCell ⟨g, fr0.length * 5 + (k + 1), none⟩ v1) := by
  obtain ⟨Z, cells, vT, v0, v1, v2, T, S0, S1, S2, fr, fc, S, hc⟩ := h
  rcases hc with ⟨rfl, _⟩ | ⟨rg, hps2, hcells⟩
  · exact absurd hps (by simp)
  · have hfp : fr = fr0 ∧ [(⟨rg, T, S0, S1, S2⟩ : Pt)] = [p] := by
      rw [hps] at hps2
      have h2 := List.append_inj' hps2 rfl
      exact ⟨h2.1.symm, h2.2.symm⟩
    obtain ⟨rfl, hpp⟩ := hfp
    obtain rfl : p = ⟨rg, T, S0, S1, S2⟩ := (List.singleton_inj.1 hpp).symm
    have hfc : fc.length = fr.length * 5 := (S.fr (kpF fr fc) (by simp)).1
    have hn : ps.length = fr.length + 1 := by rw [hps]; simp
    have hrow := S.rowAt 4 rfl
    obtain ⟨g, cap, hvo, _, _, hcl, _⟩ := own_setN hrow (k := fr.length * 5 + (k + 1)) (by rw [hn]; omega) undef
    have hat : ∀ j u, [Value.bool rg, vT, v0, v1, v2][j]? = some u → cells[fr.length * 5 + j]? = some u := fun j u hj => by
      rw [hcells, List.getElem?_append_right (by omega), hfc]
      have : fr.length * 5 + j - fr.length * 5 = j := by omega
      rw [this]; exact hj
    have key : ∀ (v : Value) (xs : List Int) (v' : Value) (w1 : World) (l' : List Asr), [Value.bool rg, vT, v0, v1, v2][k + 1]? = some v →
        Stt w0 Z l' (kpF fr fc :: F0) w1 → l'[4]? = some (row vo 50 5 ps.length cells) → w1.cell? ⟨g, fr.length * 5 + (k + 1), none⟩ = some v ∧ w1.frozen? ⟨g, fr.length * 5 + (k + 1), none⟩ = false ∧
        Stt w0 Z (l'.set 4 (row vo 50 5 ps.length (fc ++ ([Value.bool rg, vT, v0, v1, v2].set (k + 1) v')))) (kpF fr fc :: F0) (w1.setCell ⟨g, fr.length * 5 + (k + 1), none⟩ v') := by
      intro v xs v' w1 l' hv S' hl'
      obtain ⟨g', cap', hvo', ho', hg', hcl', hfz'⟩ := own_setN (S'.rowAt 4 hl') (k := fr.length * 5 + (k + 1)) (by rw [hn]; omega) v'
      have hgg : g' = g := by rw [hvo] at hvo'; injection hvo' with h1; injection h1 with h1; injection h1 with h1; exact h1.symm
      subst hgg
      refine ⟨hcl' _ _ (hat _ _ hv), hfz' _, ?_⟩
      have hs : cells.set (fr.length * 5 + (k + 1)) v' = fc ++ ([Value.bool rg, vT, v0, v1, v2].set (k + 1) v') := by
        rw [hcells, ← hfc, List.set_append_right _ _ (by omega)]
        congr 2; omega
      rw [hs] at ho'
      exact S'.updRow 4 hl' ho' hg' (.inl rfl)
    refine ⟨g, cap, [Value.bool rg, vT, v0, v1, v2].getD (k + 1) undef, hvo, hcl _ _ (hat 0 _ rfl), ?_, ?_, ?_⟩
    · rcases k with _ | _ | _ | _ | k <;> first | exact hcl _ _ (hat _ _ rfl) | omega
    · rcases k with _ | _ | _ | _ | k <;> first | exact S.rowAt 0 rfl | exact S.rowAt 1 rfl | exact S.rowAt 2 rfl | exact S.rowAt 3 rfl | omega
    · intro w1 v' ho hg hat'
      replace hat' := hat'.imp id (fun h => (⟨_, h, Nat.le_refl _⟩ : ∃ b, v'.ownBlock = some b ∧ w.heap.size ≤ b))
      have hps3 : (fr ++ [(⟨rg, T, S0, S1, S2⟩ : Pt)]).length = ps.length := by rw [hps]
      rcases k with _ | _ | _ | _ | k
      · obtain ⟨h1, h2, h3⟩ := key vT T v' w1 _ rfl (S.updRow 0 rfl ho hg hat') rfl
        refine ⟨h1, h2, Z, _, v', v0, v1, v2, T ++ x, S0, S1, S2, fr, fc, ?_, .inr ⟨rg, rfl, rfl⟩⟩
        have e : (fr ++ [addF ⟨rg, T, S0, S1, S2⟩ x 0]).length = ps.length := by rw [hps]; simp
        rw [e, show (T ++ x).length = T.length + x.length from List.length_append, show us8 (T ++ x) = us8 T ++ us8 x from List.map_append]; exact h3
      · obtain ⟨h1, h2, h3⟩ := key v0 S0 v' w1 _ rfl (S.updRow 1 rfl ho hg hat') rfl
        refine ⟨h1, h2, Z, _, vT, v', v1, v2, T, S0 ++ x, S1, S2, fr, fc, ?_, .inr ⟨rg, rfl, rfl⟩⟩
        have e : (fr ++ [addF ⟨rg, T, S0, S1, S2⟩ x 1]).length = ps.length := by rw [hps]; simp
        rw [e, show (S0 ++ x).length = S0.length + x.length from List.length_append, show us8 (S0 ++ x) = us8 S0 ++ us8 x from List.map_append]; exact h3
      · obtain ⟨h1, h2, h3⟩ := key v1 S1 v' w1 _ rfl (S.updRow 2 rfl ho hg hat') rfl
        refine ⟨h1, h2, Z, _, vT, v0, v', v2, T, S0, S1 ++ x, S2, fr, fc, ?_, .inr ⟨rg, rfl, rfl⟩⟩
        have e : (fr ++ [addF ⟨rg, T, S0, S1, S2⟩ x 2]).length = ps.length := by rw [hps]; simp
        rw [e, show (S1 ++ x).length = S1.length + x.length from List.length_append, show us8 (S1 ++ x) = us8 S1 ++ us8 x from List.map_append]; exact h3
      · obtain ⟨h1, h2, h3⟩ := key v2 S2 v' w1 _ rfl (S.updRow 3 rfl ho hg hat') rfl
        refine ⟨h1, h2, Z, _, vT, v0, v1, v', T, S0, S1, S2 ++ x, fr, fc, ?_, .inr ⟨rg, rfl, rfl⟩⟩
        have e : (fr ++ [addF ⟨rg, T, S0, S1, S2⟩ x 3]).length = ps.length := by rw [hps]; simp
        rw [e, show (S2 ++ x).length = S2.length + x.length from List.length_append, show us8 (S2 ++ x) = us8 S2 ++ us8 x from List.map_append]; exact h3
      · omega
/-- The end: the parts, read. -/
theorem RdI.out {w0 w : World} {F0 : List FA} {ps : List Pt} {vo : Value} (h : RdI w0 F0 ps vo w) : ∃ (A : Option Addr) (c : Nat), vo = .slice A ps.length c ∧ ps.length ≤ c ∧ Kd.C kP w A ps.length ps := by
  obtain ⟨Z, cells, S⟩ := h.freeze
  have hk := S.fr (kpF ps cells) (by simp)
  have ho := S.rowAt 0 rfl
  rcases ho.2 with ⟨h1, h2⟩ | ⟨g, cap, cur, h1, _, hg, hnc, hcm, hcs, ht⟩
  · refine ⟨none, 0, by rw [h1, h2], by omega, rfl, by omega, fun hp => by omega⟩
  · refine ⟨_, cap, h1, hnc, rfl, by simp only [maxLen] at hcm; omega, fun hp => ?_⟩
    refine ⟨_, rfl, fun j p hj => ⟨(cells.drop (j * 5)).take 5, ?_, Kd.FK_now (hk.2 j p hj), fun i u hi => ?_⟩⟩
    · have hjl := (List.getElem?_eq_some_iff.1 hj).1
      have := hk.1
      rw [List.length_take, List.length_drop]
      show min 5 _ = 5
      omega
    · rw [List.getElem?_take] at hi
      split at hi
      · rw [List.getElem?_drop] at hi
        exact ho.cells (g := g) (by rw [h1]; rfl) _ _ hi
      · cases hi
end Go.Proofs.YtnnnbeimehfiiaaDoor.Q
/-! scarfref18.is, any; bytes.TrimSuffix at a newline; mark.markerOf: walked. -/
set_option linter.unusedVariables false
set_option linter.unusedSimpArgs false
namespace Go.Proofs.YtnnnbeimehfiiaaDoor.Q
open Go Go.RowKit Go.Proofs.YtnnnbeimehfiiaaDoorW.PrintWords Go.Proofs.YtnnnbeimehfiiaaDoorW.PrintLast Go.Proofs.YtnnnbeimehfiiaaDoorW.PrintMore
attribute [local go_sem] max2_int min2_int max_two min_two max_three min_three max_four min_four
theorem cut_at (A : Option Addr) (c : Nat) (l : List Int) (n : Nat) (hn : n ≤ l.length) (hc : l.length ≤ c) : ∃ A', (∀ W : World, (Instr.slice 22 (.slice A l.length c) (some (.int .i64 (n : Int))) none none).run Tryd.prog W = .ok (.slice A' (l.drop n).length (c - n)) W) ∧
    (∀ w : World, Kd.C B8 w A l.length l → Kd.C B8 w A' (l.drop n).length (l.drop n)) ∧ (l.drop n).length ≤ c - n := by
  obtain ⟨i0, hi, hz0, hz1, hz2⟩ := info_parts inf5
  obtain ⟨A', h1, h2, h3⟩ := print_drop_of (P := Tryd.prog) (Value.int .u8) 0 22 5 .i64 Tryd.underlying22 hi hz1 A c l (n : Int) (by omega) (by omega) hc
  simp only [Int.toNat_natCast] at h1 h2 h3
  exact ⟨A', h1, fun w h => Kd.C_of_reads (h2 w (Kd.reads_of_C (d := 0) h)), h3⟩
theorem take_at (A : Option Addr) (c : Nat) (l : List Int) (j : Int) (h0 : 0 ≤ j) (hj : j ≤ l.length) (hc : l.length ≤ c) : ∀ W : World, (Instr.slice 22 (.slice A l.length c) none (some (.int .i64 j)) none).run Tryd.prog W = .ok (.slice A j.toNat c) W := by
  obtain ⟨i0, hi, hz0, hz1, hz2⟩ := info_parts inf5
  have h := (print_take_int (k := .u8) (P := Tryd.prog) 22 5 Tryd.underlying22 hi hz1 A c l j h0 hj hc).1
  rw [List.length_take, Nat.min_eq_left (by omega)] at h
  exact h
theorem fst_at {w : World} {A : Option Addr} {x : Int} {r : List Int} {n : Nat} (h : Kd.C B8 w A n (x :: r)) (hn : n = r.length + 1) : ∃ ad, A = some ad ∧ w.cell? ad = some (.int .u8 x) := by
  obtain ⟨ad, rfl, hc⟩ := Kd.at_int h 0 (by omega) (by omega)
  exact ⟨ad, rfl, by simpa [Addr.add, rd] using hc⟩
theorem drawn_below {w w' : World} (h : Drawn0 w w') : Below w.heap.size w w' := by
  obtain ⟨⟨n, rfl⟩⟩ := h
  exact pw_below_drewN (Below.refl _ _) n
end Go.Proofs.YtnnnbeimehfiiaaDoor.Q
-- Written by a program of this session (wip/gen_mko.py) for this claim; Lean checks it.
/-! scarfref18.any; bytes.TrimSuffix at a newline; mark.markerOf: walked. -/
set_option linter.unusedVariables false
set_option linter.unusedSimpArgs false
namespace Go.Proofs.YtnnnbeimehfiiaaDoor.Q
open Go Go.RowKit Go.Proofs.YtnnnbeimehfiiaaDoorW.PrintWords Go.Proofs.YtnnnbeimehfiiaaDoorW.PrintLast Go.Proofs.YtnnnbeimehfiiaaDoorW.PrintMore
attribute [local go_sem] max2_int min2_int max_two min_two max_three min_three max_four min_four
theorem toList_inj {a b : ByteArray} : a.toList = b.toList ↔ a = b := by
  rw [Lib.toList_data, Lib.toList_data]
  exact ⟨fun h => ByteArray.ext (Array.ext' h), fun h => by rw [h]⟩
theorem strOf_one {e : Int} (h : byte e) : strOfNums [e] = strOfNums [10] ↔ e = 10 := by
  refine ⟨fun h2 => ?_, fun h => by rw [h]⟩
  have h3 : (UInt8.ofNat e.toNat) = 10 := by
    have := congrArg (fun s => s.data.toList) h2
    simpa [strOfNums_data] using this
  have h4 := byte_eq h
  rw [h3] at h4
  simpa using h4.symm
set_option maxHeartbeats 8000000 in
set_option maxRecDepth 100000 in
theorem equal_calls (A B : Option Addr) (c d : Nat) (l m : List Int) (w : World) (hr : Kd.C B8 w A l.length l) (hs : Kd.C B8 w B m.length m) :
    Calls Tryd.prog 73 #[.slice A l.length c, .slice B m.length d] w fun e w' => e = .returned (.bool ((strOfNums l).toList == (strOfNums m).toList)) ∧ Below w.heap.size w w' := by
  have hcv3 := Kd.C_string (P := Tryd.prog) (A := A) (c := c) Tryd.underlying22 Tryd.underlying5 Tryd.underlying9 hr
  have hcv4 := Kd.C_string (P := Tryd.prog) (A := B) (c := d) Tryd.underlying22 Tryd.underlying5 Tryd.underlying9 hs
  clear hr hs
  go_enter Tryd.func73, Tryd.ntmps73
  go_wp2
  go_ret
  exact ⟨rfl, Below.refl _ _⟩
theorem cut_atI (A : Option Addr) (c : Nat) (l : List Int) (j : Int) (h0 : 0 ≤ j) (hn : j ≤ l.length) (hc : l.length ≤ c) : ∃ A', (∀ W : World, (Instr.slice 22 (.slice A l.length c) (some (.int .i64 j)) none none).run Tryd.prog W = .ok (.slice A' (l.drop j.toNat).length (c - j.toNat)) W) ∧
    (∀ w : World, Kd.C B8 w A l.length l → Kd.C B8 w A' (l.drop j.toNat).length (l.drop j.toNat)) ∧ (l.drop j.toNat).length ≤ c - j.toNat := by
  obtain ⟨i0, hi, hz0, hz1, hz2⟩ := info_parts inf5
  obtain ⟨A', h1, h2, h3⟩ := print_drop_of (P := Tryd.prog) (Value.int .u8) 0 22 5 .i64 Tryd.underlying22 hi hz1 A c l j h0 hn hc
  exact ⟨A', h1, fun w h => Kd.C_of_reads (h2 w (Kd.reads_of_C (d := 0) h)), h3⟩
theorem drop_last {l : List Int} (h : l ≠ []) : l.drop (l.length - 1) = [l.getLast h] := by
  have hp := List.length_pos_iff.2 h
  have h2 := List.dropLast_concat_getLast h
  have h3 : l.dropLast.length = l.length - 1 := List.length_dropLast
  rw [← h3]
  conv => lhs; rw [← h2]
  simp
theorem getLast_nl {l : List Int} (h : l ≠ []) : (l.getLast? = some 10) ↔ l.getLast h = 10 := by
  rw [List.getLast?_eq_some_getLast h]; simp
set_option maxHeartbeats 8000000 in
set_option maxRecDepth 100000 in
theorem hassuf_calls (A : Option Addr) (bd : Addr) (c d : Nat) (l : List Int) (w : World) (hr : Kd.C B8 w A l.length l) (hc : l.length ≤ c) (hs : Kd.C B8 w (some bd) 1 [10]) (hb : ∀ x ∈ l, byte x) (hlen : l.length ≤ 5000000000) :
    Calls Tryd.prog 59 #[.slice A l.length c, .slice (some bd) 1 d] w fun e w' => e = .returned (.bool (decide (l.getLast? = some 10))) ∧ Below w.heap.size w w' := by
  have HS := Aside0.mk hs
  clear hs
  by_cases hl : l = []
  · subst hl
    go_enter Tryd.func59, Tryd.ntmps59
    go_wp2
    go_ret
    exact ⟨by simp, Below.refl _ _⟩
  · have hp := List.length_pos_iff.2 hl
    have hj : ((l.length : Int) - 1).toNat = l.length - 1 := by omega
    obtain ⟨A', hcut, hC', hc'⟩ := cut_atI A c l ((l.length : Int) - 1) (by omega) (by omega) hc
    have HD := hC' w hr
    rw [hj] at hcut hc' HD
    rw [drop_last hl] at hcut hc' HD
    have heq := Aside0.mk (equal_calls A' (some bd) (c - (l.length - 1)) d [l.getLast hl] [10] w HD HS.out)
    have hbl := hb _ (List.getLast_mem hl)
    have hdec : decide (l.getLast? = some 10) = ((strOfNums [l.getLast hl]).toList == (strOfNums [10]).toList) := by
      rw [Bool.eq_iff_iff, decide_eq_true_eq, getLast_nl hl, beq_iff_eq, ← strOf_one hbl]; exact toList_inj.symm
    rw [hdec]
    obtain ⟨bb, hbb⟩ : ∃ bb, ((strOfNums [l.getLast hl]).toList == (strOfNums [10]).toList) = bb := ⟨_, rfl⟩
    rw [hbb] at heq ⊢
    have hw1 : wrap64 ((l.length : Int) - 1) = ((l.length - 1 : Nat) : Int) := by unfold wrap64; omega
    have hge : (1 : Int) ≤ (l.length : Int) := by omega
    have hge2 := eq_true hge
    simp only [List.length_singleton] at hcut
    clear hbb hdec hbl HD hC' hr hc' hb
    go_enter Tryd.func59, Tryd.ntmps59
    go_wp2_with (go_at_call 73; refine heq.out.mono ?_; rintro e w1 ⟨rfl, hb1⟩)
    go_ret
    exact ⟨by first | rfl | simp, hb1⟩
theorem trimNl_len (l : List Int) : (trimNl l).length = if l.getLast? = some 10 then l.length - 1 else l.length := by
  unfold trimNl; split <;> simp
set_option maxHeartbeats 8000000 in
set_option maxRecDepth 100000 in
theorem trim_calls (A : Option Addr) (bd : Addr) (c d : Nat) (l : List Int) (w : World) (hr : Kd.C B8 w A l.length l) (hc : l.length ≤ c) (hs : Kd.C B8 w (some bd) 1 [10]) (hb : ∀ x ∈ l, byte x) (hlen : l.length ≤ 5000000000) :
    Calls Tryd.prog 43 #[.slice A l.length c, .slice (some bd) 1 d] w fun e w' => e = .returned (.slice A (trimNl l).length c) ∧ Below w.heap.size w w' := by
  have hh := Aside0.mk (hassuf_calls A bd c d l w hr hc hs hb hlen)
  rw [trimNl_len]
  by_cases h : l.getLast? = some 10
  · rw [if_pos h]
    have hp : 0 < l.length := by cases l with | nil => simp at h | cons _ _ => simp
    have htk := take_at A c l ((l.length : Int) - 1) (by omega) (by omega) hc
    have hj : ((l.length : Int) - 1).toNat = l.length - 1 := by omega
    rw [hj] at htk
    have hw1 : wrap64 ((l.length : Int) - 1) = ((l.length - 1 : Nat) : Int) := by unfold wrap64; omega
    have hd : decide (l.getLast? = some 10) = true := decide_eq_true h
    rw [hd] at hh
    clear hr hs hb hd h
    go_enter Tryd.func43, Tryd.ntmps43
    go_wp2_with (go_at_call 59; refine hh.out.mono ?_; rintro e w1 ⟨rfl, hb1⟩)
    go_ret
    exact ⟨rfl, hb1⟩
  · rw [if_neg h]
    have hd : decide (l.getLast? = some 10) = false := decide_eq_false h
    rw [hd] at hh
    clear hr hs hb hd h
    go_enter Tryd.func43, Tryd.ntmps43
    go_wp2_with (go_at_call 59; refine hh.out.mono ?_; rintro e w1 ⟨rfl, hb1⟩)
    go_ret
    exact ⟨rfl, hb1⟩
end Go.Proofs.YtnnnbeimehfiiaaDoor.Q
-- Written by a program of this session (wip/gen_mkf.py) for this claim; Lean checks it.
/-! mark.markerOf, walked. -/
set_option linter.unusedVariables false
set_option linter.unusedSimpArgs false
namespace Go.Proofs.YtnnnbeimehfiiaaDoor.Q
open Go Go.RowKit Go.Proofs.YtnnnbeimehfiiaaDoorW.PrintWords Go.Proofs.YtnnnbeimehfiiaaDoorW.PrintLast Go.Proofs.YtnnnbeimehfiiaaDoorW.PrintMore
attribute [local go_sem] max2_int min2_int max_two min_two max_three min_three max_four min_four
theorem lit_C {W : World} {g : Nat} {cs : List Int} {t : Nat} {fr : Nat × Nat} (h : W.heap[g]? = some (.cells (cs.map (Value.int .u8)).toArray t fr)) (hl : cs.length ≤ 1000000) : Kd.C B8 W (some ⟨g, 0, none⟩) cs.length cs := by
  refine ⟨rfl, by omega, fun _ => ⟨_, rfl, fun j x hj => ⟨[.int .u8 x], rfl, rfl, fun i u hu => ?_⟩⟩⟩
  cases i with
  | zero =>
    simp only [List.getElem?_cons_zero, Option.some.injEq] at hu
    subst hu
    show W.cell? ((⟨g, 0, none⟩ : Addr).add (j * 1 + 0)) = _
    have : (⟨g, 0, none⟩ : Addr).add (j * 1 + 0) = ⟨g, j, none⟩ := by simp [Addr.add]; intro h; exact h.symm
    rw [this, Go.Joins.cell_of_block h]
    simp [hj]
  | succ i => simp at hu
set_option maxHeartbeats 8000000 in
set_option maxRecDepth 100000 in
theorem markerOf_calls (n : Nat) (hn : 1 ≤ n) (A : Option Addr) (c : Nat) (l : List Int) (w : World) (hr : Kd.C B8 w A l.length l) (hc : l.length ≤ c) (hb : ∀ x ∈ l, byte x) (hlen : l.length ≤ 5000000000) :
    Calls Tryd.prog 26 #[.int .i64 (n : Int), .slice A l.length c] w fun e w' => e = .returned (.int .u8 (mkOf n l)) ∧ Below w.heap.size w w' := by
  obtain ⟨k, hk⟩ := signs_ev l hlen hb
  obtain ⟨q, hq⟩ : ∃ q, (sgn l).1 = q := ⟨_, rfl⟩
  obtain ⟨y, hy⟩ : ∃ y, (sgn l).2 = y := ⟨_, rfl⟩
  rw [hq, hy] at hk
  have hql : q ≤ l.length := by rw [← hq]; exact sgn_le l
  obtain ⟨A', hcut, hC', hc'⟩ := cut_at A c l q hql hc
  have HD := Aside0.mk (hC' w hr)
  clear hC'
  have hdb : ∀ x ∈ l.drop q, byte x := fun x hx => hb x (List.mem_of_mem_drop hx)
  obtain ⟨d, hd⟩ : ∃ d, l.drop q = d := ⟨_, rfl⟩
  have hdl : d.length ≤ 5000000000 := by rw [← hd, List.length_drop]; omega
  have hres : mkOf n l = if q = n ∧ okTail (trimNl d) y = true then y else 0 := by
    unfold mkOf; rw [hq, hy]
    by_cases h : q = n
    · subst h; rw [hd]
    · simp [h]
  rw [hd] at hcut HD hc' hdb
  have HK := Aside0.mk hk; have HR := Aside0.mk hr; have HC := Aside0.mk hc; have HL := Aside0.mk hlen; have HDB := Aside0.mk hdb; have HDL := Aside0.mk hdl; have HCC := Aside0.mk hc'
  rw [hres]
  have hqi : (q : Int) ≤ (l.length : Int) := by omega
  have hmin : min (q : Int) (l.length : Int) = (q : Int) := by omega
  obtain ⟨t, ht⟩ : ∃ t, trimNl d = t := ⟨_, rfl⟩
  have HT := Aside0.mk ht
  rw [ht]
  have HTC : ∀ W, Kd.C B8 W A' d.length d → Kd.C B8 W A' t.length t := by
    intro W h
    rw [← ht]
    unfold trimNl
    split
    · rw [List.dropLast_eq_take]; exact Kd.C_take h (by omega)
    · exact h
  replace HTC := Aside0.mk HTC
  clear hk hr hc hlen hdb hdl hc' hres hq hy hd ht hb
  by_cases hqn : q = n
  · have hqn' : (q : Int) = (n : Int) := by omega
    subst hqn
    cases t with
    | nil =>
      have hx : (if q = q ∧ okTail [] y = true then y else 0) = y := by simp [okTail]
      rw [hx]
      go_enter Tryd.func26, Tryd.ntmps26
      go_wp2_with (first | (go_at_call 31; refine (mark_signs.calls k A c l _ _ _ HR.out HC.out HK.out).mono ?_; rintro e w1 ⟨rfl, hb1⟩; have hcv := Go.Joins.run_convert_bytes_const_at (P := Tryd.prog) w1 22 5 #[.int .u8 10] 1 1 w1.heap.size rfl Tryd.underlying22 Tryd.underlying5) | (go_at_call 43; refine (trim_calls A' ⟨w1.heap.size, 0, none⟩ (c - q) 1 d _ (Kd.C_below HD.out (hb1.alloc hb1.size _)) HCC.out (lit_C (cs := [10]) (heap_alloc_new w1 _) (by decide)) HDB.out HDL.out).mono ?_; rw [HT.out]; rintro e w2 ⟨rfl, hb2⟩; have hB := (hb1.alloc hb1.size (.cells #[.int .u8 10] 5 (1, 2))).trans (below_lo hb2 (by have := hb1.size; simp; omega)); have HC2 := HTC.out w2 (Kd.C_below HD.out hB)))
      go_ret
      exact ⟨by simp [okTail], hB⟩
    | cons z r =>
      have hTi : (0 : Int) < ((r.length + 1 : Nat) : Int) := by omega
      have hTi2 := eq_true hTi
      have hTj : (0 : Int) < (r.length : Int) + 1 := by omega
      have hTj2 := eq_true hTj
      by_cases h32 : z = 32
      · subst h32
        by_cases h61 : y = 61
        · have hx : (if q = q ∧ okTail ((32 : Int) :: r) y = true then y else 0) = 0 := by simp [okTail, h61]
          rw [hx]
          go_enter Tryd.func26, Tryd.ntmps26
          go_wp2_with (first | (go_at_call 31; refine (mark_signs.calls k A c l _ _ _ HR.out HC.out HK.out).mono ?_; rintro e w1 ⟨rfl, hb1⟩; have hcv := Go.Joins.run_convert_bytes_const_at (P := Tryd.prog) w1 22 5 #[.int .u8 10] 1 1 w1.heap.size rfl Tryd.underlying22 Tryd.underlying5) | (go_at_call 43; refine (trim_calls A' ⟨w1.heap.size, 0, none⟩ (c - q) 1 d _ (Kd.C_below HD.out (hb1.alloc hb1.size _)) HCC.out (lit_C (cs := [10]) (heap_alloc_new w1 _) (by decide)) HDB.out HDL.out).mono ?_; rw [HT.out]; rintro e w2 ⟨rfl, hb2⟩; have hB := (hb1.alloc hb1.size (.cells #[.int .u8 10] 5 (1, 2))).trans (below_lo hb2 (by have := hb1.size; simp; omega)); have HC2 := HTC.out w2 (Kd.C_below HD.out hB); obtain ⟨ad, rfl, hz2⟩ := fst_at HC2 rfl))
          go_ret
          exact ⟨by simp, hB⟩
        · have hx : (if q = q ∧ okTail ((32 : Int) :: r) y = true then y else 0) = y := by simp [okTail, h61]
          rw [hx]
          go_enter Tryd.func26, Tryd.ntmps26
          go_wp2_with (first | (go_at_call 31; refine (mark_signs.calls k A c l _ _ _ HR.out HC.out HK.out).mono ?_; rintro e w1 ⟨rfl, hb1⟩; have hcv := Go.Joins.run_convert_bytes_const_at (P := Tryd.prog) w1 22 5 #[.int .u8 10] 1 1 w1.heap.size rfl Tryd.underlying22 Tryd.underlying5) | (go_at_call 43; refine (trim_calls A' ⟨w1.heap.size, 0, none⟩ (c - q) 1 d _ (Kd.C_below HD.out (hb1.alloc hb1.size _)) HCC.out (lit_C (cs := [10]) (heap_alloc_new w1 _) (by decide)) HDB.out HDL.out).mono ?_; rw [HT.out]; rintro e w2 ⟨rfl, hb2⟩; have hB := (hb1.alloc hb1.size (.cells #[.int .u8 10] 5 (1, 2))).trans (below_lo hb2 (by have := hb1.size; simp; omega)); have HC2 := HTC.out w2 (Kd.C_below HD.out hB); obtain ⟨ad, rfl, hz2⟩ := fst_at HC2 rfl))
          go_ret
          exact ⟨by simp [*], hB⟩
      · have hx : (if q = q ∧ okTail (z :: r) y = true then y else 0) = 0 := by simp [okTail, h32]
        rw [hx]
        go_enter Tryd.func26, Tryd.ntmps26
        go_wp2_with (first | (go_at_call 31; refine (mark_signs.calls k A c l _ _ _ HR.out HC.out HK.out).mono ?_; rintro e w1 ⟨rfl, hb1⟩; have hcv := Go.Joins.run_convert_bytes_const_at (P := Tryd.prog) w1 22 5 #[.int .u8 10] 1 1 w1.heap.size rfl Tryd.underlying22 Tryd.underlying5) | (go_at_call 43; refine (trim_calls A' ⟨w1.heap.size, 0, none⟩ (c - q) 1 d _ (Kd.C_below HD.out (hb1.alloc hb1.size _)) HCC.out (lit_C (cs := [10]) (heap_alloc_new w1 _) (by decide)) HDB.out HDL.out).mono ?_; rw [HT.out]; rintro e w2 ⟨rfl, hb2⟩; have hB := (hb1.alloc hb1.size (.cells #[.int .u8 10] 5 (1, 2))).trans (below_lo hb2 (by have := hb1.size; simp; omega)); have HC2 := HTC.out w2 (Kd.C_below HD.out hB); obtain ⟨ad, rfl, hz2⟩ := fst_at HC2 rfl))
        go_ret
        exact ⟨by simp, hB⟩
  · have hqn' : ¬ (q : Int) = (n : Int) := by omega
    have hx : (if q = n ∧ okTail t y = true then y else 0) = 0 := by simp [hqn]
    rw [hx]
    go_enter Tryd.func26, Tryd.ntmps26
    go_wp2_with (first | (go_at_call 31; refine (mark_signs.calls k A c l _ _ _ HR.out HC.out HK.out).mono ?_; rintro e w1 ⟨rfl, hb1⟩; have hcv := Go.Joins.run_convert_bytes_const_at (P := Tryd.prog) w1 22 5 #[.int .u8 10] 1 1 w1.heap.size rfl Tryd.underlying22 Tryd.underlying5) | (go_at_call 43; refine (trim_calls A' ⟨w1.heap.size, 0, none⟩ (c - q) 1 d _ (Kd.C_below HD.out (hb1.alloc hb1.size _)) HCC.out (lit_C (cs := [10]) (heap_alloc_new w1 _) (by decide)) HDB.out HDL.out).mono ?_; rw [HT.out]; rintro e w2 ⟨rfl, hb2⟩; have hB := (hb1.alloc hb1.size (.cells #[.int .u8 10] 5 (1, 2))).trans (below_lo hb2 (by have := hb1.size; simp; omega)); have HC2 := HTC.out w2 (Kd.C_below HD.out hB)))
    go_ret
    exact ⟨by simp, hB⟩
end Go.Proofs.YtnnnbeimehfiiaaDoor.Q
/-! mark.Read: small laws for the walk. -/
set_option linter.unusedVariables false
set_option linter.unusedSimpArgs false
namespace Go.Proofs.YtnnnbeimehfiiaaDoor.Q
open Go Go.RowKit Go.Proofs.YtnnnbeimehfiiaaDoorW.PrintWords Go.Proofs.YtnnnbeimehfiiaaDoorW.SL
theorem rdAll_app (n : Nat) : ∀ (a b : List (List Int)) (s : List Pt × Nat), rdAll n (a ++ b) s = (rdAll n a s).bind (rdAll n b)
  | [], b, s => rfl
  | x :: r, b, s => by
    simp only [List.cons_append, rdAll]
    cases h : rdStep n s x with
    | none => rfl
    | some t => exact rdAll_app n r b t
theorem rdAll_next {n : Nat} {l : List (List Int)} {i : Nat} {x : List Int} {s s0 : List Pt × Nat} (h : rdAll n (l.take i) s0 = some s) (hx : l[i]? = some x) : rdAll n (l.take (i + 1)) s0 = rdStep n s x := by
  have hlt := (List.getElem?_eq_some_iff.1 hx).1
  rw [List.take_add_one, hx, rdAll_app, h]
  show (rdAll n [x]) s = _
  simp only [rdAll]
  cases rdStep n s x <;> rfl
theorem rdAll_none {n : Nat} {l : List (List Int)} {i : Nat} {s0 : List Pt × Nat} (h : rdAll n (l.take i) s0 = none) : rdAll n l s0 = none := by
  rw [← List.take_append_drop i l, rdAll_app, h]; rfl
theorem linesOf_ne : ∀ (l y : List Int), y ∈ linesOf l → y ≠ []
  | [], y, h => by simp [linesOf] at h
  | x :: r, y, h => by
    have ih := linesOf_ne r
    unfold linesOf at h
    split at h
    · rcases List.mem_cons.1 h with rfl | h
      · simp
      · exact ih y h
    · split at h <;> rename_i hr
      · rw [List.mem_singleton] at h; subst h; simp
      · rcases List.mem_cons.1 h with rfl | h
        · simp
        · exact ih y (by rw [hr]; exact List.mem_cons_of_mem _ h)
theorem linesOf_all (P : Int → Prop) : ∀ (l y : List Int), (∀ x ∈ l, P x) → y ∈ linesOf l → ∀ x ∈ y, P x
  | [], y, _, h => by simp [linesOf] at h
  | z :: r, y, hP, h => by
    have hz := hP z List.mem_cons_self
    have ih := fun y => linesOf_all P r y (fun x hx => hP x (List.mem_cons_of_mem _ hx))
    unfold linesOf at h
    split at h <;> rename_i hzz
    · rcases List.mem_cons.1 h with rfl | h
      · intro x hx; rw [List.mem_singleton] at hx; subst hx; rw [← hzz]; exact hz
      · exact ih y h
    · split at h <;> rename_i hr
      · rw [List.mem_singleton] at h; subst h; intro x hx; rw [List.mem_singleton] at hx; subst hx; exact hz
      · rcases List.mem_cons.1 h with rfl | h
        · intro x hx
          rcases List.mem_cons.1 hx with rfl | hx
          · exact hz
          · exact ih _ (by rw [hr]; exact List.mem_cons_self) x hx
        · exact ih y (by rw [hr]; exact List.mem_cons_of_mem _ h)
theorem mkOf_cases {n : Nat} (hn : 1 ≤ n) (l : List Int) : mkOf n l = 0 ∨ mkOf n l = 60 ∨ mkOf n l = 124 ∨ mkOf n l = 61 ∨ mkOf n l = 62 := by
  unfold mkOf
  split
  · rename_i h1
    have := (sgn_ch (l := l) (by omega)).1
    simp only [sgCh, Bool.or_eq_true, beq_iff_eq] at this
    omega
  · exact .inl rfl
theorem base_add (g m : Nat) : (⟨g, 0, none⟩ : Addr).add m = ⟨g, m, none⟩ := by
  unfold Addr.add
  split
  · rename_i h; subst h; rfl
  · simp
/-- RdI.app with the row's address as a letter. -/
theorem RdI.app' {w0 w : World} {F0 : List FA} {ps : List Pt} {vo : Value} (h : RdI w0 F0 ps vo w) {fr0 : List Pt} {p : Pt} (hps : ps = fr0 ++ [p]) (k : Nat) (hk : k < 4) (x : List Int) :
    ∃ (ad : Addr) (cap : Nat) (v : Value), vo = .slice (some ad) ps.length cap ∧ w.cell? (ad.add (fr0.length * 5)) = some (.bool p.region) ∧ w.cell? ⟨(ad.add (fr0.length * 5)).block, (ad.add (fr0.length * 5)).off + (k + 1), none⟩ = some v ∧ w.ownsRow 0 5 1 v (fld p k).length (us8 (fld p k)) ∧
      ∀ (w1 : World) (v1 : Value), w1.ownsRow 0 5 1 v1 ((fld p k).length + x.length) (us8 (fld p k) ++ us8 x) → w.grownBy w1 v.ownBlock → (v1.ownBlock = v.ownBlock ∨ v1.ownBlock = some w.heap.size) →
        w1.cell? ⟨(ad.add (fr0.length * 5)).block, (ad.add (fr0.length * 5)).off + (k + 1), none⟩ = some v ∧ w1.frozen? ⟨(ad.add (fr0.length * 5)).block, (ad.add (fr0.length * 5)).off + (k + 1), none⟩ = false ∧ RdI w0 F0 (fr0 ++ [addF p x k]) vo (w1.setCell ⟨(ad.add (fr0.length * 5)).block, (ad.add (fr0.length * 5)).off + (k + 1), none⟩ v1) := by
  obtain ⟨g, cap, v, h1, h2, h3, h4, h5⟩ := h.app hps k hk x
  refine ⟨⟨g, 0, none⟩, cap, v, h1, ?_, ?_, h4, ?_⟩
  · rw [base_add]; exact h2
  · rw [base_add]; exact h3
  · rw [base_add]; exact h5
/-- append(s, x...): x a row that is read. -/
theorem app_spread {P : Program} {ops : Array Oper} {o : Oper} {rest : List Oper} {a : Act} {Q : Exit → Act → World → Prop} {W : World} (hgd : o.guard = none) (s x : Operand)
    (ho : o.op = .call { callee := .builtin .append, args := #[s, x], argTypes := #[22, 22] })
    (ht : P.underlying 22 = some (.slice 5)) (hinfo : (P.info? 5).map (fun i => (i.zero, i.size, i.bytes)) = some (some (.int .u8 0), 1, 1))
    (v : Value) (n : Nat) (xs : List Value) (ys : List Int) (ad : Addr) (c : Nat) (hs : a.eval s = v) (hx : a.eval x = .slice (some ad) ys.length c)
    (HO : W.ownsRow 0 5 1 v n xs) (HX : Kd.C B8 W (some ad) ys.length ys) (hl : n + ys.length ≤ 140737488355328)
    (h : ∀ v1 w1, w1.ownsRow 0 5 1 v1 (n + ys.length) (xs ++ us8 ys) → W.grownBy w1 v.ownBlock → (v1.ownBlock = v.ownBlock ∨ v1.ownBlock = some W.heap.size) → wpList P ops Q rest (a.put o.dst v1) w1) : wpList P ops Q (o :: rest) a W := by
  obtain ⟨i0, hi, hzz⟩ := Option.map_eq_some_iff.1 hinfo
  simp only [Prod.mk.injEq] at hzz
  obtain ⟨hz0, hz1, hz2⟩ := hzz
  refine wpList_append_own_at W hgd s x 22 ho 0 5 i0 (.int .u8 0) 1 1 ht hi hz0 hz1 hz2 rfl (by decide) v n xs hs HO ad ys.length c (us8 ys) hx (by simp) (fun j u hj => ?_) (fun u hu => ?_) (by simp only [maxLen]; omega) (by omega) (Nat.zero_le _) (fun v' w' h1 h2 _ h4 => h v' w' h1 h2 h4)
  · have hjl : j < ys.length := by have := (List.getElem?_eq_some_iff.1 hj).1; simpa using this
    obtain ⟨ad', he, hc⟩ := Kd.at_int HX (j : Int) (by omega) (by omega)
    injection he with he
    subst he
    simp only [Int.toNat_natCast] at hc
    rw [hc, ← hj, rd_get hjl]
    simp [us8, List.getElem?_eq_getElem hjl]
  · obtain ⟨q, _, rfl⟩ := List.mem_map.1 hu; rfl
end Go.Proofs.YtnnnbeimehfiiaaDoor.Q
/-! mark.Read: the append of a new part as an event; a part's row found through the row of the parts. -/
set_option linter.unusedVariables false
set_option linter.unusedSimpArgs false
namespace Go.Proofs.YtnnnbeimehfiiaaDoor.Q
open Go Go.RowKit Go.Proofs.YtnnnbeimehfiiaaDoorW.PrintWords Go.Proofs.YtnnnbeimehfiiaaDoorW.SL
abbrev nwPt (rg : Bool) : Pt := ⟨rg, [], [], [], []⟩
def rawPt (rg : Bool) : List Value := [.bool rg, .slice none 0 0, .slice none 0 0, .slice none 0 0, .slice none 0 0]
theorem own_form {w : World} {v : Value} {base e size n : Nat} {xs : List Value} (h : w.ownsRow base e size v n xs) : ∃ A c, v = .slice A n c ∧ n ≤ c := by
  obtain ⟨_, ⟨rfl, rfl⟩ | ⟨g, cap, cur, rfl, _, _, hnc, _⟩⟩ := h
  · exact ⟨none, 0, rfl, Nat.le_refl _⟩
  · exact ⟨_, cap, rfl, hnc⟩
theorem app_push {P : Program} {ops : Array Oper} {o : Oper} {rest : List Oper} {a : Act} {Q : Exit → Act → World → Prop} {W : World} (hgd : o.guard = none) (s x : Operand) (bytes : Nat)
    (ho : o.op = .call { callee := .builtin .append, args := #[s, x], argTypes := #[23, 23] })
    (ht : P.underlying 23 = some (.slice 50)) (hinfo : (P.info? 50).map (fun i => (i.zero, i.size, i.bytes)) = some (some (.agg (rawPt false).toArray), 5, bytes)) (hb0 : bytes ≤ 1000)
    {w0 : World} {F0 : List FA} {ps : List Pt} {vo : Value} (hI : RdI w0 F0 ps vo W) (hl : ps.length ≤ 5000000) (m : Nat) (hm : ps.length = m) (rg : Bool) (hs : a.eval s = vo) (hx : a.eval x = .slice (some ⟨W.heap.size, 0, none⟩) 1 1)
    (h : ∀ A c w1, RdI w0 F0 (ps ++ [nwPt rg]) (.slice A (m + 1) c) w1 → wpList P ops Q rest (a.put o.dst (.slice A (m + 1) c)) w1) : wpList P ops Q (o :: rest) a (W.alloc (.cells (rawPt rg).toArray 50)) := by
  subst hm
  obtain ⟨i0, hi, hzz⟩ := Option.map_eq_some_iff.1 hinfo
  simp only [Prod.mk.injEq] at hzz
  obtain ⟨hz0, hz1, hz2⟩ := hzz
  obtain ⟨cells, hown, hstep⟩ := hI.push rg
  have hb : Below W.heap.size W (W.alloc (.cells (rawPt rg).toArray 50)) := below_alloc (Below.refl _ _) _
  have hown2 := own_move hown (fun k hk => hb.block k (own_lt hown k hk))
  refine wpList_append_own_at _ hgd s x 23 ho 0 50 i0 (.agg (rawPt false).toArray) 5 bytes ht hi hz0 hz1 hz2 (by rfl) (by decide) vo ps.length cells hs hown2 ⟨W.heap.size, 0, none⟩ 1 1 (rawPt rg) hx rfl (fun j u hj => ?_) (by simp [rawPt, Value.oneCell']) (by simp only [maxLen]; omega)
    (Nat.le_trans (Nat.mul_le_mul (show ps.length + 1 ≤ 5000001 by omega) hb0) (by decide)) (Nat.zero_le _) (fun v' w' h1 h2 _ h4 => ?_)
  · rw [base_add]
    refine (blk_cell (heap_alloc_new W _) j).trans ?_
    simpa using hj
  · have hI2 := hstep _ w' v' hb h1 h2 h4
    obtain ⟨A, c, rfl, _⟩ := own_form h1
    exact h A c w' hI2
theorem RdI.at {w0 w : World} {F0 : List FA} {vo : Value} {fr0 : List Pt} {p : Pt} (h : RdI w0 F0 (fr0 ++ [p]) vo w) (k : Nat) (hk : k < 4) (x : List Int) :
    ∃ (ad : Addr) (cap : Nat) (v : Value), vo = .slice (some ad) (fr0.length + 1) cap ∧ w.cell? (ad.add (fr0.length * 5)) = some (.bool p.region) ∧ w.cell? ⟨(ad.add (fr0.length * 5)).block, (ad.add (fr0.length * 5)).off + (k + 1), none⟩ = some v ∧ w.ownsRow 0 5 1 v (fld p k).length (us8 (fld p k)) ∧
      ∀ (w1 : World) (v1 : Value), w1.ownsRow 0 5 1 v1 ((fld p k).length + x.length) (us8 (fld p k) ++ us8 x) → w.grownBy w1 v.ownBlock → (v1.ownBlock = v.ownBlock ∨ v1.ownBlock = some w.heap.size) →
        w1.cell? ⟨(ad.add (fr0.length * 5)).block, (ad.add (fr0.length * 5)).off + (k + 1), none⟩ = some v ∧ w1.frozen? ⟨(ad.add (fr0.length * 5)).block, (ad.add (fr0.length * 5)).off + (k + 1), none⟩ = false ∧ RdI w0 F0 (fr0 ++ [addF p x k]) vo (w1.setCell ⟨(ad.add (fr0.length * 5)).block, (ad.add (fr0.length * 5)).off + (k + 1), none⟩ v1) := by
  have h2 := h.app' rfl k hk x
  simpa only [List.length_append, List.length_singleton] using h2
theorem RdI.atj {w0 w : World} {F0 : List FA} {vo : Value} {fr0 : List Pt} {p : Pt} (h : RdI w0 F0 (fr0 ++ [p]) vo w) (k : Nat) (hk : k < 4) (x : List Int) {j : Nat} (hj : fr0.length = j) :
    ∃ (ad : Addr) (cap : Nat) (v : Value), vo = .slice (some ad) (j + 1) cap ∧ w.cell? (ad.add (j * 5)) = some (.bool p.region) ∧ w.cell? ⟨(ad.add (j * 5)).block, (ad.add (j * 5)).off + (k + 1), none⟩ = some v ∧ w.ownsRow 0 5 1 v (fld p k).length (us8 (fld p k)) ∧
      ∀ (w1 : World) (v1 : Value), w1.ownsRow 0 5 1 v1 ((fld p k).length + x.length) (us8 (fld p k) ++ us8 x) → w.grownBy w1 v.ownBlock → (v1.ownBlock = v.ownBlock ∨ v1.ownBlock = some w.heap.size) →
        w1.cell? ⟨(ad.add (j * 5)).block, (ad.add (j * 5)).off + (k + 1), none⟩ = some v ∧ w1.frozen? ⟨(ad.add (j * 5)).block, (ad.add (j * 5)).off + (k + 1), none⟩ = false ∧ RdI w0 F0 (fr0 ++ [addF p x k]) vo (w1.setCell ⟨(ad.add (j * 5)).block, (ad.add (j * 5)).off + (k + 1), none⟩ v1) := by
  subst hj
  exact h.at k hk x
theorem RdI.at0 {w0 w : World} {F0 : List FA} {vo : Value} {p : Pt} (h : RdI w0 F0 ([] ++ [p]) vo w) (k : Nat) (hk : k < 4) (x : List Int) :
    ∃ (ad : Addr) (cap : Nat) (v : Value), vo = .slice (some ad) 1 cap ∧ w.cell? ad = some (.bool p.region) ∧ w.cell? ⟨ad.block, ad.off + (k + 1), none⟩ = some v ∧ w.ownsRow 0 5 1 v (fld p k).length (us8 (fld p k)) ∧
      ∀ (w1 : World) (v1 : Value), w1.ownsRow 0 5 1 v1 ((fld p k).length + x.length) (us8 (fld p k) ++ us8 x) → w.grownBy w1 v.ownBlock → (v1.ownBlock = v.ownBlock ∨ v1.ownBlock = some w.heap.size) →
        w1.cell? ⟨ad.block, ad.off + (k + 1), none⟩ = some v ∧ w1.frozen? ⟨ad.block, ad.off + (k + 1), none⟩ = false ∧ RdI w0 F0 ([] ++ [addF p x k]) vo (w1.setCell ⟨ad.block, ad.off + (k + 1), none⟩ v1) := by
  obtain ⟨ad, cap, v, e1, e2, e3, e4, e5⟩ := h.at k hk x
  have e : ad.add (([] : List Pt).length * 5) = ad := by simp [Addr.add]
  rw [e] at e2 e3 e5
  exact ⟨ad, cap, v, e1, e2, e3, e4, e5⟩
/-- More that is read and kept. -/
theorem RdI.wider {w0 w : World} {F0 : List FA} {ps : List Pt} {vo : Value} (h : RdI w0 F0 ps vo w) (a : FA) (ha : ∀ Z : Nat → Prop, (∀ b ∈ F0, b.P w Z) → a.P w Z) : RdI w0 (a :: F0) ps vo w := by
  obtain ⟨Z, cells, vT, v0, v1, v2, T, S0, S1, S2, fr, fc, S, hc⟩ := h
  refine ⟨Z, cells, vT, v0, v1, v2, T, S0, S1, S2, fr, fc, ⟨S.st, fun b hb => ?_, S.old⟩, hc⟩
  rcases List.mem_cons.1 hb with rfl | hb
  · exact S.fr _ List.mem_cons_self
  · rcases List.mem_cons.1 hb with rfl | hb
    · exact ha Z (fun b hb => S.fr b (List.mem_cons_of_mem _ hb))
    · exact S.fr _ (List.mem_cons_of_mem _ hb)
theorem RdI.less {w0 w : World} {F0 : List FA} {a : FA} {ps : List Pt} {vo : Value} (h : RdI w0 (a :: F0) ps vo w) : RdI w0 F0 ps vo w := by
  obtain ⟨Z, cells, vT, v0, v1, v2, T, S0, S1, S2, fr, fc, S, hc⟩ := h
  refine ⟨Z, cells, vT, v0, v1, v2, T, S0, S1, S2, fr, fc, ⟨S.st, fun b hb => S.fr b ?_, S.old⟩, hc⟩
  rcases List.mem_cons.1 hb with rfl | hb
  · exact List.mem_cons_self
  · exact List.mem_cons_of_mem _ (List.mem_cons_of_mem _ hb)
theorem snoc_cases (ps : List Pt) : ps = [] ∨ ∃ fr p, ps = fr ++ [p] := by
  rcases List.eq_nil_or_concat ps with h | ⟨fr, p, h⟩
  · exact .inl h
  · exact .inr ⟨fr, p, by simpa using h⟩
theorem kB_openF {W : World} {ok : Nat → Prop} {x : List Int} {cs : List Value} (h : Kd.FK kB W ok x cs) : ∃ A c, cs = [.slice A x.length c] ∧ (rdV B8 A c x).P W ok := by
  obtain ⟨A, c, rfl, l1, _⟩ := Kd.FK_now h
  refine ⟨A, c, rfl, l1, fun W' hW => ?_⟩
  obtain ⟨B, d, he, _, g⟩ := h W' hW
  simp only [List.cons.injEq, Value.slice.injEq, and_true, true_and] at he
  rw [he.1]; exact g
theorem row_kept {wb : World} {Z : Nat → Prop} {al ax : Addr} {cL cX : Nat} {L : List (List Int)} {x : List Int} {i : Nat} (h : (rdV kB (some al) cL L).P wb Z) (hi : L[i]? = some x) (hc : wb.cell? (al.add i) = some (.slice (some ax) x.length cX)) : (rdV B8 (some ax) cX x).P wb Z := by
  have hlt := (List.getElem?_eq_some_iff.1 hi).1
  obtain ⟨al', cs, eA, hcl, hFK, hcc, _⟩ := Kd.F_get h.2 [] (i : Int) (by omega) (by omega)
  injection eA with eA
  subst eA
  have hx : L.getD (i : Int).toNat [] = x := by simp [List.getD_eq_getElem?_getD, hi]
  rw [hx] at hFK
  obtain ⟨A, c, rfl, hP⟩ := kB_openF hFK
  have h0 : wb.cell? (al.add ((i : Int).toNat * 1)) = some (.slice A x.length c) := hcc 0 _ rfl
  have e : (i : Int).toNat * 1 = i := by simp
  rw [e, hc] at h0
  injection h0 with h0
  injection h0 with h0 _ h1
  subst h0 h1
  exact hP
/-- append(s, x...), x a row that is read, inside a region of open order. -/
theorem app_spread_step {P : Program} {ops : Array Oper} {o : Oper} {a : Act} {Q : Exit → Act → World → Prop} {K : Act → World → Prop} {W : World} (hw : Region.wanted o (yielded ops a.tmps) = true) (s x : Operand)
    (ho : o.op = .call { callee := .builtin .append, args := #[s, x], argTypes := #[22, 22] })
    (ht : P.underlying 22 = some (.slice 5)) (hinfo : (P.info? 5).map (fun i => (i.zero, i.size, i.bytes)) = some (some (.int .u8 0), 1, 1))
    (v : Value) (n : Nat) (xs : List Value) (ys : List Int) (ad : Addr) (c : Nat) (hs : a.eval s = v) (hx : a.eval x = .slice (some ad) ys.length c)
    (HO : W.ownsRow 0 5 1 v n xs) (HX : Kd.C B8 W (some ad) ys.length ys) (hl : n + ys.length ≤ 140737488355328)
    (h : ∀ v1 w1, w1.ownsRow 0 5 1 v1 (n + ys.length) (xs ++ us8 ys) → W.grownBy w1 v.ownBlock → (v1.ownBlock = v.ownBlock ∨ v1.ownBlock = some W.heap.size) → K (a.put o.dst v1) w1) :
    if Region.wanted o (yielded ops a.tmps) = true then Oper.wp P o a W K Q else K (a.put o.dst undef) W := by
  obtain ⟨i0, hi, hzz⟩ := Option.map_eq_some_iff.1 hinfo
  simp only [Prod.mk.injEq] at hzz
  obtain ⟨hz0, hz1, hz2⟩ := hzz
  rw [if_pos hw]
  obtain ⟨v1, w1, hr, hown, hgr, _, hat⟩ := run_append_own_at (P := P) W 0 22 o.type 5 i0 (.int .u8 0) 1 1 ht hi hz0 hz1 hz2 rfl (by decide) v n xs HO ad ys.length c (us8 ys) (by simp)
    (fun j u hj => by
      have hjl : j < ys.length := by have := (List.getElem?_eq_some_iff.1 hj).1; simpa using this
      obtain ⟨ad', he, hc⟩ := Kd.at_int HX (j : Int) (by omega) (by omega)
      injection he with he
      subst he
      simp only [Int.toNat_natCast] at hc
      rw [hc, ← hj, rd_get hjl]
      simp [us8, List.getElem?_eq_getElem hjl]) (fun u hu => by obtain ⟨q, _, rfl⟩ := List.mem_map.1 hu; rfl) (by simp only [maxLen]; omega) (by omega) (Nat.zero_le _)
  unfold Oper.wp execOp
  simp only [ho, resolve, invoke, builtin, Sem.run_bind, Sem.run_pure, Result.andThen_ok, List.map_toArray, List.map_cons, List.map_nil, hs, hx, hr]
  exact h v1 w1 hown hgr hat
def P1 (wd : World) (vk : Value) (xs ys : List Int) (vv : Value) (w : World) : Prop := w.ownsRow 0 5 1 vv (xs.length + ys.length) (us8 xs ++ us8 ys) ∧ wd.grownBy w vk.ownBlock ∧ (vv.ownBlock = vk.ownBlock ∨ vv.ownBlock = some wd.heap.size)
def P2 (wd : World) (vk : Value) (xs ys : List Int) (p : Addr) (vv : Value) (w : World) : Prop := ∃ w1, P1 wd vk xs ys vv w1 ∧ w = w1.setCell p vv
theorem P1.form {wd : World} {vk : Value} {xs ys : List Int} {vv : Value} {w : World} (h : P1 wd vk xs ys vv w) : ∃ A c, vv = .slice A (xs.length + ys.length) c := by
  obtain ⟨A, c, e, _⟩ := own_form h.1
  exact ⟨A, c, e⟩
theorem rdStep_ne {n : Nat} {s t : List Pt × Nat} {x : List Int} (h : rdStep n s x = some t) (hs : s.2 ≠ 0 → s.1 ≠ []) : t.2 ≠ 0 → t.1 ≠ [] := by
  have hol : ∀ (f : Pt → Pt) (l : List Pt), l ≠ [] → onLast f l ≠ [] := fun f l hl => by
    cases l with
    | nil => exact absurd rfl hl
    | cons a r => cases r <;> simp [onLast]
  unfold rdStep at h
  split at h
  · split at h
    · split at h
      · split at h
        · injection h with h; subst h; simp
        · injection h with h; subst h; simp
      · injection h with h; subst h; simp
    · rename_i h2
      injection h with h; subst h; exact fun _ => hol _ _ (hs h2)
  · split at h
    · injection h with h; subst h; simp
    · split at h
      · rename_i h2
        injection h with h; subst h; exact fun _ => hs (by omega)
      · split at h
        · injection h with h; subst h; simp
        · cases h
theorem rdAll_ne {n : Nat} : ∀ {l : List (List Int)} {s t : List Pt × Nat}, rdAll n l s = some t → (s.2 ≠ 0 → s.1 ≠ []) → t.2 ≠ 0 → t.1 ≠ []
  | [], s, t, h, hs => by simp only [rdAll, Option.some.injEq] at h; subst h; exact hs
  | x :: r, s, t, h, hs => by
    simp only [rdAll] at h
    obtain ⟨u, hu, h⟩ := Option.bind_eq_some_iff.1 h
    exact rdAll_ne h (rdStep_ne hu hs)
def Sz (ps : List Pt) (i : Nat) : Prop := ps.length ≤ i ∧ ∀ p ∈ ps, p.text.length ≤ 5000000 * i ∧ p.s0.length ≤ 5000000 * i ∧ p.s1.length ≤ 5000000 * i ∧ p.s2.length ≤ 5000000 * i
theorem sz_nil : Sz [] 0 := ⟨Nat.zero_le _, by simp⟩
theorem sz_mono {ps : List Pt} {i : Nat} (h : Sz ps i) : Sz ps (i + 1) := ⟨by have := h.1; omega, fun p hp => by have := h.2 p hp; omega⟩
theorem sz_push {ps : List Pt} {i : Nat} (h : Sz ps i) (rg : Bool) : Sz (ps ++ [nwPt rg]) (i + 1) := ⟨by have := h.1; simp; omega, fun p hp => by
  rcases List.mem_append.1 hp with hp | hp
  · have := h.2 p hp; omega
  · rw [List.mem_singleton] at hp; subst hp; simp⟩
theorem sz_app {ps : List Pt} {i : Nat} (h : Sz ps i) (rg : Bool) {x : List Int} (hx : x.length ≤ 5000000) (k : Nat) : Sz (ps ++ [addF (nwPt rg) x k]) (i + 1) := ⟨by have := h.1; simp; omega, fun p hp => by
  rcases List.mem_append.1 hp with hp | hp
  · have := h.2 p hp; omega
  · rw [List.mem_singleton] at hp; subst hp
    rcases k with _ | _ | _ | k <;> simp only [addF, List.length_append, List.length_nil] <;> omega⟩
theorem sz_fld {p : Pt} {m : Nat} (h : p.text.length ≤ m ∧ p.s0.length ≤ m ∧ p.s1.length ≤ m ∧ p.s2.length ≤ m) (k : Nat) : (fld p k).length ≤ m := by
  rcases k with _ | _ | _ | k
  · exact h.1
  · exact h.2.1
  · exact h.2.2.1
  · exact h.2.2.2
theorem sz_add {fr : List Pt} {p : Pt} {i : Nat} (h : Sz (fr ++ [p]) i) (x : List Int) (hx : x.length ≤ 5000000) (k : Nat) : Sz (fr ++ [addF p x k]) (i + 1) := ⟨by have := h.1; simp at this ⊢; omega, fun q hq => by
  rcases List.mem_append.1 hq with hq | hq
  · have := h.2 q (List.mem_append_left _ hq); omega
  · rw [List.mem_singleton] at hq; subst hq
    have := h.2 p (by simp)
    rcases k with _ | _ | _ | k <;> simp only [addF, List.length_append] <;> omega⟩
end Go.Proofs.YtnnnbeimehfiiaaDoor.Q
/-! Arguments as they are handed in: strings, numbers, bytes, rows of bytes. -/
set_option linter.unusedVariables false
set_option linter.unusedSimpArgs false
namespace Go.Proofs.YtnnnbeimehfiiaaDoor.Q
open Go Go.RowKit Go.Proofs.YtnnnbeimehfiiaaDoorW.PrintWords
theorem list_of {α : Type} {P : Nat → α → Prop} (n : Nat) (h : ∀ i, i < n → ∃ x, P i x) : ∃ l : List α, l.length = n ∧ ∀ i x, l[i]? = some x → P i x := by
  refine ⟨List.ofFn fun i : Fin n => Classical.choose (h i.1 i.2), by simp, fun i x hx => ?_⟩
  rw [List.getElem?_ofFn] at hx
  split at hx
  · rename_i hi
    injection hx with hx
    rw [← hx]
    exact Classical.choose_spec (h i hi)
  · cases hx
theorem cells5 : Tryd.prog.cellsOf 5 = 1 := by kernel_rfl
theorem cells22 : Tryd.prog.cellsOf 22 = 1 := by kernel_rfl
theorem wf_in {n : Int} (h : (Lit.int .i64 n).wf = true) : -9223372036854775808 ≤ n ∧ n ≤ 9223372036854775807 := by
  have h1 : (decide (IntKind.i64.min ≤ n) && decide (n ≤ IntKind.i64.max)) = true := h
  rw [Bool.and_eq_true, decide_eq_true_eq, decide_eq_true_eq] at h1
  have e1 : IntKind.i64.min = -9223372036854775808 := by decide
  have e2 : IntKind.i64.max = 9223372036854775807 := by decide
  rw [e1, e2] at h1
  exact h1
theorem wf_b {n : Int} (h : (Lit.int .u8 n).wf = true) : byte n := by
  have h1 : (decide (IntKind.u8.min ≤ n) && decide (n ≤ IntKind.u8.max)) = true := h
  rw [Bool.and_eq_true, decide_eq_true_eq, decide_eq_true_eq] at h1
  have e1 : IntKind.u8.min = 0 := by decide
  have e2 : IntKind.u8.max = 255 := by decide
  rw [e1, e2] at h1
  unfold byte; omega
/-- A slice whose elements read in some kind. -/
theorem slice_read {α : Type} {d : Kd α} {H : Type} {enc : TypeId × Value → H} {W : World} {sp : Nat → Bool} {hd : Bool} {t e : TypeId} {Q : α → Prop} (ht : Tryd.prog.underlying t = some (.slice e)) (hce : Tryd.prog.cellsOf e = d.sz) {fuel : Nat} {cs : List Value} {x : DataW H × List MemPlace}
    (h : DataW.trod enc Tryd.prog W 0 sp hd fuel t cs = some x) (hel : ∀ m c y, DataW.trod enc Tryd.prog W 0 sp hd m e c = some y → ∃ s : α, d.K W s c ∧ Q s) :
    ∃ (l : List α) (A : Option Addr) (c : Nat), cs = [.slice A l.length c] ∧ l.length ≤ c ∧ Kd.C d W A l.length l ∧ ∀ s ∈ l, Q s := by
  rcases DataW.trod_slice ht h with ⟨e3, _⟩ | ⟨a, len, cap, elems, rest, m, hm, e3, _, hba, hlc, hcm, hel2, hget, _, _⟩
  · exact ⟨[], none, 0, e3, Nat.le_refl _, Kd.C_nil d W, by simp⟩
  · have hex : ∀ i, i < len → ∃ s : α, ∃ c, W.cells? 0 (a.add (i * d.sz)) d.sz = some c ∧ d.K W s c ∧ Q s := by
      intro i hi
      have hg := hget i hi
      rw [hce, List.getElem?_eq_getElem (by omega), Option.bind_eq_some_iff] at hg
      obtain ⟨c, hc, ht⟩ := hg
      obtain ⟨s, hs, hp⟩ := hel m c _ ht
      exact ⟨s, c, hc, hs, hp⟩
    obtain ⟨l, hll, hl⟩ := list_of len hex
    subst hll
    refine ⟨l, some a, cap, e3, hlc, ⟨rfl, by unfold maxLen at hcm; omega, fun _ => ⟨a, rfl, fun j p hj => ?_⟩⟩, fun s hs => ?_⟩
    · obtain ⟨c, hc, hk, _⟩ := hl j p hj
      obtain ⟨_, hcl, hcell⟩ := World.cells?_some hc
      refine ⟨c, hcl, hk, fun i u hu => ?_⟩
      have hi : i < d.sz := by have := (List.getElem?_eq_some_iff.1 hu).1; omega
      have hq := hcell i hi
      rw [add_add] at hq
      exact hq.trans hu
    · obtain ⟨j, hj⟩ := List.getElem?_of_mem hs
      obtain ⟨_, _, _, hp⟩ := hl j s hj
      exact hp
theorem u8_read {H : Type} {enc : TypeId × Value → H} {W : World} {sp : Nat → Bool} {hd : Bool} (m : Nat) (c : List Value) (y : DataW H × List MemPlace) (h : DataW.trod enc Tryd.prog W 0 sp hd m 5 c = some y) : ∃ s : Int, B8.K W s c ∧ byte s := by
  obtain ⟨n, rfl, _, hw⟩ := DataW.trod_int Tryd.underlying5 h
  exact ⟨n, rfl, wf_b hw⟩
set_option maxRecDepth 100000
section
variable {H : Type} {enc : TypeId × Value → H} {W : World} {sp : Nat → Bool} {hd : Bool} {r : Reach} {b0 : Nat} {v : Value} {d : DataW H} {ps : List MemPlace}
theorem arg3 (hv : Value.okWide Tryd.prog W r b0 3 v) (h : DataW.Trod enc Tryd.prog W 0 sp hd 3 v d ps) : ∃ n : Int, v = .int .i64 n ∧ -9223372036854775808 ≤ n ∧ n ≤ 9223372036854775807 := by
  obtain ⟨n, rfl⟩ := WideShapes.okWide_int Tryd.underlying3 hv
  obtain ⟨fuel, hf⟩ := h
  obtain ⟨n', h, _, hw⟩ := DataW.trod_int Tryd.underlying3 hf
  simp [Value.cells] at h
  subst h
  exact ⟨n, rfl, wf_in hw⟩
theorem arg22 (hv : Value.okWide Tryd.prog W r b0 22 v) (h : DataW.Trod enc Tryd.prog W 0 sp hd 22 v d ps) : ∃ (x : List Int) (A : Option Addr) (c : Nat), v = .slice A x.length c ∧ x.length ≤ c ∧ Kd.C B8 W A x.length x ∧ ∀ y ∈ x, byte y := by
  obtain ⟨a, l, c, rfl⟩ := WideShapes.okWide_slice Tryd.underlying22 hv
  obtain ⟨fuel, hf⟩ := h
  obtain ⟨x, A, c', e, h1, h2, h3⟩ := slice_read (d := B8) (Q := byte) Tryd.underlying22 cells5 hf u8_read
  simp [Value.cells] at e
  obtain ⟨rfl, rfl, rfl⟩ := e
  exact ⟨x, _, _, rfl, h1, h2, h3⟩
end
end Go.Proofs.YtnnnbeimehfiiaaDoor.Q
/-! Arguments as they are handed in: three strings, rows of parts. -/
set_option linter.unusedVariables false
set_option linter.unusedSimpArgs false
namespace Go.Proofs.YtnnnbeimehfiiaaDoor.Q
open Go Go.RowKit Go.ChangeShapes Go.Deep Go.Proofs.YtnnnbeimehfiiaaDoorW.PrintWords
set_option maxRecDepth 100000
theorem cells44 : Tryd.prog.cellsOf 44 = 5 := by kernel_rfl
theorem cells42 : Tryd.prog.cellsOf 42 = 3 := by kernel_rfl
theorem cells4 : Tryd.prog.cellsOf 4 = 1 := by kernel_rfl
theorem five {α : Type} {l : List α} (h : l.length = 5) : ∃ a b c d e, l = [a, b, c, d, e] := by
  match l, h with
  | [a, b, c, d, e], _ => exact ⟨a, b, c, d, e, rfl⟩
section
variable {H : Type} {enc : TypeId × Value → H} {W : World} {sp : Nat → Bool} {hd : Bool} {r : Reach} {b0 : Nat} {v : Value} {d : DataW H} {ps : List MemPlace}
def ptOk (p : Pt) : Prop := (∀ x ∈ p.text, byte x) ∧ (∀ x ∈ p.s0, byte x) ∧ (∀ x ∈ p.s1, byte x) ∧ (∀ x ∈ p.s2, byte x)
theorem bs1_read (m : Nat) (c : Value) (y : DataW H × List MemPlace) (h : DataW.trod enc Tryd.prog W 0 sp hd m 22 [c] = some y) : ∃ (s : List Int) (A : Option Addr) (cp : Nat), c = .slice A s.length cp ∧ s.length ≤ cp ∧ Kd.C B8 W A s.length s ∧ ∀ x ∈ s, byte x := by
  obtain ⟨s, A, cp, h1, h2, h3, h4⟩ := slice_read (d := B8) (Q := byte) Tryd.underlying22 cells5 h u8_read
  simp at h1
  exact ⟨s, A, cp, h1, h2, h3, h4⟩
theorem pt_read (m : Nat) (c : List Value) (y : DataW H × List MemPlace) (h : DataW.trod enc Tryd.prog W 0 sp hd m 44 c = some y) : ∃ p : Pt, kP.K W p c ∧ ptOk p := by
  obtain ⟨y0, y1, y2, n, _, hl, h0, h1, h2⟩ := trod_struct3 Tryd.underlying44 h
  rw [cells44] at hl
  obtain ⟨a, b, c0, c1, c2, rfl⟩ := five hl
  simp only [cells4, cells22, cells42, List.drop_zero, List.drop_succ_cons, List.take_succ_cons, List.take_zero] at h0 h1 h2
  obtain ⟨bv, hb, _⟩ := DataW.trod_bool Tryd.underlying4 h0
  simp at hb
  subst hb
  obtain ⟨t, A1, q1, rfl, g1, k1, b1⟩ := bs1_read _ _ _ h1
  obtain ⟨z0, z1, z2, n2, _, j0, j1, j2⟩ := trod_array3 Tryd.underlying42 cells22 h2
  obtain ⟨s0, A2, q2, rfl, g2, k2, b2⟩ := bs1_read _ _ _ j0
  obtain ⟨s1, A3, q3, rfl, g3, k3, b3⟩ := bs1_read _ _ _ j1
  obtain ⟨s2, A4, q4, rfl, g4, k4, b4⟩ := bs1_read _ _ _ j2
  exact ⟨⟨bv, t, s0, s1, s2⟩, kP_mk W ⟨bv, t, s0, s1, s2⟩ ⟨g1, k1⟩ ⟨g2, k2⟩ ⟨g3, k3⟩ ⟨g4, k4⟩, b1, b2, b3, b4⟩
theorem arg27 (hv : Value.okWide Tryd.prog W r b0 27 v) (h : DataW.Trod enc Tryd.prog W 0 sp hd 27 v d ps) : ∃ (x : List Pt) (A : Option Addr) (c : Nat), v = .slice A x.length c ∧ x.length ≤ c ∧ Kd.C kP W A x.length x ∧ ∀ p ∈ x, ptOk p := by
  obtain ⟨a, l, c, rfl⟩ := WideShapes.okWide_slice Tryd.underlying27 hv
  obtain ⟨fuel, hf⟩ := h
  obtain ⟨x, A, c', e, h1, h2, h3⟩ := slice_read (d := kP) (Q := ptOk) Tryd.underlying27 cells44 hf pt_read
  simp [Value.cells] at e
  obtain ⟨rfl, rfl, rfl⟩ := e
  exact ⟨x, _, _, rfl, h1, h2, h3⟩
end
end Go.Proofs.YtnnnbeimehfiiaaDoor.Q
-- Written by a program of this session (wip/gen_same.py) for this claim; Lean checks it.
/-! scarfref18.Same at two slices that hold the same parts: true. -/
set_option linter.unusedVariables false
set_option linter.unusedSimpArgs false
namespace Go.Proofs.YtnnnbeimehfiiaaDoor.Q
open Go Go.RowKit Go.BigFrame Go.Proofs.YtnnnbeimehfiiaaDoorW.PrintWords Go.Proofs.YtnnnbeimehfiiaaDoorW.PrintLast Go.Proofs.YtnnnbeimehfiiaaDoorW.PrintMore Go.Proofs.YtnnnbeimehfiiaaDoorW.SL
end Go.Proofs.YtnnnbeimehfiiaaDoor.Q
/-
  DERIVED: THE SHELF's CONTRACTS AT THIS DUMP, IN PLAIN WORDS (tools/lay-plain.mjs out of 'YtnnnbeimehfiiaaDoorXShelf.lean', which tools/lay-shelf.mjs wrote): THE SAME DECLARATIONS UNDER THE SAME NAMES: 'import', 'namespace', 'open', 'def', 'theorem' AND NOTHING ELSE: no command of the shelf's: FOR A HAND-IN. Each laying: the table of numbers ('.._ren') and one theorem, a field a fact of the dump's own or the kernel's comparison; each contract: ONE APPLICATION.
-/
namespace Go.Proofs
open Go.Shelf
def Tryd.lays162_ren : Go.Shelf.Ren := ⟨fun | 162 => 30 | 232 => 44 | 227 => 45 | 234 => 46 | 236 => 47 | 228 => 60 | 271 => 61 | 151 => 62 | 120 => 74 | 197 => 75 | 152 => 76 | 260 => 84 | 137 => 48 | 119 => 85 | 224 => 86 | 225 => 87 | 217 => 63 | 266 => 77 | n => n, fun | 9 => 9 | 4 => 4 | 3 => 3 | 5 => 5 | 117 => 89 | 116 => 88 | 0 => 0 | 124 => 92 | 21 => 21 | 105 => 107 | 46 => 111 | 119 => 132 | 139 => 135 | 138 => 134 | n => n, fun | 3 => 2 | 4 => 3 | n => n⟩
theorem Tryd.lays162 : Go.Proofs.Lays.n162 Tryd.prog Tryd.lays162_ren := {
  mixed := by kernel_rfl
  f119 := Tryd.func85.trans (congrArg some (by kernel_rfl))
  f120 := Tryd.func74.trans (congrArg some (by kernel_rfl))
  f137 := Tryd.func48.trans (congrArg some (by kernel_rfl))
  f151 := Tryd.func62.trans (congrArg some (by kernel_rfl))
  f152 := Tryd.func76.trans (congrArg some (by kernel_rfl))
  f162 := Tryd.func30.trans (congrArg some (by kernel_rfl))
  f197 := Tryd.func75.trans (congrArg some (by kernel_rfl))
  f217 := Tryd.func63.trans (congrArg some (by kernel_rfl))
  f224 := Tryd.func86.trans (congrArg some (by kernel_rfl))
  f225 := Tryd.func87.trans (congrArg some (by kernel_rfl))
  f227 := Tryd.func45.trans (congrArg some (by kernel_rfl))
  f228 := Tryd.func60.trans (congrArg some (by kernel_rfl))
  f232 := Tryd.func44.trans (congrArg some (by kernel_rfl))
  f234 := Tryd.func46.trans (congrArg some (by kernel_rfl))
  f236 := Tryd.func47.trans (congrArg some (by kernel_rfl))
  f260 := Tryd.func84.trans (congrArg some (by kernel_rfl))
  f266 := Tryd.func77.trans (congrArg some (by kernel_rfl))
  f271 := Tryd.func61.trans (congrArg some (by kernel_rfl))
  t0 := Tryd.underlying0
  a0 := Tryd.isAgg0
  z0 := Tryd.sizeOf0
  v0 := Tryd.zeroValue0
  t3 := Tryd.underlying3
  a3 := Tryd.isAgg3
  z3 := Tryd.sizeOf3
  v3 := Tryd.zeroValue3
  t4 := Tryd.underlying4
  a4 := Tryd.isAgg4
  z4 := Tryd.sizeOf4
  v4 := Tryd.zeroValue4
  t5 := Tryd.underlying5
  a5 := Tryd.isAgg5
  z5 := Tryd.sizeOf5
  v5 := Tryd.zeroValue5
  t9 := Tryd.underlying9
  a9 := Tryd.isAgg9
  z9 := Tryd.sizeOf9
  v9 := Tryd.zeroValue9
  t21 := Tryd.underlying21
  a21 := Tryd.isAgg21
  z21 := Tryd.sizeOf21
  v21 := Tryd.zeroValue21
  t46 := Tryd.underlying111
  a46 := Tryd.isAgg111
  z46 := Tryd.sizeOf111
  v46 := Tryd.zeroValue111
  t105 := Tryd.underlying107
  a105 := Tryd.isAgg107
  z105 := Tryd.sizeOf107
  v105 := Tryd.zeroValue107
  t116 := Tryd.underlying88
  a116 := Tryd.isAgg88
  z116 := Tryd.sizeOf88
  t117 := Tryd.underlying89
  a117 := Tryd.isAgg89
  z117 := Tryd.sizeOf89
  v117 := Tryd.zeroValue89
  t119 := Tryd.underlying132
  a119 := Tryd.isAgg132
  z119 := Tryd.sizeOf132
  t124 := Tryd.underlying92
  a124 := Tryd.isAgg92
  z124 := Tryd.sizeOf92
  v124 := Tryd.zeroValue92
  t138 := Tryd.underlying134
  a138 := Tryd.isAgg134
  z138 := Tryd.sizeOf134
  v138 := Tryd.zeroValue134
  t139 := Tryd.underlying135
  a139 := Tryd.isAgg135
  z139 := Tryd.sizeOf135
  v139 := Tryd.zeroValue135
  g3 := by kernel_rfl
  g4 := by kernel_rfl }
def Tryd.lays105_ren : Go.Shelf.Ren := ⟨fun | 105 => 55 | 212 => 66 | 99 => 67 | 165 => 68 | 166 => 69 | 170 => 70 | 169 => 71 | 263 => 79 | 264 => 80 | 206 => 81 | 240 => 82 | 241 => 83 | 276 => 88 | 277 => 89 | n => n, fun | 9 => 9 | 3 => 3 | 4 => 4 | 20 => 20 | 0 => 0 | 46 => 111 | 109 => 112 | 5 => 5 | 72 => 117 | 76 => 76 | 51 => 121 | 146 => 122 | 53 => 49 | 148 => 124 | 70 => 115 | 37 => 22 | 75 => 75 | 127 => 126 | 164 => 129 | 80 => 119 | n => n, fun | n => n⟩
theorem Tryd.lays105 : Go.Proofs.Lays.n105 Tryd.prog Tryd.lays105_ren := {
  mixed := by kernel_rfl
  f99 := Tryd.func67.trans (congrArg some (by kernel_rfl))
  f105 := Tryd.func55.trans (congrArg some (by kernel_rfl))
  f165 := Tryd.func68.trans (congrArg some (by kernel_rfl))
  f166 := Tryd.func69.trans (congrArg some (by kernel_rfl))
  f169 := Tryd.func71.trans (congrArg some (by kernel_rfl))
  f170 := Tryd.func70.trans (congrArg some (by kernel_rfl))
  f206 := Tryd.func81.trans (congrArg some (by kernel_rfl))
  f212 := Tryd.func66.trans (congrArg some (by kernel_rfl))
  f240 := Tryd.func82.trans (congrArg some (by kernel_rfl))
  f241 := Tryd.func83.trans (congrArg some (by kernel_rfl))
  f263 := Tryd.func79.trans (congrArg some (by kernel_rfl))
  f264 := Tryd.func80.trans (congrArg some (by kernel_rfl))
  f276 := Tryd.func88.trans (congrArg some (by kernel_rfl))
  f277 := Tryd.func89.trans (congrArg some (by kernel_rfl))
  t0 := Tryd.underlying0
  a0 := Tryd.isAgg0
  z0 := Tryd.sizeOf0
  v0 := Tryd.zeroValue0
  t3 := Tryd.underlying3
  a3 := Tryd.isAgg3
  z3 := Tryd.sizeOf3
  v3 := Tryd.zeroValue3
  t4 := Tryd.underlying4
  a4 := Tryd.isAgg4
  z4 := Tryd.sizeOf4
  v4 := Tryd.zeroValue4
  t5 := Tryd.underlying5
  a5 := Tryd.isAgg5
  z5 := Tryd.sizeOf5
  v5 := Tryd.zeroValue5
  t9 := Tryd.underlying9
  a9 := Tryd.isAgg9
  z9 := Tryd.sizeOf9
  v9 := Tryd.zeroValue9
  t20 := Tryd.underlying20
  a20 := Tryd.isAgg20
  z20 := Tryd.sizeOf20
  v20 := Tryd.zeroValue20
  t37 := Tryd.underlying22
  a37 := Tryd.isAgg22
  z37 := Tryd.sizeOf22
  v37 := Tryd.zeroValue22
  t46 := Tryd.underlying111
  a46 := Tryd.isAgg111
  z46 := Tryd.sizeOf111
  v46 := Tryd.zeroValue111
  t51 := Tryd.underlying121
  a51 := Tryd.isAgg121
  z51 := Tryd.sizeOf121
  v51 := Tryd.zeroValue121
  t53 := Tryd.underlying49
  a53 := Tryd.isAgg49
  z53 := Tryd.sizeOf49
  v53 := Tryd.zeroValue49
  t70 := Tryd.underlying115
  a70 := Tryd.isAgg115
  z70 := Tryd.sizeOf115
  v70 := Tryd.zeroValue115
  t72 := Tryd.underlying117
  a72 := Tryd.isAgg117
  z72 := Tryd.sizeOf117
  v72 := Tryd.zeroValue117
  t75 := Tryd.underlying75
  a75 := Tryd.isAgg75
  z75 := Tryd.sizeOf75
  v75 := Tryd.zeroValue75
  t76 := Tryd.underlying76
  a76 := Tryd.isAgg76
  z76 := Tryd.sizeOf76
  v76 := Tryd.zeroValue76
  t109 := Tryd.underlying112
  a109 := Tryd.isAgg112
  z109 := Tryd.sizeOf112
  v109 := Tryd.zeroValue112
  t127 := Tryd.underlying126
  a127 := Tryd.isAgg126
  z127 := Tryd.sizeOf126
  v127 := Tryd.zeroValue126
  t146 := Tryd.underlying122
  a146 := Tryd.isAgg122
  z146 := Tryd.sizeOf122
  v146 := Tryd.zeroValue122
  t148 := Tryd.underlying124
  a148 := Tryd.isAgg124
  z148 := Tryd.sizeOf124
  v148 := Tryd.zeroValue124
  t164 := Tryd.underlying129
  a164 := Tryd.isAgg129
  z164 := Tryd.sizeOf129
  v164 := Tryd.zeroValue129 }
def Tryd.lays178_ren : Go.Shelf.Ren := ⟨fun | 178 => 54 | 251 => 49 | 252 => 50 | 181 => 51 | 184 => 64 | 290 => 65 | 324 => 78 | n => n, fun | 130 => 94 | 9 => 9 | 3 => 3 | 75 => 75 | 0 => 0 | 93 => 71 | 91 => 69 | 131 => 95 | 4 => 4 | 37 => 22 | 20 => 20 | 80 => 119 | 5 => 5 | n => n, fun | 14 => 0 | n => n⟩
theorem Tryd.lays178 : Go.Proofs.LaysM.n178 Tryd.prog Tryd.lays178_ren := {
  mixed := by kernel_rfl
  f178 := Tryd.func54.trans (congrArg some (by kernel_rfl))
  f181 := Tryd.func51.trans (congrArg some (by kernel_rfl))
  f184 := Tryd.func64.trans (congrArg some (by kernel_rfl))
  f251 := Tryd.func49.trans (congrArg some (by kernel_rfl))
  f252 := Tryd.func50.trans (congrArg some (by kernel_rfl))
  f290 := Tryd.func65.trans (congrArg some (by kernel_rfl))
  f324 := Tryd.func78.trans (congrArg some (by kernel_rfl))
  t0 := Tryd.underlying0
  a0 := Tryd.isAgg0
  z0 := Tryd.sizeOf0
  v0 := Tryd.zeroValue0
  t3 := Tryd.underlying3
  a3 := Tryd.isAgg3
  z3 := Tryd.sizeOf3
  v3 := Tryd.zeroValue3
  t4 := Tryd.underlying4
  a4 := Tryd.isAgg4
  z4 := Tryd.sizeOf4
  v4 := Tryd.zeroValue4
  t9 := Tryd.underlying9
  a9 := Tryd.isAgg9
  z9 := Tryd.sizeOf9
  v9 := Tryd.zeroValue9
  t20 := Tryd.underlying20
  a20 := Tryd.isAgg20
  z20 := Tryd.sizeOf20
  v20 := Tryd.zeroValue20
  t37 := Tryd.underlying22
  a37 := Tryd.isAgg22
  z37 := Tryd.sizeOf22
  v37 := Tryd.zeroValue22
  t75 := Tryd.underlying75
  a75 := Tryd.isAgg75
  z75 := Tryd.sizeOf75
  v75 := Tryd.zeroValue75
  t91 := Tryd.underlying69
  a91 := Tryd.isAgg69
  z91 := Tryd.sizeOf69
  v91 := Tryd.zeroValue69
  t93 := Tryd.underlying71
  a93 := Tryd.isAgg71
  z93 := Tryd.sizeOf71
  v93 := Tryd.zeroValue71
  t130 := Tryd.underlying94
  a130 := Tryd.isAgg94
  z130 := Tryd.sizeOf94
  v130 := Tryd.zeroValue94
  t131 := Tryd.underlying95
  a131 := Tryd.isAgg95
  z131 := Tryd.sizeOf95
  v131 := Tryd.zeroValue95
  g14 := by kernel_rfl
  t5 := Tryd.underlying5
  a5 := Tryd.isAgg5
  z5 := Tryd.sizeOf5
  v5 := Tryd.zeroValue5
  t80 := Tryd.underlying119
  a80 := Tryd.isAgg119
  z80 := Tryd.sizeOf119
  v80 := Tryd.zeroValue119
  i0 := by kernel_rfl
  i3 := by kernel_rfl
  i4 := by kernel_rfl
  i5 := by kernel_rfl
  i9 := by kernel_rfl
  i20 := by kernel_rfl
  i37 := by kernel_rfl
  i75 := by kernel_rfl
  i80 := by kernel_rfl
  i91 := by kernel_rfl
  i93 := by kernel_rfl
  i130 := by kernel_rfl
  i131 := by kernel_rfl
  m14 := by kernel_rfl }
def Tryd.lays179_ren : Go.Shelf.Ren := ⟨fun | 179 => 53 | 251 => 49 | 252 => 50 | 181 => 51 | 184 => 64 | 290 => 65 | 324 => 78 | n => n, fun | 130 => 94 | 5 => 5 | 75 => 75 | 0 => 0 | 93 => 71 | 91 => 69 | 3 => 3 | 131 => 95 | 4 => 4 | 37 => 22 | 20 => 20 | 80 => 119 | 9 => 9 | n => n, fun | 14 => 0 | n => n⟩
theorem Tryd.lays179 : Go.Proofs.LaysM.n179 Tryd.prog Tryd.lays179_ren := {
  mixed := by kernel_rfl
  f179 := Tryd.func53.trans (congrArg some (by kernel_rfl))
  f181 := Tryd.func51.trans (congrArg some (by kernel_rfl))
  f184 := Tryd.func64.trans (congrArg some (by kernel_rfl))
  f251 := Tryd.func49.trans (congrArg some (by kernel_rfl))
  f252 := Tryd.func50.trans (congrArg some (by kernel_rfl))
  f290 := Tryd.func65.trans (congrArg some (by kernel_rfl))
  f324 := Tryd.func78.trans (congrArg some (by kernel_rfl))
  t0 := Tryd.underlying0
  a0 := Tryd.isAgg0
  z0 := Tryd.sizeOf0
  v0 := Tryd.zeroValue0
  t3 := Tryd.underlying3
  a3 := Tryd.isAgg3
  z3 := Tryd.sizeOf3
  v3 := Tryd.zeroValue3
  t4 := Tryd.underlying4
  a4 := Tryd.isAgg4
  z4 := Tryd.sizeOf4
  v4 := Tryd.zeroValue4
  t5 := Tryd.underlying5
  a5 := Tryd.isAgg5
  z5 := Tryd.sizeOf5
  v5 := Tryd.zeroValue5
  t20 := Tryd.underlying20
  a20 := Tryd.isAgg20
  z20 := Tryd.sizeOf20
  v20 := Tryd.zeroValue20
  t37 := Tryd.underlying22
  a37 := Tryd.isAgg22
  z37 := Tryd.sizeOf22
  v37 := Tryd.zeroValue22
  t75 := Tryd.underlying75
  a75 := Tryd.isAgg75
  z75 := Tryd.sizeOf75
  v75 := Tryd.zeroValue75
  t91 := Tryd.underlying69
  a91 := Tryd.isAgg69
  z91 := Tryd.sizeOf69
  v91 := Tryd.zeroValue69
  t93 := Tryd.underlying71
  a93 := Tryd.isAgg71
  z93 := Tryd.sizeOf71
  v93 := Tryd.zeroValue71
  t130 := Tryd.underlying94
  a130 := Tryd.isAgg94
  z130 := Tryd.sizeOf94
  v130 := Tryd.zeroValue94
  t131 := Tryd.underlying95
  a131 := Tryd.isAgg95
  z131 := Tryd.sizeOf95
  v131 := Tryd.zeroValue95
  g14 := by kernel_rfl
  t9 := Tryd.underlying9
  a9 := Tryd.isAgg9
  z9 := Tryd.sizeOf9
  v9 := Tryd.zeroValue9
  t80 := Tryd.underlying119
  a80 := Tryd.isAgg119
  z80 := Tryd.sizeOf119
  v80 := Tryd.zeroValue119
  i0 := by kernel_rfl
  i3 := by kernel_rfl
  i4 := by kernel_rfl
  i5 := by kernel_rfl
  i9 := by kernel_rfl
  i20 := by kernel_rfl
  i37 := by kernel_rfl
  i75 := by kernel_rfl
  i80 := by kernel_rfl
  i91 := by kernel_rfl
  i93 := by kernel_rfl
  i130 := by kernel_rfl
  i131 := by kernel_rfl
  m14 := by kernel_rfl }
def Tryd.lays180_ren : Go.Shelf.Ren := ⟨fun | 180 => 34 | 251 => 49 | 252 => 50 | 181 => 51 | 184 => 64 | 290 => 65 | 324 => 78 | n => n, fun | 130 => 94 | 37 => 22 | 3 => 3 | 75 => 75 | 0 => 0 | 93 => 71 | 91 => 69 | 131 => 95 | 4 => 4 | 20 => 20 | 5 => 5 | 80 => 119 | 9 => 9 | n => n, fun | 14 => 0 | n => n⟩
theorem Tryd.lays180 : Go.Proofs.LaysM.n180 Tryd.prog Tryd.lays180_ren := {
  mixed := by kernel_rfl
  f180 := Tryd.func34.trans (congrArg some (by kernel_rfl))
  f181 := Tryd.func51.trans (congrArg some (by kernel_rfl))
  f184 := Tryd.func64.trans (congrArg some (by kernel_rfl))
  f251 := Tryd.func49.trans (congrArg some (by kernel_rfl))
  f252 := Tryd.func50.trans (congrArg some (by kernel_rfl))
  f290 := Tryd.func65.trans (congrArg some (by kernel_rfl))
  f324 := Tryd.func78.trans (congrArg some (by kernel_rfl))
  t0 := Tryd.underlying0
  a0 := Tryd.isAgg0
  z0 := Tryd.sizeOf0
  v0 := Tryd.zeroValue0
  t3 := Tryd.underlying3
  a3 := Tryd.isAgg3
  z3 := Tryd.sizeOf3
  v3 := Tryd.zeroValue3
  t4 := Tryd.underlying4
  a4 := Tryd.isAgg4
  z4 := Tryd.sizeOf4
  v4 := Tryd.zeroValue4
  t20 := Tryd.underlying20
  a20 := Tryd.isAgg20
  z20 := Tryd.sizeOf20
  v20 := Tryd.zeroValue20
  t37 := Tryd.underlying22
  a37 := Tryd.isAgg22
  z37 := Tryd.sizeOf22
  v37 := Tryd.zeroValue22
  t75 := Tryd.underlying75
  a75 := Tryd.isAgg75
  z75 := Tryd.sizeOf75
  v75 := Tryd.zeroValue75
  t91 := Tryd.underlying69
  a91 := Tryd.isAgg69
  z91 := Tryd.sizeOf69
  v91 := Tryd.zeroValue69
  t93 := Tryd.underlying71
  a93 := Tryd.isAgg71
  z93 := Tryd.sizeOf71
  v93 := Tryd.zeroValue71
  t130 := Tryd.underlying94
  a130 := Tryd.isAgg94
  z130 := Tryd.sizeOf94
  v130 := Tryd.zeroValue94
  t131 := Tryd.underlying95
  a131 := Tryd.isAgg95
  z131 := Tryd.sizeOf95
  v131 := Tryd.zeroValue95
  g14 := by kernel_rfl
  t5 := Tryd.underlying5
  a5 := Tryd.isAgg5
  z5 := Tryd.sizeOf5
  v5 := Tryd.zeroValue5
  t9 := Tryd.underlying9
  a9 := Tryd.isAgg9
  z9 := Tryd.sizeOf9
  v9 := Tryd.zeroValue9
  t80 := Tryd.underlying119
  a80 := Tryd.isAgg119
  z80 := Tryd.sizeOf119
  v80 := Tryd.zeroValue119
  i0 := by kernel_rfl
  i3 := by kernel_rfl
  i4 := by kernel_rfl
  i5 := by kernel_rfl
  i9 := by kernel_rfl
  i20 := by kernel_rfl
  i37 := by kernel_rfl
  i75 := by kernel_rfl
  i80 := by kernel_rfl
  i91 := by kernel_rfl
  i93 := by kernel_rfl
  i130 := by kernel_rfl
  i131 := by kernel_rfl
  m14 := by kernel_rfl }
def Tryd.lays181_ren : Go.Shelf.Ren := ⟨fun | 181 => 51 | n => n, fun | 130 => 94 | 3 => 3 | 0 => 0 | 93 => 71 | 37 => 22 | 91 => 69 | 5 => 5 | n => n, fun | n => n⟩
theorem Tryd.lays181 : Go.Proofs.LaysM.n181 Tryd.prog Tryd.lays181_ren := {
  mixed := by kernel_rfl
  f181 := Tryd.func51.trans (congrArg some (by kernel_rfl))
  t0 := Tryd.underlying0
  a0 := Tryd.isAgg0
  z0 := Tryd.sizeOf0
  v0 := Tryd.zeroValue0
  t3 := Tryd.underlying3
  a3 := Tryd.isAgg3
  z3 := Tryd.sizeOf3
  v3 := Tryd.zeroValue3
  t37 := Tryd.underlying22
  a37 := Tryd.isAgg22
  z37 := Tryd.sizeOf22
  v37 := Tryd.zeroValue22
  t93 := Tryd.underlying71
  a93 := Tryd.isAgg71
  z93 := Tryd.sizeOf71
  v93 := Tryd.zeroValue71
  t130 := Tryd.underlying94
  a130 := Tryd.isAgg94
  z130 := Tryd.sizeOf94
  v130 := Tryd.zeroValue94
  t5 := Tryd.underlying5
  a5 := Tryd.isAgg5
  z5 := Tryd.sizeOf5
  v5 := Tryd.zeroValue5
  t91 := Tryd.underlying69
  a91 := Tryd.isAgg69
  z91 := Tryd.sizeOf69
  v91 := Tryd.zeroValue69
  i0 := by kernel_rfl
  i3 := by kernel_rfl
  i5 := by kernel_rfl
  i37 := by kernel_rfl
  i91 := by kernel_rfl
  i93 := by kernel_rfl
  i130 := by kernel_rfl }
def Tryd.lays183_ren : Go.Shelf.Ren := ⟨fun | 183 => 52 | n => n, fun | 130 => 94 | 37 => 22 | 0 => 0 | 93 => 71 | 3 => 3 | 5 => 5 | 91 => 69 | n => n, fun | n => n⟩
theorem Tryd.lays183 : Go.Proofs.LaysM.n183 Tryd.prog Tryd.lays183_ren := {
  mixed := by kernel_rfl
  f183 := Tryd.func52.trans (congrArg some (by kernel_rfl))
  t0 := Tryd.underlying0
  a0 := Tryd.isAgg0
  z0 := Tryd.sizeOf0
  v0 := Tryd.zeroValue0
  t3 := Tryd.underlying3
  a3 := Tryd.isAgg3
  z3 := Tryd.sizeOf3
  v3 := Tryd.zeroValue3
  t37 := Tryd.underlying22
  a37 := Tryd.isAgg22
  z37 := Tryd.sizeOf22
  v37 := Tryd.zeroValue22
  t93 := Tryd.underlying71
  a93 := Tryd.isAgg71
  z93 := Tryd.sizeOf71
  v93 := Tryd.zeroValue71
  t130 := Tryd.underlying94
  a130 := Tryd.isAgg94
  z130 := Tryd.sizeOf94
  v130 := Tryd.zeroValue94
  t5 := Tryd.underlying5
  a5 := Tryd.isAgg5
  z5 := Tryd.sizeOf5
  v5 := Tryd.zeroValue5
  t91 := Tryd.underlying69
  a91 := Tryd.isAgg69
  z91 := Tryd.sizeOf69
  v91 := Tryd.zeroValue69
  i0 := by kernel_rfl
  i3 := by kernel_rfl
  i5 := by kernel_rfl
  i37 := by kernel_rfl
  i91 := by kernel_rfl
  i93 := by kernel_rfl
  i130 := by kernel_rfl }
end Go.Proofs
