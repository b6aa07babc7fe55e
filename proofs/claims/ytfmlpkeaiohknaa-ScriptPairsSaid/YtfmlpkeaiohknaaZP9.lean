/- The texts of this claim that lie below its row, in their order: GO0. -/
import Derived.Deep.RegionLaw
import Derived.Deep.RegionHeld3
import Derived.Deep.DeepCutAuto
import Derived.Deep.CutBlock
import Derived.Test.YtfmlpkeaiohknaaZP8
/-! script.Of. -/
set_option linter.unusedVariables false
set_option linter.unusedSimpArgs false
namespace Go.Proofs.Ytfmlpkeaiohknaa.Q
open Go Go.RowKit Go.Lib Go.Sort Go.Proofs.YtfmlpkeaiohknaaW.PrintWords Go.Proofs.YtfmlpkeaiohknaaW.PrintLast Go.Proofs.YtfmlpkeaiohknaaW.PrintMore Go.Proofs.YtfmlpkeaiohknaaW.SL
attribute [local go_sem] max2_int min2_int max_two min_two max_three min_three max_four min_four
theorem toList_loop (a : ByteArray) : ∀ (n i : Nat) (r : List UInt8), a.size - i = n → ByteArray.toList.loop a i r = r.reverse ++ a.data.toList.drop i
  | 0, i, r, h => by
    unfold ByteArray.toList.loop
    rw [if_neg (by omega), List.drop_eq_nil_of_le (by rw [Array.length_toList]; show a.size ≤ i; omega)]
    simp
  | n + 1, i, r, h => by
    unfold ByteArray.toList.loop
    rw [if_pos (by omega), toList_loop a n (i + 1) _ (by omega)]
    have hl : i < a.data.toList.length := by rw [Array.length_toList]; show i < a.size; omega
    rw [List.drop_eq_getElem_cons hl]
    have : a.get! i = a.data.toList[i] := by
      show a.data[i]! = _
      simp at hl
      simp [getElem!_pos, hl]
    rw [this]
    simp
theorem toList_data (a : ByteArray) : a.toList = a.data.toList := by
  unfold ByteArray.toList
  rw [toList_loop a _ 0 [] rfl]
  simp
theorem data_inj {a b : ByteArray} (h : a.data.toList = b.data.toList) : a = b := by
  obtain ⟨⟨a⟩⟩ := a; obtain ⟨⟨b⟩⟩ := b
  simp only at h
  rw [h]
theorem toList_inj {a b : ByteArray} : a.toList = b.toList ↔ a = b := ⟨fun h => data_inj (by rw [toList_data, toList_data] at h; exact h), fun h => by rw [h]⟩
theorem stt_rowOf_nil {w0 w : World} {Z : Nat → Prop} {L : List Asr} {F : List FA} {α : Type} {d : Kd α} {e B : Nat} (S : Stt w0 Z L F w) : Stt w0 Z (rowOf d e B (.slice none 0 0) [] :: L) F w :=
  S.more (a := rowOf d e B (.slice none 0 0) []) (f := fun _ => False) (Below.refl _ _) ⟨fun _ h => h.elim, Kd.R_nil _ _ _ _ _⟩ (fun _ h => h.elim)
section
variable {w0 w w' : World} {Z : Nat → Prop} {F : List FA} {gb bm N k b m : Nat} {pre X : List Asr} {ad : Int → Nat} {ks : List Kn} {K : Int → Bool}
theorem Grove.setPut (H : Grove w0 Z F gb bm pre X N ad ks w) (hk : X[k]? = some (mpS b m K)) {x : Int} (hx : in64 x) (hm2 : m < maxLen) : ∃ w', (Instr.mapUpdate 74 (.map (some b)) (.int .i64 x) (.bool true)).run Try.prog w = .ok () w' ∧ Grove w0 Z F gb bm pre (X.set k (mpS b (m + 1) (fun j => K j || decide (j = x)))) N ad ks w' := by
  obtain ⟨g, ids, mm, h1, hm, hids, S⟩ := H
  unfold GL at S
  rw [← List.append_assoc] at S
  have h2 : ∀ L : List Asr, (L ++ X)[L.length + k]? = some (mpS b m K) := fun L => by rw [List.getElem?_append_right (by omega), Nat.add_sub_cancel_left]; exact hk
  obtain ⟨w', hr, S', _⟩ := set_put S _ (h2 _) hx hm2
  refine ⟨w', hr, g, ids, mm, h1, hm, hids, ?_⟩
  rw [List.set_append_right _ _ (by omega), Nat.add_sub_cancel_left] at S'
  unfold GL
  rw [← List.append_assoc]
  exact S'
theorem Grove.box2 (H : Grove w0 Z F gb bm pre X N ad ks w) (c1 c2 : Array Value) (t1 t2 : TypeId) : Grove w0 Z F gb bm pre (blk (w.heap.size + 1) t2 c2 :: blk w.heap.size t1 c1 :: X) N ad ks ((w.alloc (.cells c1 t1)).alloc (.cells c2 t2)).drew := by
  have H1 := H.box (g := w.heap.size) rfl (heap_alloc_new w (.cells c1 t1)) (below_alloc (Below.refl _ _) _)
  have H2 := (H1.box (g := (w.alloc (.cells c1 t1)).heap.size) rfl (heap_alloc_new (w.alloc (.cells c1 t1)) (.cells c2 t2)) (below_alloc (Below.refl _ _) _)).drew
  rw [show (w.alloc (.cells c1 t1)).heap.size = w.heap.size + 1 by simp] at H2
  exact H2
theorem Grove.toFront3 {a b c p q r : Asr} {Y : List Asr} (H : Grove w0 Z F gb bm pre (a :: b :: c :: p :: q :: r :: Y) N ad ks w) : Grove w0 Z F gb bm pre (p :: q :: r :: a :: b :: c :: Y) N ad ks w :=
  H.permX ((List.perm_append_comm (l₁ := [a, b, c]) (l₂ := [p, q, r])).append_right Y)
theorem Grove.drop3 {a b c p q r : Asr} {Y : List Asr} (H : Grove w0 Z F gb bm pre (p :: q :: r :: a :: b :: c :: Y) N ad ks w) : Grove w0 Z F gb bm pre (p :: q :: r :: Y) N ad ks w :=
  (H.permX ((List.perm_append_comm (l₁ := [p, q, r]) (l₂ := [a, b, c])).append_right Y)).drop.drop.drop
theorem Grove.setGet (H : Grove w0 Z F gb bm pre X N ad ks w) (hk : X[k]? = some (mpS b m K)) {x : Int} (hx : in64 x) : (Instr.lookup 74 (.map (some b)) (.int .i64 x) false).run Try.prog w = .ok (.bool (K x)) w :=
  H.getX fun L S => set_get S (L.length + k) (by rw [List.getElem?_append_right (by omega), Nat.add_sub_cancel_left]; exact hk) hx
end
theorem rep_set (n i : Nat) (h : i < n) : (List.replicate i (-1 : Int) ++ List.replicate (n - i) 0).set i (-1) = List.replicate (i + 1) (-1) ++ List.replicate (n - (i + 1)) 0 := by
  rw [List.set_append_right _ _ (by simp), List.length_replicate, Nat.sub_self]
  obtain ⟨m, hm⟩ : ∃ m, n - i = m + 1 := ⟨n - i - 1, by omega⟩
  rw [hm, List.replicate_succ, List.set_cons_zero, List.replicate_succ', show n - (i + 1) = m by omega]
  simp
/-- What holds of b's plan. -/
structure PlanB (s : PS) : Prop where
  klen : s.K.length = s.N.length
  kin : ∀ i, i < s.N.length → ∀ k ∈ s.K.getD i [], 0 ≤ k ∧ k < (s.N.length : Int)
  kle : ∀ i, (s.K.getD i []).length ≤ 1000
/-- What Of answers. -/
def OfPost (w : World) (R : Bool) (es : List S54) (e : Ending) (w' : World) : Prop := match R with
  | true => ∃ v, e = .returned (.tuple #[v, .int .i64 0]) ∧ Kd.R k54 54 w' w.heap.size (fun _ => True) v es
  | false => e = .returned (.tuple #[.slice none 0 0, .int .i64 8])
def sof.T3 : Bool × List (List Nat × List Nat) := (true, [([], []), ([0], [0]), ([], []), ([2, 1], [2]), ([], []), ([], []), ([4, 1, 3, 0, 1, 4, 5], [1, 4]), ([5, 3, 6, 0, 1, 2, 3, 4, 5, 6], [3, 5])])
def sof.B3 : List Nat := [0, 1, 0, 7, 0, 0, 63, 127]
theorem sof.tab3 : rtab .any (opsOf Try.f15 3) = sof.T3 := by kernel_rfl
theorem sof.bits3 : waitsOk sof.T3.2 sof.B3 = true := by kernel_rfl
/-- The block of a number in a code. -/
def blockOf (n : Nat) : Code → Option Code
  | .block k c => if k = n then some (.block k c) else blockOf n c
  | .seq a b => match blockOf n a with
    | some c => some c
    | none => blockOf n b
  | .loop c => blockOf n c
  | .scope c => blockOf n c
  | .cond _ a b => match blockOf n a with
    | some c => some c
    | none => blockOf n b
  | _ => none
noncomputable def sof.code (n : Nat) : Code := ((Try.f15.body.bind (blockOf n)).getD .skip)
end Go.Proofs.Ytfmlpkeaiohknaa.Q
