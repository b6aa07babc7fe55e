/- The texts of this claim that lie below its row, in their order: GO0. -/
import Derived.Deep.RegionLaw
import Derived.Deep.RegionHeld3
import Derived.Deep.DeepCutAuto
import Derived.Deep.CutBlock
import Derived.Test.YtfmlpkeaiohknaaZA10
set_option linter.unusedVariables false
set_option linter.unusedSimpArgs false
open Array renaming length_toList -> RE
open ByteArray.toList renaming loop -> QF
open Go renaming heap_alloc_new -> Pv
open Go.RowKit.Below renaming refl -> Pn
open List renaming append_assoc -> PP, getElem?_append_right -> PY, set_append_right -> QN, perm_append_comm -> Q8, replicate -> Pz
open Nat renaming add_sub_cancel_left -> Q2
namespace Go.Proofs.Q
open Go Go.RowKit Go.Lib Go.Sort Go.Proofs.V.Words Go.Proofs.V.Last Go.Proofs.V.More Go.Proofs.V.SL
attribute [local go_sem] BI BJ BY BZ Bu Bv BL BM
theorem G7 (a : ByteArray) : ∀ (n i : Nat) (r : List UInt8), a.size - i = n -> QF a i r = r.reverse ++ a.data.toList.drop i
 | 0, i, r, h => by
  unfold QF;rw [if_neg (by omega), List.drop_eq_nil_of_le (by rw [RE]; show a.size <= i; omega)];simp
 | n + 1, i, r, h => by
  unfold QF;rw [if_pos (by omega), G7 a n (i + 1) _ (by omega)];have hl : i < a.data.toList.length := by rw [RE]; show i < a.size; omega
  rw [List.drop_eq_getElem_cons hl];have : a.get! i = a.data.toList[i] := by
   show a.data[i]! = _
   simp at hl;simp [getElem!_pos, hl]
  rw [this];simp
theorem G8 (a : ByteArray) : a.toList = a.data.toList := by
 unfold ByteArray.toList;rw [G7 a _ 0 [] rfl];simp
theorem MO {a b : ByteArray} (h : a.data.toList = b.data.toList) : a = b := by
 obtain ⟨⟨a⟩⟩ := a; obtain ⟨⟨b⟩⟩ := b;simp only at h;rw [h]
theorem toList_inj {a b : ByteArray} : a.toList = b.toList ↔ a = b := ⟨fun h => MO (by rw [G8, G8] at h; exact h), fun h => by rw [h]⟩
theorem D8 {w0 w : World} {Z : Nat -> Prop} {L : List Bj} {F : List FA} {α : Type} {d : Kd α} {e B : Nat} (S : Au w0 Z L F w) : Au w0 Z (Bo d e B (.slice none 0 0) [] :: L) F w :=
 S.more (a := Bo d e B (.slice none 0 0) []) (f := fun _ => False) (Pn _ _) ⟨fun _ h => h.elim, Kd.R_nil _ _ _ _ _⟩ (fun _ h => h.elim)
section
variable {w0 w w' : World} {Z : Nat -> Prop} {F : List FA} {gb bm N k b m : Nat} {pre X : List Bj} {ad : Int -> Nat} {ks : List Kn} {K : Int -> Bool}
theorem AG.setPut (H : AG w0 Z F gb bm pre X N ad ks w) (hk : X[k]? = some (Df b m K)) {x : Int} (hx : in64 x) (hm2 : m < maxLen) : ∃ w', (Instr.mapUpdate 74 (.map (some b)) (.int .i64 x) (.bool true)).run Try.prog w = .ok () w' /\ AG w0 Z F gb bm pre (X.set k (Df b (m + 1) (fun j => K j || decide (j = x)))) N ad ks w' := by
 obtain ⟨g, ids, mm, h1, hm, hids, S⟩ := H;unfold GL at S;rw [<- PP] at S;have h2 : ∀ L : List Bj, (L ++ X)[L.length + k]? = some (Df b m K) := fun L => by rw [PY (by omega), Q2]; exact hk
 obtain ⟨w', hr, S', _⟩ := Ir S _ (h2 _) hx hm2;refine ⟨w', hr, g, ids, mm, h1, hm, hids, ?_⟩;rw [QN _ _ (by omega), Q2] at S';unfold GL;rw [<- PP];exact S'
theorem AG.box2 (H : AG w0 Z F gb bm pre X N ad ks w) (c1 c2 : Array Value) (t1 t2 : TypeId) : AG w0 Z F gb bm pre (Al (w.heap.size + 1) t2 c2 :: Al w.heap.size t1 c1 :: X) N ad ks ((w.alloc (.cells c1 t1)).alloc (.cells c2 t2)).drew := by
 have H1 := H.box (g := w.heap.size) rfl (Pv w (.cells c1 t1)) (Ah (Pn _ _) _);have H2 := (H1.box (g := (w.alloc (.cells c1 t1)).heap.size) rfl (Pv (w.alloc (.cells c1 t1)) (.cells c2 t2)) (Ah (Pn _ _) _)).drew;rw [show (w.alloc (.cells c1 t1)).heap.size = w.heap.size + 1 by simp] at H2;exact H2
theorem AG.toFront3 {a b c p q r : Bj} {Y : List Bj} (H : AG w0 Z F gb bm pre (a :: b :: c :: p :: q :: r :: Y) N ad ks w) : AG w0 Z F gb bm pre (p :: q :: r :: a :: b :: c :: Y) N ad ks w :=
 H.permX ((Q8 (l₁ := [a, b, c]) (l₂ := [p, q, r])).append_right Y)
theorem AG.drop3 {a b c p q r : Bj} {Y : List Bj} (H : AG w0 Z F gb bm pre (p :: q :: r :: a :: b :: c :: Y) N ad ks w) : AG w0 Z F gb bm pre (p :: q :: r :: Y) N ad ks w :=
 (H.permX ((Q8 (l₁ := [p, q, r]) (l₂ := [a, b, c])).append_right Y)).drop.drop.drop
theorem AG.setGet (H : AG w0 Z F gb bm pre X N ad ks w) (hk : X[k]? = some (Df b m K)) {x : Int} (hx : in64 x) : (Instr.lookup 74 (.map (some b)) (.int .i64 x) false).run Try.prog w = .ok (.bool (K x)) w :=
 H.getX fun L S => KD S (L.length + k) (by rw [PY (by omega), Q2]; exact hk) hx
end
theorem Nz (n i : Nat) (h : i < n) : (Pz i (-1 : Int) ++ Pz (n - i) 0).set i (-1) = Pz (i + 1) (-1) ++ Pz (n - (i + 1)) 0 := by
 rw [QN _ _ (by simp), List.length_replicate, Nat.sub_self];obtain ⟨m, hm⟩ : ∃ m, n - i = m + 1 := ⟨n - i - 1, by omega⟩;rw [hm, List.replicate_succ, List.set_cons_zero, List.replicate_succ', show n - (i + 1) = m by omega];simp
structure KL (s : PS) : Prop where
 klen : s.K.length = s.N.length
 kin : ∀ i, i < s.N.length -> ∀ k ∈ s.K.getD i [], 0 <= k /\ k < (s.N.length : Int)
 kle : ∀ i, (s.K.getD i []).length <= 1000
def JY (w : World) (R : Bool) (es : List Dm) (e : Ending) (w' : World) : Prop := match R with
 | true => ∃ v, e = .returned (.tuple #[v, .int .i64 0]) /\ Kd.R EY 54 w' w.heap.size (fun _ => True) v es
 | false => e = .returned (.tuple #[.slice none 0 0, .int .i64 8])
def sof.T3 : Bool × List (List Nat × List Nat) := (true, [([], []), ([0], [0]), ([], []), ([2, 1], [2]), ([], []), ([], []), ([4, 1, 3, 0, 1, 4, 5], [1, 4]), ([5, 3, 6, 0, 1, 2, 3, 4, 5, 6], [3, 5])])
def sof.B3 : List Nat := [0, 1, 0, 7, 0, 0, 63, 127]
theorem sof.tab3 : Cd .any (DP Try.f15 3) = sof.T3 := by kernel_rfl
theorem sof.bits3 : C0 sof.T3.2 sof.B3 = true := by kernel_rfl
def DK (n : Nat) : Code -> Option Code
 | .block k c => if k = n then some (.block k c) else DK n c
 | .seq a b => match DK n a with
  | some c => some c
  | none => DK n b
 | .loop c => DK n c
 | .scope c => DK n c
 | .cond _ a b => match DK n a with
  | some c => some c
  | none => DK n b
 | _ => none
noncomputable def sof.code (n : Nat) : Code := ((Try.f15.body.bind (DK n)).getD .skip)
end Go.Proofs.Q
