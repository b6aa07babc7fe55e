/- The texts of this claim that lie below its row, in their order: MSt. -/
import Derived.Test.YtfmlpkeaiohknaaZA1
set_option linter.unusedVariables false
set_option linter.unusedSimpArgs false
open Bool renaming false -> BK
open Go renaming World -> Pe, Value -> Pd
open Go.RowKit.Below renaming refl -> Pn
open List renaming mem_append -> Qm, mem_of_getElem? -> Pm, getElem?_set_self -> Q0
namespace Go.Proofs.V.SL
open Go.RowKit Go.Proofs.V.Words
structure FA where
 P : Pe -> (Nat -> Prop) -> Prop
 step : ∀ {w w' : Pe} {Z Z' : Nat -> Prop}, P w Z -> (∀ k, Z k -> k < w.heap.size -> w'.heap[k]? = w.heap[k]?) -> (∀ k, Z k -> Z' k) -> P w' Z'
def AF {α : Type} (d : Kd α) (A : Option Addr) (c : Nat) (xs : List α) : FA :=
 ⟨fun w Z => xs.length <= c /\ Kd.F d w Z A xs.length xs, fun h hs hZ => ⟨h.1, fun W' hW => Kd.F_step h.2 hs W' (fun k hk hl => hW k (hZ k hk) hl)⟩⟩
def Jz {α : Type} (d : Kd α) (ok : Nat -> Prop) (A : Option Addr) (c : Nat) (xs : List α) : FA :=
 ⟨fun w Z => xs.length <= c /\ Kd.F d w ok A xs.length xs /\ ∀ k, ok k -> Z k, fun h hs hZ => ⟨h.1, Kd.F_step h.2.1 (fun k hk hl => hs k (h.2.2 k hk) hl), fun k hk => hZ k (h.2.2 k hk)⟩⟩
structure Au (w0 : Pe) (Z : Nat -> Prop) (l : List Bj) (F : List FA) (w : Pe) : Prop where
 st : St w0 Z l w
 fr : ∀ a ∈ F, a.P w Z
 old : ∀ k, k < w0.heap.size -> Z k
section
variable {w0 w w' : Pe} {Z Z' : Nat -> Prop} {l l' : List Bj} {F F' : List FA}
theorem Au.start (w : Pe) (hF : ∀ a ∈ F, a.P w (fun k => k < w.heap.size)) : Au w (fun k => k < w.heap.size) [] F w :=
 ⟨⟨Pn _ _, fun _ h => h, fun _ => False, fun _ h => h, fun _ h => h.elim⟩, hF, fun _ h => h⟩
theorem Au.below (S : Au w0 Z l F w) : Below w0.heap.size w0 w := S.st.below
theorem Au.keep (S : Au w0 Z l F w) (hb : Below w.heap.size w w') : Au w0 Z l F w' :=
 ⟨(S.st.keep hb).1, fun a ha => a.step (S.fr a ha) (fun k _ hl => hb.block k hl) (fun _ h => h), S.old⟩
theorem Au.box {g t : Nat} {cs : Array Pd} (S : Au w0 Z l F w) (hg : g = w.heap.size) (hx : w'.heap[g]? = some (.cells cs t (0, 0))) (hb : Below w.heap.size w w') : Au w0 Z (Al g t cs :: l) F w' :=
 ⟨(S.st.more hb (a := Al g t cs) (f := fun k => k = g) ⟨fun _ => Iff.rfl, hx⟩ (fun k hk => by omega)).1, (S.keep hb).fr, S.old⟩
theorem Au.call (S : Au w0 Z l F w) (hb : Below w.heap.size w w') (hN : ∀ a ∈ F', a.P w' (fun k => w.heap.size <= k /\ k < w'.heap.size)) : Au w0 (fun k => Z k \/ (w.heap.size <= k /\ k < w'.heap.size)) l (F' ++ F) w' :=
 ⟨S.st.freeze hb, fun a ha => by
  rcases Qm.1 ha with ha | ha
  ·exact a.step (hN a ha) (fun _ _ _ => rfl) (fun k h => .inr h)
  ·exact a.step (S.fr a ha) (fun k _ hl => hb.block k hl) (fun k h => .inl h), fun k h => .inl (S.old k h)⟩
theorem Au.more {a : Bj} {f : Nat -> Prop} (S : Au w0 Z l F w) (hb : Below w.heap.size w w') (ha : a.F w' f) (hn : ∀ k, f k -> w.heap.size <= k) : Au w0 Z (a :: l) F w' :=
 ⟨(S.st.more hb ha hn).1, (S.keep hb).fr, S.old⟩
theorem Au.of (S : Au w0 Z l F w) (h : St w0 Z l' w' /\ BS w0 Z w w') : Au w0 Z l' F w' :=
 ⟨h.1, fun a ha => a.step (S.fr a ha) (fun k hk hl => h.2.same k (.inl hk) hl) (fun _ h => h), S.old⟩
theorem Au.add {a : FA} (S : Au w0 Z l F w) (h : a.P w Z) : Au w0 Z l (a :: F) w := ⟨S.st, fun b hb => by
 rcases List.mem_cons.1 hb with rfl | hb
 ·exact h
 ·exact S.fr b hb, S.old⟩
theorem Au.callZ (S : Au w0 Z l F w) (hb : Below w.heap.size w w') (hN : ∀ a ∈ F', a.P w' (fun k => Z k \/ (w.heap.size <= k /\ k < w'.heap.size))) : Au w0 (fun k => Z k \/ (w.heap.size <= k /\ k < w'.heap.size)) l (F' ++ F) w' :=
 ⟨S.st.freeze hb, fun a ha => by
  rcases Qm.1 ha with ha | ha
  ·exact hN a ha
  ·exact a.step (S.fr a ha) (fun k _ hl => hb.block k hl) (fun k h => .inl h), fun k h => .inl (S.old k h)⟩
theorem Au.rdo {α : Type} {d : Kd α} {ok : Nat -> Prop} {A : Option Addr} {c : Nat} {xs : List α} (S : Au w0 Z l F w) (i : Nat) (hi : F[i]? = some (Jz d ok A c xs)) : xs.length <= c /\ Kd.F d w ok A xs.length xs /\ ∀ k, ok k -> Z k := S.fr _ (Pm hi)
theorem Au.rowAt (S : Au w0 Z l F w) (i : Nat) {v : Pd} {e size n : Nat} {xs : List Pd} (hi : l[i]? = some (Bw v e size n xs)) : w.ownsRow 0 e size v n xs := S.st.at_row hi
theorem Au.lit0 (S : Au w0 Z l F w) (e size : Nat) (ys : List Pd) (hl : ys.length = 1 * size) : Au w0 Z (Bw (.slice (some ⟨w.heap.size, 0, none⟩) 1 1) e size 1 ys :: l) F (w.alloc (.cells ys.toArray e)) :=
 S.of (S.st.emp_new.lit (i := 0) rfl e size 1 (by decide) (by decide) ys hl)
theorem Au.updRow (S : Au w0 Z l F w) (i : Nat) {v v' : Pd} {e size n n' : Nat} {xs xs' : List Pd} (hi : l[i]? = some (Bw v e size n xs)) (ho : w'.ownsRow 0 e size v' n' xs') (hg : w.grownBy w' v.ownBlock)
  (hat : v'.ownBlock = v.ownBlock \/ ∃ k, v'.ownBlock = some k /\ w.heap.size <= k) : Au w0 Z (l.set i (Bw v' e size n' xs')) F w' := S.of (S.st.row_upd hi ho hg hat)
theorem Au.drop {a : Bj} (S : Au w0 Z (a :: l) F w) : Au w0 Z l F w := ⟨S.st.drop, S.fr, S.old⟩
theorem Au.perm (S : Au w0 Z l F w) (h : l.Perm l') : Au w0 Z l' F w := ⟨S.st.perm h, S.fr, S.old⟩
theorem Au.with (S : Au w0 Z l F w) (h : St w0 Z l' w) : Au w0 Z l' F w := ⟨h, S.fr, S.old⟩
theorem Cc {w w' : Pe} {a : Addr} (h : w'.heap[a.block]? = w.heap[a.block]?) : w'.cell? a = w.cell? a := by unfold World.cell?; rw [h]
theorem BS.cell {w0 w w' : Pe} {Z : Nat -> Prop} {a : Addr} {v : Pd} (h : BS w0 Z w w') (hz : Z a.block) (hc : w.cell? a = some v) : w'.cell? a = some v := (Cc (h.same _ (.inl hz) (World.block_lt_of_cell? w a hc))).trans hc
theorem Au.rd {α : Type} {d : Kd α} {A : Option Addr} {c : Nat} {xs : List α} (S : Au w0 Z l F w) (i : Nat) (hi : F[i]? = some (AF d A c xs)) : xs.length <= c /\ Kd.F d w Z A xs.length xs := S.fr _ (Pm hi)
theorem Au.rdC {α : Type} {d : Kd α} {A : Option Addr} {c : Nat} {xs : List α} (S : Au w0 Z l F w) (i : Nat) (hi : F[i]? = some (AF d A c xs)) : Kd.C d w A xs.length xs := Kd.F_now (S.rd i hi).2
theorem Au.rdL {α : Type} {d : Kd α} {A : Option Addr} {c : Nat} {xs : List α} (S : Au w0 Z l F w) (i : Nat) (hi : F[i]? = some (AF d A c xs)) : xs.length <= c := (S.rd i hi).1
theorem Au.at_blk (S : Au w0 Z l F w) (i : Nat) {g t : Nat} {cs : Array Pd} (hi : l[i]? = some (Al g t cs)) : w.heap[g]? = some (.cells cs t (0, 0)) := S.st.at_blk hi
end
theorem box4 {w : Pe} {g t : Nat} {c0 c1 c2 c3 : Pd} (h : w.heap[g]? = some (.cells #[c0, c1, c2, c3] t (0, 0))) :
  (w.cell? ⟨g, 0, none⟩ = some c0 /\ w.cell? ⟨g, 1, none⟩ = some c1 /\ w.cell? ⟨g, 2, none⟩ = some c2 /\ w.cell? ⟨g, 3, none⟩ = some c3) /\ w.frozen? ⟨g, 0, none⟩ = BK /\ w.frozen? ⟨g, 1, none⟩ = BK /\ w.frozen? ⟨g, 2, none⟩ = BK /\ w.frozen? ⟨g, 3, none⟩ = BK :=
 ⟨⟨(Aa h 0).trans rfl, (Aa h 1).trans rfl, (Aa h 2).trans rfl, (Aa h 3).trans rfl⟩, Ad h 0, Ad h 1, Ad h 2, Ad h 3⟩
theorem Gc {α : Type} {d : Kd α} {e base : Nat} {w' : Pe} {ok : Nat -> Prop} {v : Pd} {xs : List α} (h : Kd.R d e w' base ok v xs) : ∃ A c, v = .slice A xs.length c /\ (AF d A c xs).P w' (fun k => base <= k /\ k < w'.heap.size) := by
 obtain ⟨A, c, hv, hl, hF⟩ := Kd.N_V (base' := 0) (Kd.R_N (Kd.R_bound h));exact ⟨A, c, hv, hl, Kd.F_mono hF (fun k hk => ⟨hk.2.1, hk.2.2.1⟩)⟩
theorem OU {α : Type} {d : Kd α} {e base : Nat} {w' : Pe} {ok : Nat -> Prop} {v : Pd} {xs : List α} (h : Kd.N d e w' base ok v xs) (hok : ∀ k, ok k -> base <= k) : ∃ A c, v = .slice A xs.length c /\ (AF d A c xs).P w' (fun k => base <= k /\ k < w'.heap.size) := by
 obtain ⟨A, c, hv, hl, hF⟩ := Kd.N_V (base' := 0) (Kd.N_bound h);exact ⟨A, c, hv, hl, Kd.F_mono hF (fun k hk => ⟨hok k hk.1, hk.2⟩)⟩
theorem OC {α : Type} {d : Kd α} {e base : Nat} {w' : Pe} {ok : Nat -> Prop} {v : Pd} {xs : List α} (h : Kd.S d e w' base ok v xs) : ∃ A c, v = .slice A xs.length c /\ (AF d A c xs).P w' (fun k => base <= k /\ k < w'.heap.size) := by
 obtain ⟨A, c, hv, hl, hF⟩ := Kd.N_V (base' := 0) (Kd.S_N (Kd.S_bound h));exact ⟨A, c, hv, hl, Kd.F_mono hF (fun k hk => ⟨hk.2.1, hk.2.2.1⟩)⟩
theorem Au.newAt {w0 w : Pe} {Z : Nat -> Prop} {l : List Bj} {F : List FA} (S : Au w0 Z l F w) (i : Nat) (hi : l[i]? = some IN) (cs : Array Pd) (t : Nat) : Au w0 Z (l.set i (Al w.heap.size t cs)) F (w.alloc (.cells cs t)) :=
 S.of (S.st.upd hi (a' := Al w.heap.size t cs) (fun f hf => ⟨fun k => k = w.heap.size, ⟨fun _ => Iff.rfl, heap_alloc_new w _⟩, fun k hk => .inr (by omega), (IJ.of_below (Ah (Pn _ _) _)).mono (fun k h => h.elim)⟩))
theorem Au.set4At {w0 w : Pe} {Z : Nat -> Prop} {l : List Bj} {F : List FA} {g t : Nat} {c0 c1 c2 c3 : Pd} (S : Au w0 Z l F w) (i : Nat) (hi : l[i]? = some (Al g t #[c0, c1, c2, c3])) (u0 u1 u2 u3 : Pd) :
  Au w0 Z (l.set i (Al g t #[u0, u1, u2, u3])) F ((((w.setCell ⟨g, 0, none⟩ u0).setCell ⟨g, 1, none⟩ u1).setCell ⟨g, 2, none⟩ u2).setCell ⟨g, 3, none⟩ u3) := by
 have hil := (List.getElem?_eq_some_iff.1 hi).1;have S1 := S.of (S.st.set hi 0 u0);have S2 := S1.of (S1.st.set (i := i) (Q0 hil) 1 u1);have S3 := S2.of (S2.st.set (i := i) (Q0 (by simpa using hil)) 2 u2);have S4 := S3.of (S3.st.set (i := i) (Q0 (by simpa using hil)) 3 u3);simp only [List.set_set] at S4;exact S4
theorem Au.set41 {w0 w : Pe} {Z : Nat -> Prop} {l : List Bj} {F : List FA} {g t : Nat} {c0 c1 c2 c3 : Pd} (S : Au w0 Z (Al g t #[c0, c1, c2, c3] :: l) F w) (u : Pd) :
  Au w0 Z (Al g t #[c0, u, c2, c3] :: l) F (w.setCell ⟨g, 1, none⟩ u) := S.of (S.st.set (i := 0) rfl 1 u)
theorem Au.set43 {w0 w : Pe} {Z : Nat -> Prop} {l : List Bj} {F : List FA} {g t : Nat} {c0 c1 c2 c3 : Pd} (S : Au w0 Z (Al g t #[c0, c1, c2, c3] :: l) F w) (u : Pd) :
  Au w0 Z (Al g t #[c0, c1, c2, u] :: l) F (w.setCell ⟨g, 3, none⟩ u) := S.of (S.st.set (i := 0) rfl 3 u)
theorem Au.set4 {w0 w : Pe} {Z : Nat -> Prop} {l : List Bj} {F : List FA} {g t : Nat} {c0 c1 c2 c3 : Pd} (S : Au w0 Z (Al g t #[c0, c1, c2, c3] :: l) F w) (u0 u1 u2 u3 : Pd) :
  Au w0 Z (Al g t #[u0, u1, u2, u3] :: l) F ((((w.setCell ⟨g, 0, none⟩ u0).setCell ⟨g, 1, none⟩ u1).setCell ⟨g, 2, none⟩ u2).setCell ⟨g, 3, none⟩ u3) := by
 have S1 := S.of (S.st.set (i := 0) rfl 0 u0);have S2 := S1.of (S1.st.set (i := 0) rfl 1 u1);have S3 := S2.of (S2.st.set (i := 0) rfl 2 u2);exact S3.of (S3.st.set (i := 0) rfl 3 u3)
end Go.Proofs.V.SL

namespace Go.Z
open Go Go.RowKit
theorem h0 {p : Prop} (h : p := by repeat (first | (with_reducible first | exact HB.out | apply Ah | apply AH | apply AD) | exact HB.out)) : p := h
theorem h1 {p q0 : Prop} (a0 : q0) (h : q0 -> p := by intro g0_; repeat (first | (with_reducible first | exact HB.out | apply Ah | apply AH | apply AD | refine AZ ?_ g0_) | exact HB.out)) : p := h a0
theorem h2 {p q0 q1 : Prop} (a0 : q0) (a1 : q1) (h : q0 -> q1 -> p := by intro g0_ g1_; repeat (first | (with_reducible first | exact HB.out | apply Ah | apply AH | apply AD | refine AZ ?_ g0_ | refine AZ ?_ g1_) | exact HB.out)) : p := h a0 a1
theorem h3 {p q0 q1 q2 : Prop} (a0 : q0) (a1 : q1) (a2 : q2) (h : q0 -> q1 -> q2 -> p := by intro g0_ g1_ g2_; repeat (first | (with_reducible first | exact HB.out | apply Ah | apply AH | apply AD | refine AZ ?_ g0_ | refine AZ ?_ g1_ | refine AZ ?_ g2_) | exact HB.out)) : p := h a0 a1 a2
theorem h4 {p q0 q1 q2 q3 : Prop} (a0 : q0) (a1 : q1) (a2 : q2) (a3 : q3) (h : q0 -> q1 -> q2 -> q3 -> p := by intro g0_ g1_ g2_ g3_; repeat (first | (with_reducible first | exact HB.out | apply Ah | apply AH | apply AD | refine AZ ?_ g0_ | refine AZ ?_ g1_ | refine AZ ?_ g2_ | refine AZ ?_ g3_) | exact HB.out)) : p := h a0 a1 a2 a3
theorem h5 {p q0 q1 q2 q3 q4 : Prop} (a0 : q0) (a1 : q1) (a2 : q2) (a3 : q3) (a4 : q4) (h : q0 -> q1 -> q2 -> q3 -> q4 -> p := by intro g0_ g1_ g2_ g3_ g4_; repeat (first | (with_reducible first | exact HB.out | apply Ah | apply AH | apply AD | refine AZ ?_ g0_ | refine AZ ?_ g1_ | refine AZ ?_ g2_ | refine AZ ?_ g3_ | refine AZ ?_ g4_) | exact HB.out)) : p := h a0 a1 a2 a3 a4
theorem h6 {p q0 q1 q2 q3 q4 q5 : Prop} (a0 : q0) (a1 : q1) (a2 : q2) (a3 : q3) (a4 : q4) (a5 : q5) (h : q0 -> q1 -> q2 -> q3 -> q4 -> q5 -> p := by intro g0_ g1_ g2_ g3_ g4_ g5_; repeat (first | (with_reducible first | exact HB.out | apply Ah | apply AH | apply AD | refine AZ ?_ g0_ | refine AZ ?_ g1_ | refine AZ ?_ g2_ | refine AZ ?_ g3_ | refine AZ ?_ g4_ | refine AZ ?_ g5_) | exact HB.out)) : p := h a0 a1 a2 a3 a4 a5
theorem k {q p : Prop} (b : q) (h : q -> p := by intro b_; (with_reducible repeat (first | refine Ae ?_ _ | refine Ag ?_ | refine Ac ?_ _)); exact b_) : p := h b
theorem b4 {w : Pe} {g t : Nat} {c0 c1 c2 c3 : Pd} (h : w.heap[g]? = some (.cells #[c0, c1, c2, c3] t (0, 0))) :
  (w.cell? ⟨g, 0, none⟩ = some c0 /\ w.cell? ⟨g, 1, none⟩ = some c1 /\ w.cell? ⟨g, 2, none⟩ = some c2 /\ w.cell? ⟨g, 3, none⟩ = some c3) /\ w.frozen? ⟨g, 0, none⟩ = BK /\ w.frozen? ⟨g, 1, none⟩ = BK /\ w.frozen? ⟨g, 2, none⟩ = BK /\ w.frozen? ⟨g, 3, none⟩ = BK := Go.Proofs.V.SL.box4 h
end Go.Z
