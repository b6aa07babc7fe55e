import Derived.Test.YtfmlpkeaiohknaaDoorMBld
import Derived.Maps.OwnSet
import Derived.Maps.Views
import Derived.Maps.Keyed
/-! Maps whose values number their keys, in the blocks' logic. -/
set_option linter.unusedVariables false
set_option linter.unusedSimpArgs false
namespace Go.Proofs.YtfmlpkeaiohknaaDoor.Q
open Go.RowKit Go.Proofs.YtfmlpkeaiohknaaDoorW.PrintWords Go.Proofs.YtfmlpkeaiohknaaDoorW.PrintLast Go.Proofs.YtfmlpkeaiohknaaDoorW.PrintMore Go.Proofs.YtfmlpkeaiohknaaDoorW.SL Go.Maps
/-- Block b is a map (of keys of type k) from key to int. -/
def mp (k : TypeId) (b n : Nat) (D : DataW Unit) : Asr :=
  ⟨fun w f => (∀ j, f j ↔ j = b) ∧ w.ownsMap Tryd.prog k (plainElem Tryd.prog 3) b n D,
   fun h hs => ⟨h.1, by obtain ⟨es, clock, hb, r⟩ := h.2; exact ⟨es, clock, (hs _ ((h.1 _).2 rfl)).trans hb, r⟩⟩,
   fun h j hj => by rw [(h.1 j).1 hj]; exact h.2.lt⟩
section
variable {w0 w w' : World} {Z : Nat → Prop} {l : List Asr} {i : Nat} {k : TypeId} {b n n' : Nat} {D D' : DataW Unit}
theorem St.at_map (h : St w0 Z l w) (hi : l[i]? = some (mp k b n D)) : w.ownsMap Tryd.prog k (plainElem Tryd.prog 3) b n D := by
  obtain ⟨f, hf, _⟩ := h.hs
  obtain ⟨fa, ha, _⟩ := hf.at hi
  exact ha.2
theorem St.map_upd (h : St w0 Z l w) (hi : l[i]? = some (mp k b n D)) (ho : w'.ownsMap Tryd.prog k (plainElem Tryd.prog 3) b n' D') (hg : w.grownBy w' (some b)) : St w0 Z (l.set i (mp k b n' D')) w' ∧ Same w0 Z w w' :=
  h.upd hi (fun f hf => ⟨f, ⟨hf.1, ho⟩, fun j hj => .inl hj, (Chg.of_grown hg).mono (fun j hj => (hf.1 j).2 (by injection hj with hj; exact hj.symm))⟩)
theorem St.map_new (h : St w0 Z l w) (k : TypeId) : St w0 Z (mp k w.heap.size 0 (.map []) :: l) (w.alloc (.map #[] 0)) ∧ Same w0 Z w (w.alloc (.map #[] 0)) :=
  h.more (below_alloc (Below.refl _ _) _) (a := mp k w.heap.size 0 (.map [])) (f := fun j => j = w.heap.size) ⟨fun _ => Iff.rfl, World.ownsMap_made w Tryd.prog k _⟩ (fun j hj => by omega)
end
/-- The map says of each key the place at which it came. -/
structure Numb {κ : Type} [BEq κ] [LawfulBEq κ] (L : κ → Lit) (D : DataW Unit) (ks : List κ) : Prop where
  tidy : Tidy D
  size : Maps.size D = ks.length
  has : ∀ x, Maps.has D (L x) = true ↔ x ∈ ks
  at_ : ∀ x, x ∈ ks → D.atKey (L x) (.lit (.int .i64 0)) = .lit (.int .i64 (ks.idxOf x))
section
variable {κ : Type} [BEq κ] [LawfulBEq κ] {L : κ → Lit} {D : DataW Unit} {ks : List κ}
theorem Numb.nil (L : κ → Lit) : Numb L (.map []) ([] : List κ) := ⟨tidy_empty, rfl, fun x => by simp [Maps.has], fun x h => by simp at h⟩
theorem Numb.put (h : Numb L D ks) (hL : ∀ x y, L x = L y → x = y) (hk : ∀ x, WideAt.IsKeyLit (L x)) {x : κ} (hx : x ∉ ks) (ht : Tidy (D.put (L x) (.lit (.int .i64 ks.length)))) : Numb L (D.put (L x) (.lit (.int .i64 ks.length))) (ks ++ [x]) := by
  have hn : Maps.has D (L x) = false := by
    cases hb : Maps.has D (L x)
    · rfl
    · exact absurd ((h.has x).1 hb) hx
  refine ⟨ht, ?_, fun y => ?_, fun y hy => ?_⟩
  · rw [size_put h.tidy, hn]; simp [h.size]
  · by_cases hyx : y = x
    · subst hyx; simp [has_put_same h.tidy.isMap (hk y)]
    · rw [has_put_other (fun e => hyx (hL _ _ e)), h.has]; simp [hyx]
  · by_cases hyx : y = x
    · subst hyx
      rw [atKey_put_same h.tidy.isMap (hk y)]
      rw [List.idxOf_append, if_neg hx]; simp
    · have hy2 : y ∈ ks := by simpa [hyx] using hy
      rw [atKey_put_other (fun e => hyx (hL _ _ e)), h.at_ y hy2, List.idxOf_append, if_pos hy2]
end
end Go.Proofs.YtfmlpkeaiohknaaDoor.Q
