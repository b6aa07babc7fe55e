/- The texts of this claim that lie below its row, in their order: GF GC GDa GD GOa GP GQ GEq. -/
import Derived.Maps.RangeWalk
import Derived.Deep.RegionLaw
import Derived.Deep.DeepCutAuto
import Derived.Deep.QuietTactic
import Derived.BigQuiet
import Derived.ChangeKeysEq
import Derived.Test.YtfmlpkeaiohknaaZS6
/-! script.Of's do. -/
set_option linter.unusedVariables false
set_option linter.unusedSimpArgs false
namespace Go.Proofs.Ytfmlpkeaiohknaa.Q
open Go Go.RowKit Go.Lib Go.Sort Go.Proofs.YtfmlpkeaiohknaaW.PrintWords Go.Proofs.YtfmlpkeaiohknaaW.PrintLast Go.Proofs.YtfmlpkeaiohknaaW.PrintMore Go.Proofs.YtfmlpkeaiohknaaW.SL
attribute [local go_sem] max2_int min2_int max_two min_two max_three min_three max_four min_four
section
variable {w0 w w' : World} {Z : Nat → Prop} {l L X : List Asr} {F : List FA} {α : Type} {d : Kd α} {e B i gb bm N : Nat} {v : Value} {xs : List α} {ad : Int → Nat} {ks : List Kn} {pre : List Asr}
/-- An append of an element that holds no rows. -/
theorem rowOf_app0 (S : Stt w0 Z (rowOf d e B v xs :: L) F w) :
    ∃ ok : Nat → Prop, (∀ k, w.heap.size ≤ k → ok k) ∧ d.R e w B ok v xs ∧ ∀ (v1 : Value) (w1 : World) (xs1 : List α), d.R e w1 B ok v1 xs1 → w.grownBy w1 v.ownBlock → Stt w0 Z (rowOf d e B v1 xs1 :: L) F w1 := by
  obtain ⟨f, ⟨f1, f3, he2, hd2, hb, hr⟩, hz⟩ := S.st.hs
  refine ⟨fun k => f1 k ∨ w.heap.size ≤ k, fun k hk => .inr hk, Kd.R_mono hb.2 (fun k hk => .inl hk), fun v1 w1 xs1 h1 hg => ?_⟩
  have hle := S.below.size
  have hv : ∀ k, v.ownBlock = some k → w0.heap.size ≤ k ∧ ¬ Z k := fun k hk => hz k ((he2 k).2 (.inl (hb.2.1 k hk)))
  have hkeep : ∀ k, k < w.heap.size → v.ownBlock ≠ some k → w1.heap[k]? = w.heap[k]? := fun k hk hn => hg.block k hk (fun e => hn e.symm)
  refine ⟨⟨S.below.trans ⟨hg.os, hg.tape, hg.output, hg.size, fun k hk => hkeep k (by omega) (fun e => by have := (hv k e).1; omega)⟩, fun k hk => Nat.lt_of_lt_of_le (S.st.zlt k hk) hg.size, fun k => ((f1 k ∨ w.heap.size ≤ k) ∧ k < w1.heap.size) ∨ f3 k, ⟨_, f3, fun k => Iff.rfl, fun k h1 h3 => ?_, ⟨fun k hk => hk.2, Kd.R_mono (Kd.R_bound h1) (fun k hk => ⟨hk.1, hk.2.2.1⟩)⟩, hr.loc (fun k hk => hkeep k (hr.lt k hk) (fun e => hd2 k (hb.2.1 k e) hk))⟩, fun k hk => ?_⟩, fun a ha' => a.step (S.fr a ha') (fun k hk hl => hkeep k hl (fun e => (hv k e).2 hk)) (fun _ h => h), S.old⟩
  · rcases h1.1 with h | h
    · exact hd2 k h h3
    · have := hr.lt k h3; omega
  · rcases hk with ⟨h | h, _⟩ | h
    · exact hz k ((he2 k).2 (.inl h))
    · exact ⟨by omega, fun hz' => by have := S.st.zlt k hz'; omega⟩
    · exact hz k ((he2 k).2 (.inr h))
theorem Grove.app0 (H : Grove w0 Z F gb bm pre (rowOf d e B v xs :: X) N ad ks w) :
    ∃ ok : Nat → Prop, (∀ k, w.heap.size ≤ k → ok k) ∧ d.R e w B ok v xs ∧ ∀ (v1 : Value) (w1 : World) (xs1 : List α), d.R e w1 B ok v1 xs1 → w.grownBy w1 v.ownBlock → Grove w0 Z F gb bm pre (rowOf d e B v1 xs1 :: X) N ad ks w1 := by
  obtain ⟨g, ids, m, h1, hm, hi, S⟩ := H
  unfold GL at S
  rw [← List.append_assoc] at S
  obtain ⟨ok, a1, a2, a3⟩ := rowOf_app0 (S.perm (perm_in _ X _).symm)
  refine ⟨ok, a1, a2, fun v1 w1 xs1 b1 b2 => ⟨g, ids, m, h1, hm, hi, ?_⟩⟩
  unfold GL
  rw [← List.append_assoc]
  exact (a3 v1 w1 xs1 b1 b2).perm (perm_in _ X _)
theorem Grove.rowOf_get (H : Grove w0 Z F gb bm pre X N ad ks w) {k : Nat} (h : X[k]? = some (rowOf d e B v xs)) : ∃ f : Nat → Prop, (∀ k, f k → w0.heap.size ≤ k ∧ ¬ Z k ∧ k < w.heap.size) ∧ d.R e w B f v xs :=
  H.getX fun L S => S.rowOf_at (i := L.length + k) (by rw [List.getElem?_append_right (by omega), Nat.add_sub_cancel_left]; exact h)
end
/-- The variables that do has: the edits' row, l, g. -/
def ofX (B g10 g11 gg : Nat) (v : Value) (es : List S54) (X : List Asr) : List Asr := rowOf k54 54 B v es :: blk g11 29 #[v] :: blk g10 56 #[.pointer (some ⟨gg, 0, none⟩)] :: X
set_option maxHeartbeats 8000000 in
set_option maxRecDepth 100000 in
theorem dof_calls {w0 w : World} {Z : Nat → Prop} {F : List FA} {gg bm N g10 g11 : Nat} {X : List Asr} {ad : Int → Nat} {ks : List Kn} {v : Value} {es : List S54} (H : Grove w0 Z F gg bm [] (ofX w0.heap.size g10 g11 gg v es X) N ad ks w) (I : Inv ks) (hN : N < maxLen) (hl : ks.length ≤ 1000000) (hes : es.length ≤ 100000) (x : S54) (h1 : in64 x.f1) (h2 : in64 x.f2) :
    Calls Try.prog 28 #[.agg #[.int .i64 x.f0, .int .i64 x.f1, .int .i64 x.f2, .int .i64 x.f3, .int .i64 x.f4, .string x.f5, .string x.f6], .pointer (some ⟨g10, 0, none⟩), .pointer (some ⟨g11, 0, none⟩)] w fun e w' => e = .returned (.tuple #[]) ∧ ∃ ad' v', (∀ k ∈ ks, ad' k.id = ad k.id) ∧ Grove w0 Z F gg bm [] (ofX w0.heap.size g10 g11 gg v' (es ++ [x]) X) (N + 1) ad' ((doK ks (edOf x)).getD ks) w' := by
  have HD : ∀ (X : List Asr) W, Grove w0 Z F gg bm [] X N ad ks W → Calls Try.prog 21 #[.pointer (some ⟨gg, 0, none⟩), .agg #[.int .i64 x.f0, .int .i64 x.f1, .int .i64 x.f2, .int .i64 x.f3, .int .i64 x.f4, .string x.f5, .string x.f6]] W fun e w' => e = .returned (.bool (doK ks (edOf x)).isSome) ∧ ∃ ad', (∀ k ∈ ks, ad' k.id = ad k.id) ∧ Grove w0 Z F gg bm [] X (N + 1) ad' ((doK ks (edOf x)).getD ks) w' := fun X W HW => do_calls54 HW I hN hl x h1 h2
  generalize (doK ks (edOf x)).isSome = r at HD
  generalize (doK ks (edOf x)).getD ks = ks' at HD ⊢
  unfold ofX at H ⊢
  obtain ⟨f0, hf0, hR0⟩ := H.rowOf_get (k := 0) rfl
  obtain ⟨Av, cv, ev⟩ := Kd.R_slice hR0
  subst ev
  clear hR0 hf0 f0
  replace HD := Aside0.mk HD
  have hb := Aside0.mk (⟨hes, trivial⟩ : _ ∧ True)
  clear I hN hl hes h1 h2
  have hu54 := Try.underlying54
  go_enter Try.func28, Try.ntmps28
  go_wp2_with (first | ((with_reducible refine gate_dst (N := 3) rfl ?_); refine box_event ?hg (N := 3) ?hd (cs := #[.int .i64 x.f0, .int .i64 x.f1, .int .i64 x.f2, .int .i64 x.f3, .int .i64 x.f4, .string x.f5, .string x.f6]) (t := 54) ?hr ?_; (case hd => rfl); (case hg => rfl); (case hr => first | (go_simp; done) | (go_simp; rfl)); intro g3 hg_ w1 hbox hb; replace H := H.box hg_ hbox hb; clear hbox hb hg_; obtain ⟨⟨e0, e1, e2, e3, e4, e5, e6⟩, _⟩ := box7 (H.blkAt (k := 0) rfl); have hg0 : w1.cell? ⟨g10, 0, none⟩ = some (.pointer (some ⟨gg, 0, none⟩)) := (blk_cell (H.blkAt (k := 3) rfl) 0).trans rfl) | (go_at_call 21; refine (HD.out _ _ H).mono ?_; clear H; rintro e_ w2 ⟨rfl, ad', had, H⟩; obtain ⟨⟨q0, q1, q2, q3, q4, q5, q6⟩, _⟩ := box7 (H.blkAt (k := 0) rfl); have hl0 : w2.cell? ⟨g11, 0, none⟩ = some (.slice Av es.length cv) := (blk_cell (H.blkAt (k := 2) rfl) 0).trans rfl; replace H := H.permX (List.Perm.swap _ _ _)) | ((with_reducible refine gate_builtin (b := .append) (xs := #[.tmp 7, .tmp 9]) rfl ?_); at_builtin; obtain ⟨ok, a1, a2, a3⟩ := H.app0; refine Kd.R_append k54 (w0 := w0) w0.heap.size rfl (.tmp 7) (.tmp 9) 29 54 (.agg #[(.int .i64 0), (.int .i64 0), (.int .i64 0), (.int .i64 0), (.int .i64 0), (.string ⟨#[]⟩), (.string ⟨#[]⟩)]) 72 rfl Try.underlying29 info54 rfl (by decide) (by omega) (.slice Av es.length cv) es x [.int .i64 x.f0, .int .i64 x.f1, .int .i64 x.f2, .int .i64 x.f3, .int .i64 x.f4, .string x.f5, .string x.f6] ok (fun _ => False) rfl rfl (k54_mkM _ _ _ x) (fun _ h => h.elim) a1 a2 H.below H.below.size (by have := hb.out.1; omega) ?_; intro v5 w5 hR5 _ hg5 _; have H5 := a3 _ _ _ hR5 hg5; obtain ⟨A5, c5, e5⟩ := Kd.R_slice hR5; rw [show (es ++ [x]).length = es.length + 1 from List.length_append] at e5; subst e5; obtain hl5 : w5.cell? ⟨g11, 0, none⟩ = some (.slice Av es.length cv) := (blk_cell (H5.blkAt (k := 2) rfl) 0).trans rfl; have hf5 := blk_frozen (H5.blkAt (k := 2) rfl) 0; replace H5 := Aside0.mk H5; clear a1 a2 a3 hR5 hg5))
  refine bodyPost_end (results_none rfl _ _ _) rfl ?_
  have H6 := H5.out.setAt (k := 2) rfl 0 (.slice A5 (es.length + 1) c5)
  have H7 : Grove w0 Z F gg bm [] (blk g3 54 #[.int .i64 x.f0, .int .i64 x.f1, .int .i64 x.f2, .int .i64 x.f3, .int .i64 x.f4, .string x.f5, .string x.f6] :: rowOf k54 54 w0.heap.size (.slice A5 (es.length + 1) c5) (es ++ [x]) :: blk g11 29 #[.slice A5 (es.length + 1) c5] :: blk g10 56 #[.pointer (some ⟨gg, 0, none⟩)] :: X) (N + 1) ad' ks' _ := H6.permX (List.Perm.swap _ _ _)
  exact ⟨rfl, ad', _, had, H7.drop⟩
end Go.Proofs.Ytfmlpkeaiohknaa.Q
/-! Sets of whole numbers (map[int]bool), in the blocks' logic; a set that is gone through. -/
set_option linter.unusedVariables false
set_option linter.unusedSimpArgs false
namespace Go.Proofs.Ytfmlpkeaiohknaa.Q
open Go Go.RowKit Go.Proofs.YtfmlpkeaiohknaaW.PrintWords Go.Proofs.YtfmlpkeaiohknaaW.SL Go.Maps
def bE : Value → Option (DataW Unit × List MemPlace)
  | .bool b => some (.lit (.bool b), [])
  | _ => none
theorem bE_at {v : Value} {ps : List MemPlace} {b : Bool} (h : bE v = some (.lit (.bool b), ps)) : v = .bool b := by
  unfold bE at h
  split at h
  · injection h with h; injection h with h _; injection h with h; injection h with h; rw [h]
  · cases h
structure SetD (D : DataW Unit) (K : Int → Bool) : Prop where
  tidy : Tidy D
  has : ∀ i, Maps.has D (LI i) = K i
  at_ : ∀ i, K i = true → D.atKey (LI i) (.lit (.bool false)) = .lit (.bool true)
theorem SetD.nil : SetD (.map []) (fun _ => false) := ⟨tidy_empty, fun i => by simp [Maps.has], fun i h => by cases h⟩
theorem SetD.put {D : DataW Unit} {K : Int → Bool} (h : SetD D K) (x : Int) : SetD (D.put (LI x) (.lit (.bool true))) (fun i => K i || decide (i = x)) := by
  refine ⟨h.tidy.put (isKeyI x) _, fun i => ?_, fun i hi => ?_⟩
  · by_cases hix : i = x
    · subst hix; rw [has_put_same h.tidy.isMap (isKeyI i)]; simp
    · rw [has_put_other (fun e => hix (by injection e)), h.has]; simp [hix]
  · by_cases hix : i = x
    · subst hix; rw [atKey_put_same h.tidy.isMap (isKeyI i)]
    · rw [atKey_put_other (fun e => hix (by injection e))]
      exact h.at_ i (by simpa [hix] using hi)
/-- Block b is a set. -/
def mpS (b m : Nat) (K : Int → Bool) : Asr :=
  ⟨fun w f => (∀ j, f j ↔ j = b) ∧ ∃ D, w.ownsMap Try.prog 3 bE b m D ∧ SetD D K,
   fun h hs => ⟨h.1, by obtain ⟨D, ⟨es, clock, hb, r⟩, q⟩ := h.2; exact ⟨D, ⟨es, clock, (hs _ ((h.1 _).2 rfl)).trans hb, r⟩, q⟩⟩,
   fun h j hj => by rw [(h.1 j).1 hj]; obtain ⟨D, hm, _⟩ := h.2; exact hm.lt⟩
/-- Block b is a set that is gone through; block r says what is still to come: those of left. -/
def rgS (b r m : Nat) (K left : Int → Bool) (cnt : Nat) : Asr :=
  ⟨fun w f => (∀ j, f j ↔ (j = b ∨ j = r)) ∧ ∃ D lf, w.ranges Try.prog 3 bE b r m D lf cnt ∧ SetD D K ∧ ∀ i, lf (LI i) = left i,
   fun h hs => ⟨h.1, by obtain ⟨D, lf, ⟨es, clock, since, seen, c0, hb, F, hm, hD, hr, rest⟩, q⟩ := h.2; exact ⟨D, lf, ⟨es, clock, since, seen, c0, (hs _ ((h.1 _).2 (.inl rfl))).trans hb, F, hm, hD, (hs _ ((h.1 _).2 (.inr rfl))).trans hr, rest⟩, q⟩⟩,
   fun h j hj => by obtain ⟨D, lf, hm, _⟩ := h.2; rcases (h.1 j).1 hj with e | e; rw [e]; exact hm.owns.lt; rw [e]; exact hm.lt⟩
section
variable {w0 w w' : World} {Z : Nat → Prop} {L : List Asr} {F : List FA} {i b m r cnt : Nat} {K left : Int → Bool}
theorem set_at (S : Stt w0 Z L F w) (hi : L[i]? = some (mpS b m K)) : ∃ D, w.ownsMap Try.prog 3 bE b m D ∧ SetD D K := by
  obtain ⟨f, hf, _⟩ := S.st.hs
  obtain ⟨fa, ha, _⟩ := hf.at hi
  exact ha.2
theorem false0 (w : World) : (zeroValue 4).run Try.prog w = .ok (.bool false) w := by
  simp
theorem set_get (S : Stt w0 Z L F w) (i : Nat) (hi : L[i]? = some (mpS b m K)) {x : Int} (hx : in64 x) : (Instr.lookup 74 (.map (some b)) (.int .i64 x) false).run Try.prog w = .ok (.bool (K x)) w := by
  obtain ⟨D, hm, hN⟩ := set_at S hi
  obtain ⟨v, ps, hr, hv⟩ := hm.lookup keyed3 Try.underlying74 (false0 w) (zd := .lit (.bool false)) (zp := []) rfl (keyI hx)
  rw [hr]
  cases h : K x with
  | true => rw [hN.at_ x h] at hv; rw [bE_at hv]
  | false =>
    have hn : Maps.has D (LI x) = false := by rw [hN.has, h]
    rw [atKey_of_not_has hn] at hv
    rw [bE_at hv]
theorem set_put (S : Stt w0 Z L F w) (i : Nat) (hi : L[i]? = some (mpS b m K)) {x : Int} (hx : in64 x) (hm2 : m < maxLen) :
    ∃ w', (Instr.mapUpdate 74 (.map (some b)) (.int .i64 x) (.bool true)).run Try.prog w = .ok () w' ∧ Stt w0 Z (L.set i (mpS b (m + 1) (fun j => K j || decide (j = x)))) F w' ∧ w.mapTurned w' b := by
  obtain ⟨D, hm, hN⟩ := set_at S hi
  obtain ⟨w', hr, ho, ht⟩ := hm.store keyed3 Try.underlying74 hm2 (keyI hx) (val := .bool true) rfl
  exact ⟨w', hr, S.of (S.st.upd hi (fun f hf => ⟨f, ⟨hf.1, _, ho, hN.put x⟩, fun j hj => .inl hj, (Chg.of_grown ht.grown).mono (fun j hj => (hf.1 j).2 (by injection hj with hj; exact hj.symm))⟩)), ht⟩
theorem set_new (S : Stt w0 Z L F w) : Stt w0 Z (mpS w.heap.size 0 (fun _ => false) :: L) F (w.alloc (.map #[] 0)) :=
  S.more (a := mpS w.heap.size 0 (fun _ => false)) (f := fun j => j = w.heap.size) (below_alloc (Below.refl _ _) _) ⟨fun _ => Iff.rfl, _, World.ownsMap_made w Try.prog 3 bE, SetD.nil⟩ (fun j hj => Nat.le_of_eq hj.symm)
/-- range: the set is gone through from now on. -/
theorem set_range (S : Stt w0 Z L F w) (i : Nat) (hi : L[i]? = some (mpS b m K)) :
    ∃ w' cnt, (Instr.range 74 (.map (some b))).run Try.prog w = .ok (.pointer (some ⟨w.heap.size, 0, none⟩)) w' ∧ Stt w0 Z (L.set i (rgS b w.heap.size m K K cnt)) F w' ∧ w.heap.size < w'.heap.size ∧ cnt ≤ m := by
  obtain ⟨D, hm, hN⟩ := set_at S hi
  have hcm : Maps.size D ≤ m := by
    obtain ⟨es, clock, hb, F, hs, rfl⟩ := hm
    simpa [Maps.size, length_sorted] using hs
  obtain ⟨w', hr, hrg, hg, hsz⟩ := hm.range keyed3 Try.underlying74
  refine ⟨w', Maps.size D, hr, S.of (S.st.upd hi (fun f hf => ⟨fun j => j = b ∨ j = w.heap.size, ⟨fun j => Iff.rfl, D, _, hrg, hN, hN.has⟩, fun j hj => ?_, (Chg.of_grown hg).mono (fun j hj => by cases hj)⟩)), by omega, hcm⟩
  rcases hj with hj | hj
  · exact .inl ((hf.1 j).2 hj)
  · exact .inr (by omega)
/-- next: none is left, or one comes. -/
theorem set_next (S : Stt w0 Z L F w) (i : Nat) (hi : L[i]? = some (rgS b r m K left cnt)) (ty : TypeId) :
    ((∀ x, left x = false) ∧ (Instr.next (.pointer (some ⟨r, 0, none⟩)) false ty).run Try.prog w = .ok (.tuple #[.bool false]) w) ∨
    ∃ x w' cnt', left x = true ∧ in64 x ∧ (Instr.next (.pointer (some ⟨r, 0, none⟩)) false ty).run Try.prog w = .ok (.tuple #[.bool true, .int .i64 x, .bool true]) w' ∧ (Instr.entry (.pointer (some ⟨r, 0, none⟩))).run Try.prog w' = .ok (.tuple #[.int .i64 x, .bool true]) w' ∧
      cnt' < cnt ∧ Stt w0 Z (L.set i (rgS b r m K (fun j => left j && !decide (j = x)) cnt')) F w' ∧ w'.heap.size = w.heap.size := by
  obtain ⟨f, hf, _⟩ := S.st.hs
  obtain ⟨fa, ha, _⟩ := hf.at hi
  obtain ⟨h1, D, lf, hrg, hN, hlf⟩ := ha
  rcases hrg.next keyed3 ty with ⟨_, hl, hr⟩ | ⟨key, v, kl, y, w', cnt', hkey, hlk, hv, hat, hrun, hrg', hlt, hgr, hsz, hen⟩
  · exact .inl ⟨fun x => by rw [← hlf, hl], hr⟩
  · obtain ⟨x, rfl, rfl, hwx⟩ := Maps.keyOf_int_inv Try.underlying3 hkey
    have hx : left x = true := by rw [← hlf]; exact hlk
    have h64 : in64 x := by
      simp [Lit.wf, IntKind.min, IntKind.max, IntKind.signed, IntKind.bits] at hwx
      unfold in64; omega
    -- its value is true
    have hK : K x = true := by
      rw [← hN.has]
      obtain ⟨es, clock, since, seen, c0, hb, Ft, hs, hD, hr, hold, hc, hl1, hl2, _⟩ := hrg
      obtain ⟨z, hz, he⟩ := hl2 _ hlk
      rw [hD]
      exact List.any_eq_true.2 ⟨Go.WideElems.rg Try.prog 3 bE z, mem_sorted.2 (List.mem_map.2 ⟨z, hz, rfl⟩), by rw [he]; exact WideAt.sameKey_self (isKeyI x)⟩
    have hv2 : v = .bool true := by
      have h3 := hat (.lit (.bool false))
      rw [hN.at_ x hK] at h3
      obtain ⟨y1, y2⟩ := y
      dsimp only at h3
      subst h3
      exact bE_at hv
    subst hv2
    refine .inr ⟨x, w', cnt', hx, h64, hrun, hen, hlt, S.of (S.st.upd hi (fun f hf => ⟨f, ⟨hf.1, D, _, hrg', hN, fun j => ?_⟩, fun j hj => .inl hj, (Chg.of_grown hgr).mono (fun j hj => (hf.1 j).2 (.inr (by injection hj with hj; exact hj.symm)))⟩)), hsz⟩
    show (lf (LI j) && !(LI j).sameKey (LI x)) = _
    rw [hlf]
    congr 2
    by_cases e : j = x
    · subst e; rw [decide_eq_true rfl]; exact WideAt.sameKey_self (isKeyI j)
    · rw [decide_eq_false e]
      cases h : (LI j).sameKey (LI x) with
      | false => rfl
      | true => exact absurd (by have := WideAt.sameKey_eq h; injection this) e
end
end Go.Proofs.Ytfmlpkeaiohknaa.Q
/-! script.rising in plain Lean. -/
set_option linter.unusedVariables false
set_option linter.unusedSimpArgs false
namespace Go.Proofs.Ytfmlpkeaiohknaa.Q
/-- The row that ends at i, held against the first k places: how long, and behind which. -/
def riseIn (l lo : List Int) (i : Nat) : Nat → Int × Int
  | 0 => (1, -1)
  | k + 1 =>
    let p := riseIn l lo i k
    if l.getD k 0 < l.getD i 0 ∧ lo.getD k 0 + 1 > p.1 then (lo.getD k 0 + 1, (k : Int)) else p
structure Ri where
  lo : List Int
  ba : List Int
  be : Int
def rise (l : List Int) : Nat → Ri
  | 0 => ⟨List.replicate l.length 0, List.replicate l.length 0, -1⟩
  | i + 1 =>
    let s := rise l i
    let p := riseIn l s.lo i i
    ⟨s.lo.set i p.1, s.ba.set i p.2, if s.be < 0 ∨ p.1 > (s.lo.set i p.1).getD s.be.toNat 0 then (i : Int) else s.be⟩
def chainK (ba : List Int) : Nat → Int → List Int
  | 0, _ => []
  | n + 1, i => if i < 0 then [] else i :: chainK ba n (ba.getD i.toNat 0)
def risingK (l : List Int) : List Int := let s := rise l l.length; chainK s.ba (l.length + 1) s.be
theorem riseIn_le {l lo : List Int} {i : Nat} (h : ∀ k, k < i → 1 ≤ lo.getD k 0 ∧ lo.getD k 0 ≤ (k : Int) + 1) : ∀ k, k ≤ i → 1 ≤ (riseIn l lo i k).1 ∧ (riseIn l lo i k).1 ≤ (k : Int) + 1 ∧ -1 ≤ (riseIn l lo i k).2 ∧ (riseIn l lo i k).2 < (k : Int)
  | 0, _ => by simp [riseIn]
  | k + 1, hk => by
    have ih := riseIn_le (l := l) h k (by omega)
    have h2 := h k (by omega)
    rw [riseIn]
    split
    · refine ⟨by show 1 ≤ lo.getD k 0 + 1; omega, by show lo.getD k 0 + 1 ≤ _; omega, by show (-1 : Int) ≤ (k : Int); omega, by show (k : Int) < ((k + 1 : Nat) : Int); omega⟩
    · omega
structure RiOk (l : List Int) (i : Nat) (s : Ri) : Prop where
  llen : s.lo.length = l.length
  blen : s.ba.length = l.length
  lo : ∀ k, k < i → 1 ≤ s.lo.getD k 0 ∧ s.lo.getD k 0 ≤ (k : Int) + 1
  ba : ∀ k, k < i → -1 ≤ s.ba.getD k 0 ∧ s.ba.getD k 0 < (k : Int)
  be : -1 ≤ s.be ∧ s.be < (i : Int)
theorem getD_set {l : List Int} {i k : Nat} {v : Int} : (l.set i v).getD k 0 = if i = k then (if k < l.length then v else 0) else l.getD k 0 := by
  simp only [List.getD_eq_getElem?_getD, List.getElem?_set]
  by_cases e : i = k
  · subst e
    rw [if_pos rfl, if_pos rfl]
    by_cases h : i < l.length
    · rw [if_pos h, if_pos h]; rfl
    · rw [if_neg h, if_neg h]; rfl
  · rw [if_neg e, if_neg e]
theorem rise_ok (l : List Int) : ∀ i, i ≤ l.length → RiOk l i (rise l i)
  | 0, _ => ⟨by simp [rise], by simp [rise], fun k hk => absurd hk (by omega), fun k hk => absurd hk (by omega), by simp [rise]⟩
  | i + 1, hi => by
    have ih := rise_ok l i (by omega)
    have hp := riseIn_le (l := l) ih.lo i (Nat.le_refl _)
    rw [rise]
    refine ⟨by rw [List.length_set]; exact ih.llen, by rw [List.length_set]; exact ih.blen, fun k hk => ?_, fun k hk => ?_, ?_⟩
    · dsimp only
      rw [getD_set]
      by_cases e : i = k
      · rw [if_pos e, if_pos (by rw [ih.llen]; omega)]; omega
      · rw [if_neg e]; exact ih.lo k (by omega)
    · dsimp only
      rw [getD_set]
      by_cases e : i = k
      · rw [if_pos e, if_pos (by rw [ih.blen]; omega)]; omega
      · rw [if_neg e]; exact ih.ba k (by omega)
    · have := ih.be
      dsimp only
      split <;> omega
end Go.Proofs.Ytfmlpkeaiohknaa.Q
/-! script.rising. -/
set_option linter.unusedVariables false
set_option linter.unusedSimpArgs false
namespace Go.Proofs.Ytfmlpkeaiohknaa.Q
open Go Go.RowKit Go.Lib Go.Sort Go.Proofs.YtfmlpkeaiohknaaW.PrintWords Go.Proofs.YtfmlpkeaiohknaaW.PrintLast Go.Proofs.YtfmlpkeaiohknaaW.PrintMore Go.Proofs.YtfmlpkeaiohknaaW.SL
attribute [local go_sem] max2_int min2_int max_two min_two max_three min_three max_four min_four
def iA (l : List Int) : Array Value := (l.map (Value.int .i64)).toArray
theorem iA_set (l : List Int) (i : Nat) (v : Int) : (iA l).setIfInBounds i (.int .i64 v) = iA (l.set i v) := by
  unfold iA
  rw [List.map_set, List.setIfInBounds_toArray]
theorem iA_get {l : List Int} {i : Nat} (h : i < l.length) : (iA l)[i]? = some (.int .i64 (l.getD i 0)) := by
  unfold iA
  simp [List.getD_eq_getElem?_getD, List.getElem?_eq_getElem h]
theorem set_step {K : Int → Bool} {x a : Int} {l : List Int} : (K x = true ∨ x ∈ a :: l) ↔ ((K x || decide (x = a)) = true ∨ x ∈ l) := by
  rw [List.mem_cons, ← or_assoc, Bool.or_eq_true, decide_eq_true_eq]
theorem make_ints (n : Nat) (hn : n ≤ 1000000) (W : World) : (Instr.makeSlice 36 (.int .i64 (n : Int)) (.int .i64 (n : Int))).run Try.prog W = .ok (.slice (some ⟨W.heap.size, 0, none⟩) n n) (W.alloc (.cells (iA (List.replicate n 0)) 3)) := by
  obtain ⟨i0, hi, hzz⟩ := Option.map_eq_some_iff.1 info3
  simp only [Prod.mk.injEq] at hzz
  obtain ⟨hz0, hz1, hz2⟩ := hzz
  have h := run_make (P := Try.prog) W 36 3 i0 (.int .i64 0) Try.underlying36 hi hz0 .i64 .i64 (n : Int) (n : Int) (by omega) (Int.le_refl _) (by rw [hz2]; omega) (by omega)
  rw [h, hz1]
  simp only [Int.toNat_natCast, Nat.mul_one]
  have e : madeCells (Value.int .i64 0).cells n = iA (List.replicate n 0) := by
    apply Array.ext'
    have h2 := toList_madeCells_one (.int .i64 0) n
    rw [show (Value.int .i64 0).cells = #[Value.int .i64 0] from rfl, h2]
    unfold iA
    simp
  rw [e]
set_option maxHeartbeats 4000000 in
set_option maxRecDepth 100000 in
theorem rising_calls {w0 w : World} {Z : Nat → Prop} {L : List Asr} {F : List FA} (S : Stt w0 Z L F w) (l : List Int) (hn6 : l.length ≤ 100000) {A : Option Addr} {c : Nat} (hF : ∀ (a b : Asr) (W : World), Stt w0 Z (a :: b :: L) F W → Kd.C (Kd.int .i64) W A l.length l) :
    Calls Try.prog 30 #[.slice A l.length c] w fun e w' => ∃ b m, e = .returned (.map (some b)) ∧ m ≤ l.length + 1 ∧ Stt w0 Z (mpS b m (fun x => decide (x ∈ risingK l)) :: L) F w' := by
  obtain ⟨n, hn⟩ : ∃ n, l.length = n := ⟨_, rfl⟩
  rw [hn] at hn6 ⊢
  have hmk := make_ints n (by omega)
  have hmm := @run_makeMap Try.prog
  have hmix : Try.prog.follows .mixedOrders = true := by kernel_rfl
  replace S := Aside0.mk S
  have HN := Aside0.mk (⟨hn, hn6, hF⟩ : _ ∧ _ ∧ _)
  clear hn hn6 hF
  go_enter Try.func30, Try.ntmps30
  go_upto_region 1 with fail
  go_cut [3, 4] (fun v3 v4 W => ∃ g3 g4, v3 = .slice (some ⟨g3, 0, none⟩) n n ∧ v4 = .slice (some ⟨g4, 0, none⟩) n n ∧ Aside0 (Stt w0 Z (blk g3 3 (iA (List.replicate n 0)) :: blk g4 3 (iA (List.replicate n 0)) :: L) F W))
  case first =>
    have T : Stt w0 Z (blk (w.heap.size + 1) 3 (iA (List.replicate n 0)) :: blk w.heap.size 3 (iA (List.replicate n 0)) :: L) F ((w.alloc (.cells (iA (List.replicate n 0)) 3)).alloc (.cells (iA (List.replicate n 0)) 3)).drew := by
      have e : (w.alloc (.cells (iA (List.replicate n 0)) 3)).heap.size = w.heap.size + 1 := by simp
      have T := ((S.out.box rfl (heap_alloc_new w (.cells (iA (List.replicate n 0)) 3)) (below_alloc (Below.refl _ _) _)).box rfl (heap_alloc_new (w.alloc (.cells (iA (List.replicate n 0)) 3)) (.cells (iA (List.replicate n 0)) 3)) (below_alloc (Below.refl _ _) _)).drew
      rw [e] at T
      exact T
    replace T := Aside0.mk T
    go_region_o
    all_goals (go_wp2_with fail; go_meet; first | exact ⟨_, _, rfl, rfl, ⟨T.out.perm (List.Perm.swap _ _ _)⟩⟩ | exact ⟨_, _, rfl, rfl, T⟩)
  case rest =>
    obtain ⟨g3, g4, rfl, rfl, S2⟩ := hcut
    clear S hmk
    go_wp2
    go_loopg [5, 18] (n + 1) (fun kq v5 v18 W => ∃ (i : Nat), v18 = .int .i64 (i : Int) ∧ v5 = .int .i64 (rise l i).be ∧ Aside0 (i ≤ n ∧ kq = n - i + 1) ∧ Aside0 (Stt w0 Z (blk g3 3 (iA (rise l i).lo) :: blk g4 3 (iA (rise l i).ba) :: L) F W))
    case atStart => exact ⟨0, rfl, rfl, ⟨Nat.zero_le _, rfl⟩, ⟨by have e := S2.out; rw [← HN.out.1] at e; exact e⟩⟩
    case round =>
      clear S2
      obtain ⟨i, rfl, rfl, hi, SW⟩ := hrel
      have hok := rise_ok l i (by rw [HN.out.1]; exact hi.out.1)
      obtain ⟨⟨lo, ba, be⟩, hs⟩ : ∃ s, rise l i = s := ⟨_, rfl⟩
      rw [hs] at SW hok ⊢
      dsimp only at SW hok ⊢
      replace hs := Aside0.mk hs
      have hne := blk_ne SW.out (i := 0) (j := 1) rfl rfl (by decide)
      have hne2 := Ne.symm hne
      have hll := hok.llen.trans HN.out.1
      have hbl := hok.blen.trans HN.out.1
      dsimp only at hll hbl
      by_cases hlt2 : i < n
      · have i1 : decide ((i : Int) < (n : Int)) = true := decide_eq_true (by omega)
        have i2 : (0 : Int) ≤ (i : Int) := by omega
        have i3 : (i : Int) < (n : Int) := by omega
        have f3 := blk_frozen (SW.out.at_blk 0 rfl) i
        have f4 := blk_frozen (SW.out.at_blk 1 rfl) i
        have e3 := (blk_cell (SW.out.at_blk 0 rfl) i).trans (iA_get (by omega))
        have e4 := (blk_cell (SW.out.at_blk 1 rfl) i).trans (iA_get (by omega))
        have S5 := (SW.out.of (SW.out.st.set (i := 0) rfl i (.int .i64 1)))
        have S6 := Aside0.mk (S5.of (S5.st.set (i := 1) rfl i (.int .i64 (-1))))
        clear S5
        replace hll := Aside0.mk hll
        replace hbl := Aside0.mk hbl
        replace hlt2 := Aside0.mk hlt2
        replace hok := Aside0.mk hok
        go_wp2
        obtain ⟨wq, hwq⟩ : ∃ wq, ((wr.setCell ⟨g3, i, none⟩ (.int .i64 1)).setCell ⟨g4, i, none⟩ (.int .i64 (-1))) = wq := ⟨_, rfl⟩
        rw [hwq] at S6 ⊢
        clear hwq SW f3 f4 e3 e4
        obtain ⟨wb, rfl⟩ : ∃ x, x = wr := ⟨_, rfl⟩
        clear i1
        go_loopg [28] (i + 1) (fun kq v28 W => ∃ (k : Nat), v28 = .int .i64 (k : Int) ∧ Aside0 (k ≤ i ∧ kq = i - k + 1) ∧ Aside0 (Stt w0 Z (blk g3 3 (iA (lo.set i (riseIn l lo i k).1)) :: blk g4 3 (iA (ba.set i (riseIn l lo i k).2)) :: L) F W))
        case atStart => exact ⟨0, rfl, ⟨Nat.zero_le _, rfl⟩, ⟨by have e := S6.out; simp only [List.set_cons_zero, List.set_cons_succ, iA_set] at e; exact e⟩⟩
        case round =>
          clear S6
          obtain ⟨k, rfl, hk, SW⟩ := hrel
          have hp := riseIn_le (l := l) hok.out.lo k hk.out.1
          obtain ⟨⟨p1, p2⟩, hpq⟩ : ∃ q, riseIn l lo i k = q := ⟨_, rfl⟩
          rw [hpq] at SW hp
          dsimp only at SW hp
          replace hpq := Aside0.mk hpq
          by_cases hlk : k < i
          · have k1 : decide ((k : Int) < (i : Int)) = true := decide_eq_true (by omega)
            have k2 : (0 : Int) ≤ (k : Int) := by omega
            have k4 : (k : Int) < (i : Int) := by omega
            have k5 : decide (k < i) = true := decide_eq_true hlk
            have k3 : (k : Int) < (n : Int) := by omega
            obtain ⟨adA, rfl, lK⟩ := Kd.at_int (HN.out.2.2 _ _ _ SW.out) (k : Int) k2 (by rw [HN.out.1]; exact k3)
            obtain ⟨adA', eA, lI⟩ := Kd.at_int (HN.out.2.2 _ _ _ SW.out) (i : Int) i2 (by rw [HN.out.1]; exact i3)
            obtain rfl := Option.some.inj eA
            simp only [Int.toNat_natCast] at lK lI
            rw [show rd l (k : Int) = l.getD k 0 from rfl] at lK
            rw [show rd l (i : Int) = l.getD i 0 from rfl] at lI
            have hkl := hok.out.lo k hlk
            have r3i : wr.cell? ⟨g3, i, none⟩ = some (.int .i64 p1) := (blk_cell (SW.out.at_blk 0 rfl) i).trans (by rw [iA_get (by rw [List.length_set, hll.out]; exact hlt2.out), getD_set, if_pos rfl, if_pos (by rw [hll.out]; exact hlt2.out)])
            have r3k : wr.cell? ⟨g3, k, none⟩ = some (.int .i64 (lo.getD k 0)) := (blk_cell (SW.out.at_blk 0 rfl) k).trans (by rw [iA_get (by rw [List.length_set, hll.out]; have := hlt2.out; omega), getD_set, if_neg (by omega)])
            have r4i : wr.cell? ⟨g4, i, none⟩ = some (.int .i64 p2) := (blk_cell (SW.out.at_blk 1 rfl) i).trans (by rw [iA_get (by rw [List.length_set, hbl.out]; exact hlt2.out), getD_set, if_pos rfl, if_pos (by rw [hbl.out]; exact hlt2.out)])
            have f3 := blk_frozen (SW.out.at_blk 0 rfl) i
            have f4 := blk_frozen (SW.out.at_blk 1 rfl) i
            have hnx : riseIn l lo i (k + 1) = if l.getD k 0 < l.getD i 0 ∧ lo.getD k 0 + 1 > p1 then (lo.getD k 0 + 1, (k : Int)) else (p1, p2) := by rw [riseIn, hpq.out]
            obtain ⟨lk, hlk1⟩ : ∃ x, l.getD k 0 = x := ⟨_, rfl⟩
            obtain ⟨li, hli1⟩ : ∃ x, l.getD i 0 = x := ⟨_, rfl⟩
            obtain ⟨lok, hlok1⟩ : ∃ x, lo.getD k 0 = x := ⟨_, rfl⟩
            rw [hlk1] at lK hnx
            rw [hli1] at lI hnx
            rw [hlok1] at r3k hkl hnx
            have hn9 := HN.out.2.1
            have hi9 := hi.out.1
            have hw1 : wrap64 (lok + 1) = lok + 1 := by unfold wrap64; omega
            have hwk : wrap64 ((k : Int) + 1) = ((k + 1 : Nat) : Int) := by clear hw1; unfold wrap64; omega
            have HW := Aside0.mk (⟨hw1, hwk, hkl, hlk, hp⟩ : _ ∧ _ ∧ _ ∧ _ ∧ _)
            have hki : k ≠ i := Nat.ne_of_lt HW.out.2.2.2.1
            replace hnx := Aside0.mk hnx
            clear hlk1 hli1 hlok1 hkl hp hlk hwk hn9 hi9
            by_cases c1 : lk < li
            · have d1 : decide (lk < li) = true := decide_eq_true c1
              by_cases c2 : p1 < lok + 1
              · have d2 : decide (p1 < lok + 1) = true := decide_eq_true c2
                replace hnx := Aside0.mk (hnx.out.trans (if_pos ⟨c1, c2⟩))
                clear c1 c2
                go_wp2
                go_region_o
                go_wp2
                have S8 := SW.out.of (SW.out.st.set (i := 0) rfl i (.int .i64 (lok + 1)))
                have S9 := S8.of (S8.st.set (i := 1) rfl i (.int .i64 (k : Int)))
                simp only [List.set_cons_zero, List.set_cons_succ, iA_set, List.set_set] at S9
                go_roundg (i - k)
                case rel => exact ⟨k + 1, by rw [HW.out.2.1], ⟨by have := HW.out.2.2.2.1; omega, by have := HW.out.2.2.2.1; omega⟩, ⟨by rw [hnx.out]; exact S9.drew⟩⟩
                case measure => have := hk.out; have := HW.out.2.2.2.1; omega
              · have d2 : decide (p1 < lok + 1) = false := decide_eq_false c2
                have hnx2 : riseIn l lo i (k + 1) = (p1, p2) := hnx.out.trans (if_neg (fun h => c2 h.2))
                clear hnx
                have hnx := Aside0.mk hnx2
                clear hnx2
                clear c1 c2
                go_wp2
                go_region_o
                go_wp2
                go_roundg (i - k)
                case rel => exact ⟨k + 1, by rw [HW.out.2.1], ⟨by have := HW.out.2.2.2.1; omega, by have := HW.out.2.2.2.1; omega⟩, ⟨by rw [hnx.out]; exact SW.out.drew⟩⟩
                case measure => have := hk.out; have := HW.out.2.2.2.1; omega
            · have d1 : decide (lk < li) = false := decide_eq_false c1
              have hnx2 : riseIn l lo i (k + 1) = (p1, p2) := hnx.out.trans (if_neg (fun h => c1 h.1))
              clear hnx
              have hnx := Aside0.mk hnx2
              clear hnx2
              clear c1
              go_wp2
              go_quiet (fail)
              go_wp2
              go_roundg (i - k)
              case rel => exact ⟨k + 1, by rw [HW.out.2.1], ⟨by have := HW.out.2.2.2.1; omega, by have := HW.out.2.2.2.1; omega⟩, ⟨by rw [hnx.out]; exact SW.out.keep ⟨rfl, rfl, rfl, Nat.le_refl _, fun _ _ => rfl⟩⟩⟩
              case measure => have := hk.out; have := HW.out.2.2.2.1; omega
          · have hik : k = i := by have := hk.out.1; omega
            subst hik
            have k1 : decide ((k : Int) < (k : Int)) = false := by simp
            have hnx : rise l (k + 1) = ⟨lo.set k p1, ba.set k p2, if be < 0 ∨ p1 > (lo.set k p1).getD be.toNat 0 then (k : Int) else be⟩ := by rw [rise, hs.out]; dsimp only; rw [hpq.out]
            have r3i : wr.cell? ⟨g3, k, none⟩ = some (.int .i64 p1) := (blk_cell (SW.out.at_blk 0 rfl) k).trans (by rw [iA_get (by rw [List.length_set, hll.out]; exact hlt2.out), getD_set, if_pos rfl, if_pos (by rw [hll.out]; exact hlt2.out)])
            have hbe := hok.out.be
            dsimp only at hbe
            have hwk : wrap64 ((k : Int) + 1) = ((k + 1 : Nat) : Int) := by have := HN.out.2.1; have := hlt2.out; clear hp hbe; unfold wrap64; omega
            replace hwk := Aside0.mk hwk
            replace hnx := Aside0.mk hnx
            clear hlk hp
            by_cases c1 : be < 0
            · have d1 : decide (be < 0) = true := decide_eq_true c1
              replace hnx := Aside0.mk (hnx.out.trans (by rw [if_pos (.inl c1)]))
              clear c1 hbe
              go_wp2
              go_region_o
              go_wp2
              go_roundg (n - k)
              case rel => exact ⟨k + 1, by rw [hwk.out], by rw [hnx.out], ⟨by have := hlt2.out; omega, by have := hlt2.out; omega⟩, ⟨by rw [hnx.out]; exact SW.out.drew⟩⟩
              case measure => have := hi.out; have := hlt2.out; omega
            · have d1 : decide (be < 0) = false := decide_eq_false c1
              obtain ⟨b, rfl⟩ : ∃ b : Nat, be = (b : Int) := ⟨be.toNat, by omega⟩
              have b2 : (0 : Int) ≤ (b : Int) := by omega
              have hbk : b < k := by omega
              have b3 : (b : Int) < (n : Int) := by have := hlt2.out; omega
              have r3b : wr.cell? ⟨g3, b, none⟩ = some (.int .i64 (lo.getD b 0)) := (blk_cell (SW.out.at_blk 0 rfl) b).trans (by rw [iA_get (by rw [List.length_set, hll.out]; have := hlt2.out; omega), getD_set, if_neg (by omega)])
              replace hnx := Aside0.mk (hnx.out.trans (by rw [Int.toNat_natCast, getD_set, if_neg (by omega : ¬ k = b)]))
              obtain ⟨lb, hlb⟩ : ∃ x, lo.getD b 0 = x := ⟨_, rfl⟩
              rw [hlb] at r3b hnx
              replace hbk := Aside0.mk hbk
              clear hlb hbe
              by_cases c2 : lb < p1
              · have d2 : decide (lb < p1) = true := decide_eq_true c2
                replace hnx := Aside0.mk (hnx.out.trans (by rw [if_pos (.inr c2)]))
                clear c1 c2
                go_wp2
                go_region_o
                go_wp2
                go_roundg (n - k)
                case rel => exact ⟨k + 1, by rw [hwk.out], by rw [hnx.out], ⟨by have := hlt2.out; omega, by have := hlt2.out; omega⟩, ⟨by rw [hnx.out]; exact SW.out.drew⟩⟩
                case measure => have := hi.out; have := hlt2.out; omega
              · have d2 : decide (lb < p1) = false := decide_eq_false c2
                replace hnx := Aside0.mk (hnx.out.trans (by rw [if_neg (fun h => h.elim c1 c2)]))
                clear c1 c2
                go_wp2
                go_region_o
                go_wp2
                go_roundg (n - k)
                case rel => exact ⟨k + 1, by rw [hwk.out], by rw [hnx.out], ⟨by have := hlt2.out; omega, by have := hlt2.out; omega⟩, ⟨by rw [hnx.out]; exact SW.out.drew⟩⟩
                case measure => have := hi.out; have := hlt2.out; omega
      · have hin : i = n := by have := hi.out.1; omega
        have i1 : decide ((i : Int) < (n : Int)) = false := decide_eq_false (by omega)
        have i1b : decide (i < n) = false := decide_eq_false (by omega)
        have i1c : ¬ (i : Int) < (n : Int) := by omega
        have hrk : risingK l = chainK ba (n + 1) be := by unfold risingK; rw [HN.out.1, ← hin, hs.out]
        replace hok := Aside0.mk hok
        replace hll := Aside0.mk hll
        replace hbl := Aside0.mk hbl
        replace hin := Aside0.mk hin
        replace hrk := Aside0.mk hrk
        clear hlt2 hne hne2
        go_wp2
        have S9 := set_new SW.out
        obtain ⟨b, hb⟩ : ∃ b, wr.heap.size = b := ⟨_, rfl⟩
        rw [hb] at S9 ⊢
        obtain ⟨wq, hwq⟩ : ∃ wq, wr.alloc (.map #[] 0) = wq := ⟨_, rfl⟩
        rw [hwq] at S9 ⊢
        clear hwq hb SW i1 i1b i1c
        obtain ⟨wb, rfl⟩ : ∃ x, x = wr := ⟨_, rfl⟩
        replace S9 := Aside0.mk S9
        go_loopg [9] (n + 1) (fun kq v9 W => ∃ (j : Int) (m : Nat) (K : Int → Bool), v9 = .int .i64 j ∧ Aside0 (-1 ≤ j ∧ j < (kq : Int) ∧ j < (n : Int) ∧ m + kq ≤ n + 1 ∧ ∀ x, x ∈ risingK l ↔ K x = true ∨ x ∈ chainK ba kq j) ∧ Aside0 (Stt w0 Z (mpS b m K :: blk g3 3 (iA lo) :: blk g4 3 (iA ba) :: L) F W))
        case atStart => exact ⟨be, 0, fun _ => false, rfl, ⟨hok.out.be.1, by have := hok.out.be.2; have := hin.out; dsimp only at *; omega, by have := hok.out.be.2; have := hin.out; dsimp only at *; omega, by omega, fun x => by rw [hrk.out]; simp⟩, S9⟩
        case round =>
          clear S9
          obtain ⟨j, m, K, rfl, hj, SW⟩ := hrel
          by_cases c1 : 0 ≤ j
          · have d1 : decide (0 ≤ j) = true := decide_eq_true c1
            obtain ⟨a, rfl⟩ : ∃ a : Nat, j = (a : Int) := ⟨j.toNat, by omega⟩
            obtain ⟨q, rfl⟩ : ∃ q, gk = q + 1 := ⟨gk - 1, by have := hj.out.2.1; omega⟩
            have han : a < n := by have := hj.out.2.2.1; omega
            have a2 : (a : Int) < (n : Int) := by omega
            have hba := hok.out.ba a (by have := hin.out; omega)
            dsimp only at hba
            have h64 : in64 (a : Int) := in64_nat (by have := HN.out.2.1; omega)
            obtain ⟨w8, hr8, S10, _⟩ := set_put SW.out 0 rfl h64 (by have := hj.out.2.2.2.1; have := HN.out.2.1; simp only [maxLen]; omega)
            have r4 : w8.cell? ⟨g4, a, none⟩ = some (.int .i64 (ba.getD a 0)) := (blk_cell (S10.at_blk 2 rfl) a).trans (iA_get (by rw [hbl.out]; exact han))
            have hch : chainK ba (q + 1) (a : Int) = (a : Int) :: chainK ba q (ba.getD a 0) := by rw [chainK, if_neg (by omega), Int.toNat_natCast]
            obtain ⟨nx, hnx⟩ : ∃ x, ba.getD a 0 = x := ⟨_, rfl⟩
            rw [hnx] at r4 hch hba
            replace hr8 := Aside0.mk hr8
            have HW := Aside0.mk (⟨hch, hba, han⟩ : _ ∧ _ ∧ _)
            replace S10 := Aside0.mk S10
            clear hnx hch hba han h64
            go_wp2_with (refine wpl_mapput rfl 74 _ _ _ rfl _ _ _ (by rfl) (by rfl) (by rfl) hr8.out ?_)
            go_roundg q
            case rel => exact ⟨nx, m + 1, _, rfl, ⟨HW.out.2.1.1, by have := HW.out.2.1; have := hj.out; omega, by have := HW.out.2.1; have := HW.out.2.2; omega, by have := hj.out; omega, fun x => by rw [hj.out.2.2.2.2 x, HW.out.1]; exact set_step⟩, S10⟩
            case measure => omega
          · have d1 : decide (0 ≤ j) = false := decide_eq_false c1
            have hnil : chainK ba gk j = [] := by
              cases gk with
              | zero => rfl
              | succ q => rw [chainK, if_pos (by omega)]
            replace hnil := Aside0.mk hnil
            go_wp2
            go_ret
            refine ⟨b, rfl, m, by have := hj.out.2.2.2.1; omega, ?_⟩
            have hK : (fun x => decide (x ∈ risingK l)) = K := by
              funext x
              have := hj.out.2.2.2.2 x
              rw [hnil.out] at this
              cases h : K x with
              | true => rw [h] at this; exact decide_eq_true (this.2 (.inl rfl))
              | false => rw [h] at this; exact decide_eq_false (fun h2 => by have := this.1 h2; simp at this)
            rw [hK]
            exact (SW.out.perm (l' := blk g3 3 (iA lo) :: blk g4 3 (iA ba) :: mpS b m K :: L) (by
              have h1 : ∀ (p q r : Asr) (l : List Asr), (p :: q :: r :: l).Perm (q :: r :: p :: l) := fun p q r l => (List.perm_append_comm (l₁ := [p]) (l₂ := [q, r])).append_right l
              exact h1 _ _ _ _)).drop.drop
end Go.Proofs.Ytfmlpkeaiohknaa.Q
/-! script.Of in plain Lean. -/
set_option linter.unusedVariables false
set_option linter.unusedSimpArgs false
namespace Go.Proofs.Ytfmlpkeaiohknaa.Q
/-- What Of has so far: names of b's places, the next new name, the grove, the edits. -/
structure Os where
  nm : List Int
  nx : Int
  ks : List Kn
  ed : List S54
open Classical in
noncomputable def Os.run (s : Os) (e : S54) : Option Os := if s.ed.length < 100000 ∧ in64 e.f1 ∧ in64 e.f2 then some { s with ks := (doK s.ks (edOf e)).getD s.ks, ed := s.ed ++ [e] } else none
open Classical in
noncomputable def st1 (N M : List S24) (s : Os) (x : Int × Int) : Option Os :=
  let s1 : Os := { s with nm := s.nm.set x.2.toNat x.1 }
  let m := N.getD x.1.toNat z24
  let n := M.getD x.2.toNat z24
  if m.f1 = n.f1 ∧ m.f2 = n.f2 then some s1 else s1.run ⟨3, x.1, 0, 0, 0, n.f1, n.f2⟩
noncomputable def ph1 (N M : List S24) : List (Int × Int) → Os → Option Os
  | [], s => some s
  | x :: r, s => (st1 N M s x).bind (ph1 N M r)
open Classical in
noncomputable def kidStep (M : List S24) (i : Nat) (stay : Int → Bool) (s : Os × Int) (k : Int) : Option (Os × Int) :=
  if s.1.nm.getD k.toNat 0 < 0 then
    let n := M.getD k.toNat z24
    ({ s.1 with nm := s.1.nm.set k.toNat s.1.nx, nx := s.1.nx + 1 } : Os).run ⟨1, s.1.nx, (s.1.nm.set k.toNat s.1.nx).getD i 0, s.2, n.f0, n.f1, n.f2⟩ |>.map fun t => (t, s.1.nx)
  else if stay k = true then some (s.1, s.1.nm.getD k.toNat 0)
  else (s.1.run ⟨4, s.1.nm.getD k.toNat 0, s.1.nm.getD i 0, s.2, 0, ⟨#[]⟩, ⟨#[]⟩⟩).map fun t => (t, s.1.nm.getD k.toNat 0)
noncomputable def kidsR (M : List S24) (i : Nat) (stay : Int → Bool) : List Int → Os × Int → Option (Os × Int)
  | [], s => some s
  | k :: r, s => (kidStep M i stay s k).bind (kidsR M i stay r)
/-- Kids of b's that stand here already. -/
def thereK (nm : List Int) (p : Kn) (kids : List Int) : List Int := kids.filter fun k => decide (0 ≤ nm.getD k.toNat 0) && decide (0 ≤ placeOf p.kids (nm.getD k.toNat 0))
def placesK (nm : List Int) (p : Kn) (kids : List Int) : List Int := (thereK nm p kids).map fun k => placeOf p.kids (nm.getD k.toNat 0)
def stayK (nm : List Int) (p : Kn) (kids : List Int) (k : Int) : Bool := (risingK (placesK nm p kids)).any fun at_ => decide ((thereK nm p kids).getD at_.toNat 0 = k)
noncomputable def placeStep (M : List S24) (K : List (List Int)) (s : Os) (i : Nat) : Option Os :=
  match gAt s.ks (s.nm.getD i 0) with
  | none => none
  | some p => (kidsR M i (stayK s.nm p (K.getD i [])) (K.getD i []) (s, -1)).map (·.1)
noncomputable def ph2 (M : List S24) (K : List (List Int)) : Nat → Nat → Os → Option Os
  | 0, _, s => some s
  | n + 1, i, s => (placeStep M K s i).bind (ph2 M K n (i + 1))
noncomputable def ph3 (kept : Int → Bool) : Nat → Os → Option Os
  | 0, s => some s
  | n + 1, s => (if kept (n : Int) = true then some s else s.run ⟨2, (n : Int), 0, 0, 0, ⟨#[]⟩, ⟨#[]⟩⟩).bind (ph3 kept n)
noncomputable def ofK (N : List S24) (P : List Int) (M : List S24) (K : List (List Int)) (prs : List (Int × Int)) : Option Os :=
  (ph1 N M prs ⟨List.replicate M.length (-1), (N.length : Int), groveP N P N.length, []⟩).bind fun s1 => (ph2 M K M.length 0 s1).bind fun s2 => ph3 (fun x => decide (x ∈ prs.map (·.1))) N.length s2
/-- What holds of the state. -/
structure OsOk (m : Nat) (s : Os) : Prop where
  inv : Inv s.ks
  len : s.ks.length ≤ 1000 + s.ed.length
  nm : s.nm.length = m
theorem Os.run_ok {m : Nat} {s t : Os} {e : S54} (h : OsOk m s) (hr : s.run e = some t) : OsOk m t ∧ t.ks = (doK s.ks (edOf e)).getD s.ks ∧ t.ed = s.ed ++ [e] ∧ t.nm = s.nm ∧ t.nx = s.nx ∧ s.ed.length < 100000 ∧ in64 e.f1 ∧ in64 e.f2 := by
  unfold Os.run at hr
  split at hr
  · rename_i hc
    injection hr with hr
    subst hr
    refine ⟨⟨?_, ?_, h.nm⟩, rfl, rfl, rfl, rfl, hc.1, hc.2.1, hc.2.2⟩
    · dsimp only
      cases hd : doK s.ks (edOf e) with
      | none => exact h.inv
      | some ks' => exact doK_inv h.inv hc.2.1 hd
    · dsimp only
      rw [List.length_append]
      have := h.len
      cases hd : doK s.ks (edOf e) with
      | none => show s.ks.length ≤ _; simp; omega
      | some ks' =>
        have := doK_len hd
        show ks'.length ≤ _
        simp; omega
  · cases hr
end Go.Proofs.Ytfmlpkeaiohknaa.Q
/-! More of a grove beside other blocks: rows that are gathered, rising called. -/
set_option linter.unusedVariables false
set_option linter.unusedSimpArgs false
namespace Go.Proofs.Ytfmlpkeaiohknaa.Q
open Go Go.RowKit Go.Lib Go.Sort Go.Proofs.YtfmlpkeaiohknaaW.PrintWords Go.Proofs.YtfmlpkeaiohknaaW.SL
section
variable {w0 w w' : World} {Z : Nat → Prop} {F F' : List FA} {gb bm N k b m : Nat} {pre X : List Asr} {ad : Int → Nat} {ks : List Kn} {K : Int → Bool}
theorem row_C {α : Type} {d : Kd α} {e B : Nat} {A : Option Addr} {c : Nat} {ok : Nat → Prop} {xs : List α} (h : d.R e w B ok (.slice A xs.length c) xs) : xs.length ≤ c ∧ Kd.C d w A xs.length xs := by
  obtain ⟨A2, c2, e2, h1, h2⟩ := Kd.N_V (base' := 0) (Kd.R_N (Kd.R_bound h))
  injection e2 with e3 e4 e5
  subst e3
  subst e5
  exact ⟨h1, Kd.F_now h2⟩
theorem Grove.addF {a : FA} (H : Grove w0 Z F gb bm pre X N ad ks w) (h : ∀ L, Stt w0 Z L F w → a.P w Z) : Grove w0 Z (a :: F) gb bm pre X N ad ks w := H.onX fun L S => S.add (h _ S)
theorem Grove.lessF (H : Grove w0 Z F gb bm pre X N ad ks w) (h : ∀ a ∈ F', a ∈ F) : Grove w0 Z F' gb bm pre X N ad ks w := H.onX fun L S => stt_lessF S h
theorem Grove.rowC {α : Type} {d : Kd α} {e B : Nat} {A : Option Addr} {c n : Nat} {xs : List α} (H : Grove w0 Z F gb bm pre X N ad ks w) (hn : xs.length = n) (hk : X[k]? = some (rowOf d e B (.slice A n c) xs)) : n ≤ c ∧ Kd.C d w A n xs := by
  subst hn
  obtain ⟨f, _, hR⟩ := H.rowOf_get hk
  exact row_C hR
/-- A row of rows that is kept: one of them. -/
theorem rdL_row {L : List Asr} {A : Option Addr} {c j : Nat} {Kr : List (List Int)} (S : Stt w0 Z L F w) (hF : F[j]? = some (rdV (Kd.slice 3 (Kd.int .i64)) A c Kr)) (i : Nat) (hi : i < Kr.length) :
    ∃ a A0 c0, A = some a ∧ w.cell? (a.add i) = some (.slice A0 (Kr.getD i []).length c0) ∧ (rdV (Kd.int .i64) A0 c0 (Kr.getD i [])).P w Z := by
  have h := S.rd j hF
  obtain ⟨al, cs, eA, hcl, hFK, hcc, _⟩ := Kd.F_get h.2 [] (i : Int) (by omega) (by omega)
  rw [Int.toNat_natCast] at hFK hcc
  obtain ⟨A0, c0, rfl, h1, h2⟩ := Kd.FK_slice_open hFK
  have hq := hcc 0 _ rfl
  rw [show (i * (Kd.slice 3 (Kd.int .i64)).sz + 0) = i from by show i * 1 + 0 = i; omega] at hq
  exact ⟨al, A0, c0, eA, hq, h1, h2⟩
/-- script.rising -/
theorem Grove.rising {B : Nat} {A : Option Addr} {c : Nat} {l : List Int} (H : Grove w0 Z F gb bm pre X N ad ks w) (hk : X[k]? = some (rowOf (Kd.int .i64) 3 B (.slice A l.length c) l)) (hl : l.length ≤ 100000) :
    Calls Try.prog 30 #[.slice A l.length c] w fun e w' => ∃ b m, e = .returned (.map (some b)) ∧ m ≤ l.length + 1 ∧ Grove w0 Z F gb bm pre (mpS b m (fun x => decide (x ∈ risingK l)) :: X) N ad ks w' := by
  obtain ⟨g, ids, mm, h1, hm, hids, S⟩ := H
  unfold GL at S
  rw [← List.append_assoc] at S
  refine (rising_calls S l hl (A := A) (c := c) (fun a b W SW => ?_)).mono ?_
  · obtain ⟨f, _, hR⟩ := SW.rowOf_at (i := ((blk gb 61 #[.map (some bm)] :: mpK bm mm ad ids :: pre) ++ gvA ad g).length + k + 2) (d := Kd.int .i64) (e := 3) (B := B) (v := .slice A l.length c) (xs := l) (by
      show (((blk gb 61 #[.map (some bm)] :: mpK bm mm ad ids :: pre) ++ gvA ad g) ++ X)[((blk gb 61 #[.map (some bm)] :: mpK bm mm ad ids :: pre) ++ gvA ad g).length + k]? = _
      rw [List.getElem?_append_right (by omega), Nat.add_sub_cancel_left]
      exact hk)
    exact (row_C hR).2
  · rintro e w' ⟨b, m, rfl, hmb, S'⟩
    refine ⟨b, m, rfl, hmb, g, ids, mm, h1, hm, hids, ?_⟩
    unfold GL
    rw [← List.append_assoc]
    exact S'.perm (perm_in _ X _)
end
end Go.Proofs.Ytfmlpkeaiohknaa.Q
/-! script.Of: pieces for the loop over b's places. -/
set_option linter.unusedVariables false
set_option linter.unusedSimpArgs false
namespace Go.Proofs.Ytfmlpkeaiohknaa.Q
open Go Go.RowKit Go.Lib Go.Sort Go.Proofs.YtfmlpkeaiohknaaW.PrintWords Go.Proofs.YtfmlpkeaiohknaaW.SL
theorem chainK_bound {ba : List Int} {n : Nat} (h : ∀ k, k < n → -1 ≤ ba.getD k 0 ∧ ba.getD k 0 < (k : Int)) : ∀ (f : Nat) (i : Int), i < (n : Int) → ∀ x ∈ chainK ba f i, 0 ≤ x ∧ x < (n : Int)
  | 0, _, _, x, hx => by simp [chainK] at hx
  | f + 1, i, hi, x, hx => by
    rw [chainK] at hx
    split at hx
    · simp at hx
    · rcases List.mem_cons.1 hx with rfl | hx
      · omega
      · refine chainK_bound h f _ ?_ x hx
        have := h i.toNat (by omega)
        omega
theorem risingK_bound {l : List Int} {x : Int} (hx : x ∈ risingK l) : 0 ≤ x ∧ x < (l.length : Int) := by
  have hok := rise_ok l l.length (Nat.le_refl _)
  exact chainK_bound hok.ba _ _ hok.be.2 x hx
theorem at_I {w : World} {A : Option Addr} {n : Nat} {xs : List Int} (h : Kd.C (Kd.int .i64) w A n xs) (i : Int) (h0 : 0 ≤ i) (h1 : i < n) : ∃ ad, A = some ad ∧ w.cell? (ad.add i.toNat) = some (.int .i64 (xs.getD i.toNat 0)) := by
  obtain ⟨ad, c, e, _, hK, hc0⟩ := Kd.C_get h (0 : Int) i h0 h1
  have hc : ∀ j u, c[j]? = some u → w.cell? (ad.add (i.toNat * 1 + j)) = some u := hc0
  have hK2 : c = [.int .i64 (xs.getD i.toNat 0)] := hK
  subst hK2
  exact ⟨ad, e, by have hq := hc 0 _ rfl; rwa [Nat.mul_one, Nat.add_zero] at hq⟩
theorem thereK_in {nm : List Int} {p : Kn} {l : List Int} {k : Int} (h1 : 0 ≤ nm.getD k.toNat 0) (h2 : 0 ≤ placeOf p.kids (nm.getD k.toNat 0)) : thereK nm p (l ++ [k]) = thereK nm p l ++ [k] ∧ placesK nm p (l ++ [k]) = placesK nm p l ++ [placeOf p.kids (nm.getD k.toNat 0)] := by
  have h : thereK nm p (l ++ [k]) = thereK nm p l ++ [k] := by
    unfold thereK
    rw [List.filter_append, List.filter_cons_of_pos (by simp only [Bool.and_eq_true, decide_eq_true_eq]; exact ⟨h1, h2⟩), List.filter_nil]
  refine ⟨h, ?_⟩
  unfold placesK
  rw [h, List.map_append]
  rfl
theorem thereK_out {nm : List Int} {p : Kn} {l : List Int} {k : Int} (h : ¬ (0 ≤ nm.getD k.toNat 0 ∧ 0 ≤ placeOf p.kids (nm.getD k.toNat 0))) : thereK nm p (l ++ [k]) = thereK nm p l ∧ placesK nm p (l ++ [k]) = placesK nm p l := by
  have h : thereK nm p (l ++ [k]) = thereK nm p l := by
    unfold thereK
    rw [List.filter_append, List.filter_cons_of_neg (by simp only [Bool.and_eq_true, decide_eq_true_eq]; exact h), List.filter_nil, List.append_nil]
  refine ⟨h, ?_⟩
  unfold placesK
  rw [h]
theorem thereK_len (nm : List Int) (p : Kn) (l : List Int) : (thereK nm p l).length ≤ l.length := List.length_filter_le _ _
theorem placesK_len (nm : List Int) (p : Kn) (l : List Int) : (placesK nm p l).length = (thereK nm p l).length := List.length_map _
theorem thereK_mem {nm : List Int} {p : Kn} {l : List Int} {k : Int} (h : k ∈ thereK nm p l) : k ∈ l := (List.mem_filter.1 h).1
theorem take_snoc {α : Type} {l : List α} {i : Nat} (h : i < l.length) (d : α) : l.take (i + 1) = l.take i ++ [l.getD i d] := by
  rw [List.take_add_one, List.getD_eq_getElem?_getD, List.getElem?_eq_getElem h]; rfl
theorem drop_cons {α : Type} {l : List α} {i : Nat} (h : i < l.length) (d : α) : l.drop i = l.getD i d :: l.drop (i + 1) := by
  rw [List.drop_eq_getElem_cons h, List.getD_eq_getElem?_getD, List.getElem?_eq_getElem h]; rfl
theorem getD_mem {α : Type} {l : List α} {i : Nat} (h : i < l.length) (d : α) : l.getD i d ∈ l := by
  rw [List.getD_eq_getElem?_getD, List.getElem?_eq_getElem h]; exact List.getElem_mem h
theorem wpl_range {P : Program} {ops : Array Oper} {o : Oper} {rest : List Oper} {a : Act} {Q : Exit → Act → World → Prop} {w : World} (hg : o.guard = none) (t : TypeId) (m : Operand) (hop : o.op = Op.range t m)
    (vm v : Value) (hm : a.eval m = vm) {w' : World} (hr : (Instr.range t vm).run P w = .ok v w') (h : wpList P ops Q rest (a.put o.dst v) w') : wpList P ops Q (o :: rest) a w := by
  refine wpList_plain hg fun K' hK' => ?_
  unfold Oper.wp
  simp [execOp, hop, hm, hr, Result.andThen]
  exact hK' _ _ h
theorem wpl_next {P : Program} {ops : Array Oper} {o : Oper} {rest : List Oper} {a : Act} {Q : Exit → Act → World → Prop} {w : World} (hg : o.guard = none) (m : Operand) (hop : o.op = Op.next m false)
    (vm v : Value) (hm : a.eval m = vm) {w' : World} (hr : (Instr.next vm false o.type).run P w = .ok v w') (h : wpList P ops Q rest (a.put o.dst v) w') : wpList P ops Q (o :: rest) a w := by
  refine wpList_plain hg fun K' hK' => ?_
  unfold Oper.wp
  simp [execOp, hop, hm, hr, Result.andThen]
  exact hK' _ _ h
section
variable {w0 w w' : World} {Z : Nat → Prop} {F : List FA} {gb bm N k b m r cnt : Nat} {pre X : List Asr} {ad : Int → Nat} {ks : List Kn} {K left : Int → Bool}
theorem Grove.setRange (H : Grove w0 Z F gb bm pre X N ad ks w) (hk : X[k]? = some (mpS b m K)) : ∃ r w' cnt, (Instr.range 74 (.map (some b))).run Try.prog w = .ok (.pointer (some ⟨r, 0, none⟩)) w' ∧ Grove w0 Z F gb bm pre (X.set k (rgS b r m K K cnt)) N ad ks w' ∧ cnt ≤ m := by
  obtain ⟨g, ids, mm, h1, hm, hids, S⟩ := H
  unfold GL at S
  rw [← List.append_assoc] at S
  have h2 : ∀ L : List Asr, (L ++ X)[L.length + k]? = some (mpS b m K) := fun L => by rw [List.getElem?_append_right (by omega), Nat.add_sub_cancel_left]; exact hk
  obtain ⟨w', cnt, hr, S', _, hc⟩ := set_range S _ (h2 _)
  refine ⟨_, w', cnt, hr, ⟨g, ids, mm, h1, hm, hids, ?_⟩, hc⟩
  rw [List.set_append_right _ _ (by omega), Nat.add_sub_cancel_left] at S'
  unfold GL
  rw [← List.append_assoc]
  exact S'
theorem Grove.setNext (H : Grove w0 Z F gb bm pre X N ad ks w) (hk : X[k]? = some (rgS b r m K left cnt)) (ty : TypeId) :
    ((∀ x, left x = false) ∧ (Instr.next (.pointer (some ⟨r, 0, none⟩)) false ty).run Try.prog w = .ok (.tuple #[.bool false]) w) ∨
    ∃ x w' cnt', left x = true ∧ in64 x ∧ (Instr.next (.pointer (some ⟨r, 0, none⟩)) false ty).run Try.prog w = .ok (.tuple #[.bool true, .int .i64 x, .bool true]) w' ∧ (Instr.entry (.pointer (some ⟨r, 0, none⟩))).run Try.prog w' = .ok (.tuple #[.int .i64 x, .bool true]) w' ∧
      cnt' < cnt ∧ Grove w0 Z F gb bm pre (X.set k (rgS b r m K (fun j => left j && !decide (j = x)) cnt')) N ad ks w' := by
  obtain ⟨g, ids, mm, h1, hm, hids, S⟩ := H
  unfold GL at S
  rw [← List.append_assoc] at S
  have h2 : ∀ L : List Asr, (L ++ X)[L.length + k]? = some (rgS b r m K left cnt) := fun L => by rw [List.getElem?_append_right (by omega), Nat.add_sub_cancel_left]; exact hk
  rcases set_next S _ (h2 _) ty with h | ⟨x, w', cnt', a1, a2, a3, a4, a5, S', _⟩
  · exact .inl h
  · refine .inr ⟨x, w', cnt', a1, a2, a3, a4, a5, g, ids, mm, h1, hm, hids, ?_⟩
    rw [List.set_append_right _ _ (by omega), Nat.add_sub_cancel_left] at S'
    unfold GL
    rw [← List.append_assoc]
    exact S'
theorem Grove.swap2 {a c : Asr} (H : Grove w0 Z F gb bm pre (a :: c :: X) N ad ks w) : Grove w0 Z F gb bm pre (c :: a :: X) N ad ks w := H.permX (List.Perm.swap _ _ _)
theorem Grove.newSet (H : Grove w0 Z F gb bm pre X N ad ks w) : Grove w0 Z F gb bm pre (mpS w.heap.size 0 (fun _ => false) :: X) N ad ks (w.alloc (.map #[] 0)) := H.add (fun L S => set_new S)
theorem Grove.in4 {a p q r : Asr} (H : Grove w0 Z F gb bm pre (a :: p :: q :: r :: X) N ad ks w) : Grove w0 Z F gb bm pre (p :: q :: r :: a :: X) N ad ks w :=
  H.permX ((List.perm_append_comm (l₁ := [a]) (l₂ := [p, q, r])).append_right X)
theorem Grove.out4 {a p q r : Asr} (H : Grove w0 Z F gb bm pre (p :: q :: r :: a :: X) N ad ks w) : Grove w0 Z F gb bm pre (a :: p :: q :: r :: X) N ad ks w :=
  H.permX ((List.perm_append_comm (l₁ := [p, q, r]) (l₂ := [a])).append_right X)
end
theorem stayK_iff {nm : List Int} {p : Kn} {kids : List Int} {k : Int} : stayK nm p kids k = true ↔ ∃ x ∈ risingK (placesK nm p kids), (thereK nm p kids).getD x.toNat 0 = k := by
  unfold stayK
  rw [List.any_eq_true]
  simp
theorem stay_step {R : List Int} {left K2 : Int → Bool} {TH : List Int} {x kk : Int} (hR : x ∈ R) (hk : TH.getD x.toNat 0 = kk) (h : ∀ k, K2 k = true ↔ ∃ y ∈ R, left y = false ∧ TH.getD y.toNat 0 = k) (k : Int) : (K2 k || decide (k = kk)) = true ↔ ∃ y ∈ R, (left y && !decide (y = x)) = false ∧ TH.getD y.toNat 0 = k := by
  rw [Bool.or_eq_true, h, decide_eq_true_eq]
  constructor
  · rintro (⟨y, h1, h2, h3⟩ | rfl)
    · exact ⟨y, h1, by rw [h2]; rfl, h3⟩
    · exact ⟨x, hR, by simp, hk⟩
  · rintro ⟨y, h1, h2, h3⟩
    by_cases e : y = x
    · subst e; exact .inr (h3.symm.trans hk)
    · exact .inl ⟨y, h1, by simpa [e] using h2, h3⟩
theorem stay_end {left K2 : Int → Bool} {nm : List Int} {p : Kn} {kids : List Int} (hn : ∀ x, left x = false) (h : ∀ k, K2 k = true ↔ ∃ y ∈ risingK (placesK nm p kids), left y = false ∧ (thereK nm p kids).getD y.toNat 0 = k) : K2 = stayK nm p kids := by
  funext k
  rw [Bool.eq_iff_iff, h, stayK_iff]
  exact ⟨fun ⟨y, h1, _, h3⟩ => ⟨y, h1, h3⟩, fun ⟨y, h1, h3⟩ => ⟨y, h1, hn y, h3⟩⟩
theorem stay_start {R TH : List Int} (k : Int) : (fun _ : Int => false) k = true ↔ ∃ y ∈ R, decide (y ∈ R) = false ∧ TH.getD y.toNat 0 = k :=
  ⟨fun h => (Bool.false_ne_true h).elim, fun ⟨x, h1, h2, _⟩ => by simp [h1] at h2⟩
theorem kidStep_new {M : List S24} {i k : Nat} {st : Int → Bool} {s : Os} {last : Int} (h : s.nm.getD k 0 < 0) :
    kidStep M i st (s, last) (k : Int) = (({ s with nm := s.nm.set k s.nx, nx := s.nx + 1 } : Os).run ⟨1, s.nx, (s.nm.set k s.nx).getD i 0, last, (M.getD k z24).f0, (M.getD k z24).f1, (M.getD k z24).f2⟩).map fun t => (t, s.nx) := by
  unfold kidStep
  dsimp only
  rw [Int.toNat_natCast, if_pos h]
theorem kidStep_stay {M : List S24} {i k : Nat} {st : Int → Bool} {s : Os} {last : Int} (h : ¬ s.nm.getD k 0 < 0) (hs : st (k : Int) = true) : kidStep M i st (s, last) (k : Int) = some (s, s.nm.getD k 0) := by
  unfold kidStep
  dsimp only
  rw [Int.toNat_natCast, if_neg h, if_pos hs]
theorem kidStep_move {M : List S24} {i k : Nat} {st : Int → Bool} {s : Os} {last : Int} (h : ¬ s.nm.getD k 0 < 0) (hs : st (k : Int) = false) :
    kidStep M i st (s, last) (k : Int) = (s.run ⟨4, s.nm.getD k 0, s.nm.getD i 0, last, 0, ⟨#[]⟩, ⟨#[]⟩⟩).map fun t => (t, s.nm.getD k 0) := by
  unfold kidStep
  dsimp only
  rw [Int.toNat_natCast, if_neg h, if_neg (by rw [hs]; exact Bool.false_ne_true)]
theorem map_bind1 {α β γ : Type} (o : Option α) (f : α → β) (g : β → Option γ) : (o.map f).bind g = o.bind fun t => g (f t) := by cases o <;> rfl
end Go.Proofs.Ytfmlpkeaiohknaa.Q
set_option linter.unusedVariables false
set_option linter.unusedSimpArgs false
namespace Go.Proofs.Ytfmlpkeaiohknaa.Q
open Go Go.RowKit Go.Proofs.YtfmlpkeaiohknaaW.PrintWords Go.Proofs.YtfmlpkeaiohknaaW.SL
theorem eq_pair (W : World) (u v : Int) : (Op.equalIn 10000 50 (.agg #[.int .i64 u, .int .i64 v]) (.agg #[.int .i64 0, .int .i64 0])).run Try.prog W = .ok (decide (u = 0 ∧ v = 0)) W := by
  obtain ⟨i0, hi, hzz⟩ := Option.map_eq_some_iff.1 info3
  have h := run_equalIn_array (P := Try.prog) W 9999 #[.int .i64 u, .int .i64 v] #[.int .i64 0, .int .i64 0] Try.underlying50 hi
  rw [show (10000 : Nat) = 9999 + 1 from rfl, h]
  have hc : Try.prog.cellsOf 3 = 1 := by kernel_rfl
  have hp : ∀ (xs : Array Value) (j : Nat) (x : Int), xs[j]? = some (.int .i64 x) → (part 3 xs (j * 1)).run Try.prog W = .ok (.int .i64 x) W := fun xs j x hx => by
    have hu := Try.underlying3
    simp [part, run_underlying hu, hx]
  have he : ∀ x : Int, (Op.equalIn 9999 3 (.int .i64 x) (.int .i64 0)).run Try.prog W = .ok (x == 0) W := fun x => run_equalIn_int W 9998 3 .i64 .i64 x 0 Try.underlying3
  rw [hc]
  have p0 : (part 3 #[.int .i64 u, .int .i64 v] (0 * 1)).run Try.prog W = .ok (.int .i64 u) W := hp _ 0 u rfl
  have p1 : (part 3 #[.int .i64 u, .int .i64 v] (1 * 1)).run Try.prog W = .ok (.int .i64 v) W := hp _ 1 v rfl
  have q0 : (part 3 #[.int .i64 0, .int .i64 0] (0 * 1)).run Try.prog W = .ok (.int .i64 0) W := hp _ 0 0 rfl
  have q1 : (part 3 #[.int .i64 0, .int .i64 0] (1 * 1)).run Try.prog W = .ok (.int .i64 0) W := hp _ 1 0 rfl
  rw [show List.range 2 = [0, 1] from rfl]
  by_cases h1 : u = 0
  · have e1 : (u == 0) = true := by simp [h1]
    by_cases h2 : v = 0
    · have e2 : (v == 0) = true := by simp [h2]
      simp only [Op.eqItems, Sem.run_bind, p0, p1, q0, q1, he, Result.andThen_ok, e1, e2, Bool.not_true, Bool.false_eq_true, if_false, Sem.run_pure]
      simp [h1, h2]
    · have e2 : (v == 0) = false := by simp [h2]
      simp only [Op.eqItems, Sem.run_bind, p0, p1, q0, q1, he, Result.andThen_ok, e1, e2, Bool.not_true, Bool.false_eq_true, if_false, Bool.not_false, if_true, Sem.run_pure]
      simp [h2]
  · have e1 : (u == 0) = false := by simp [h1]
    simp only [Op.eqItems, Sem.run_bind, p0, q0, he, Result.andThen_ok, e1, Bool.not_false, if_true, Sem.run_pure]
    simp [h1]
end Go.Proofs.Ytfmlpkeaiohknaa.Q
