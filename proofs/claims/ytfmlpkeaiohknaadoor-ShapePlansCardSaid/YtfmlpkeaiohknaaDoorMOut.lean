import Derived.Test.YtfmlpkeaiohknaaDoorMAdd
/-! What a plan's blocks say in the print's own words. -/
set_option linter.unusedVariables false
namespace Go.Proofs.YtfmlpkeaiohknaaDoor.Q
open Go.RowKit Go.Proofs.YtfmlpkeaiohknaaDoorW.PrintWords Go.Proofs.YtfmlpkeaiohknaaDoorW.PrintLast Go.Proofs.YtfmlpkeaiohknaaDoorW.PrintMore Go.Proofs.YtfmlpkeaiohknaaDoorW.SL
section
variable {w0 w w' W : World} {Z Φ : Nat → Prop} {g : Nat} {v : PV} {s : PS} {X : List Asr}
theorem inn_reps {l : List Asr} {i : Nat} {us : List Value} {ks : List (List Int)} (h : St w0 Z l w) (hi : l[i]? = some (grp (inn us ks))) (hu : us.length = ks.length) {ok : Nat → Prop}
    (hok : ∀ (j : Nat) (u : Value), us[j]? = some u → ∀ k, u.ownBlock = some k → ok k) : ∃ f, Reps ((Kd.tag f (Kd.slice 3 (Kd.int .i64))).M w w0.heap.size ok) 1 ks.zipIdx us := by
  refine Kd.reps_tag (d := Kd.slice 3 (Kd.int .i64)) (fun j k => ∃ u, us[j]? = some u ∧ u.ownBlock = some k) ?_ (fun j k ⟨u, hj, hk⟩ => hok j u hj k hk) (by rw [hu]; exact (Nat.mul_one _).symm) ?_
  · rintro a b k ⟨u, ha, hka⟩ ⟨u', hb, hkb⟩
    apply Classical.byContradiction
    intro hne
    have hla : a < ks.length := by rw [← hu]; exact (List.getElem?_eq_some_iff.1 ha).1
    have hlb : b < ks.length := by rw [← hu]; exact (List.getElem?_eq_some_iff.1 hb).1
    exact h.sub_apart hi (inn_at ha (List.getElem?_eq_getElem hla)) (inn_at hb (List.getElem?_eq_getElem hlb)) hne k hka hkb.symm
  · intro j x hx
    have hl : j < us.length := by rw [hu]; exact (List.getElem?_eq_some_iff.1 hx).1
    have hju := List.getElem?_eq_getElem hl
    have h1 := (h.sub_out hi (inn_at hju hx)).1
    have h2 : ((us.drop (j * (Kd.slice 3 (Kd.int .i64)).sz)).take (Kd.slice 3 (Kd.int .i64)).sz) = [us[j]] := by
      show (us.drop (j * 1)).take 1 = [us[j]]
      rw [Nat.mul_one, List.drop_eq_getElem_cons hl]; rfl
    rw [h2]
    exact ⟨us[j], rfl, Kd.R_of_own (enc := Value.int .i64) h1 (fun k hk => ⟨us[j], hju, hk⟩)⟩
theorem Pl.out (h : Pl w0 Z Φ g v s X w) (hΦ : ∀ k, Φ k → Z k ∧ w0.heap.size ≤ k) :
    Kd.N k24 24 w w0.heap.size (fun k_ => (w0.heap.size ≤ k_) ∧ some k_ ≠ v.p.ownBlock ∧ some k_ ≠ v.z.ownBlock ∧ some k_ ≠ v.k.ownBlock) v.n s.N ∧
    Kd.R (Kd.int .i64) 3 w w0.heap.size (fun k_ => (w0.heap.size ≤ k_) ∧ some k_ ≠ v.z.ownBlock) v.p s.P ∧
    Kd.R (Kd.int .i64) 3 w w0.heap.size (fun k_ => (w0.heap.size ≤ k_) ∧ some k_ ≠ v.p.ownBlock) v.z s.Z ∧
    Kd.S (Kd.slice 3 (Kd.int .i64)) 27 w w0.heap.size (fun k_ => (w0.heap.size ≤ k_) ∧ some k_ ≠ v.p.ownBlock ∧ some k_ ≠ v.z.ownBlock) v.k s.K := by
  have hn : (plan g v s ++ X)[1]? = some (row v.n 24 4 s.N.length v.cn) := rfl
  have hp : (plan g v s ++ X)[2]? = some (row v.p 3 1 s.N.length (ints s.P)) := rfl
  have hz : (plan g v s ++ X)[3]? = some (row v.z 3 1 s.N.length (ints s.Z)) := rfl
  have hk : (plan g v s ++ X)[4]? = some (row v.k 27 1 s.N.length v.us) := rfl
  have hg : (plan g v s ++ X)[5]? = some (grp (inn v.us s.K)) := rfl
  have on := h.st.row_out hn; have op := h.st.row_out hp; have oz := h.st.row_out hz; have ok_ := h.st.row_out hk
  have lp := h.p; have lz := h.z; have lk := h.k; have lu := h.u; have lc := h.c
  have hZ : ∀ (u : Value), (∀ k, u.ownBlock = some k → w0.heap.size ≤ k ∧ ¬ Z k) → ∀ k, Φ k → some k ≠ u.ownBlock := fun u hu k hk he => (hu k he.symm).2 (hΦ k hk).1
  refine ⟨⟨fun k hk_ => ⟨(on.2 k hk_).1, h.st.row_apart hn hp (by decide) k hk_, h.st.row_apart hn hz (by decide) k hk_, h.st.row_apart hn hk (by decide) k hk_⟩, Kd.chunks 4 s.N.length v.cn, Kd.chunks_length _ _ _, ?_, ?_⟩, ?_, ?_, ?_⟩
  · refine ⟨fun k hk => hk.symm, v.cn, by rw [Kd.chunks_length]; exact on.1, by rw [Kd.chunks_length]; exact lc, fun j p hj => ?_⟩
    have hjl : j < s.N.length := by have := (List.getElem?_eq_some_iff.1 hj).1; rwa [Kd.chunks_length] at this
    have hp_ := Kd.chunks_get hj
    subst hp_
    refine ⟨rfl, ?_, fun u hu => h.one u (List.mem_of_mem_drop (List.mem_of_mem_take hu))⟩
    show ((v.cn.drop (j * 4)).take 4).length = 4
    rw [List.length_take, List.length_drop]; omega
  · intro j x c hx hc
    have hc2 := Kd.chunks_get hc
    subst hc2
    exact Kd.FK_mono (h.nodes j x hx) (fun k hk => ⟨⟨(hΦ k hk).2, hZ _ op.2 k hk, hZ _ oz.2 k hk, hZ _ ok_.2 k hk⟩, hZ _ on.2 k hk⟩)
  · exact Kd.R_of_own (enc := Value.int .i64) (by rw [lp]; exact op.1) (fun k hk => ⟨(op.2 k hk).1, h.st.row_apart hp hz (by decide) k hk⟩)
  · exact Kd.R_of_own (enc := Value.int .i64) (by rw [lz]; exact oz.1) (fun k hk => ⟨(oz.2 k hk).1, h.st.row_apart hz hp (by decide) k hk⟩)
  · obtain ⟨f, hr⟩ := inn_reps (ok := fun k => ((w0.heap.size ≤ k) ∧ some k ≠ v.p.ownBlock ∧ some k ≠ v.z.ownBlock) ∧ some k ≠ v.k.ownBlock) h.st hg (lu.trans lk.symm) (fun j u hj k hk2 => by
      have hl : j < s.K.length := by rw [lk, ← lu]; exact (List.getElem?_eq_some_iff.1 hj).1
      have hi := inn_at hj (List.getElem?_eq_getElem hl)
      exact ⟨⟨((h.st.sub_out hg hi).2 k hk2).1, h.st.row_sub_apart hp hg hi (by decide) k hk2, h.st.row_sub_apart hz hg hi (by decide) k hk2⟩, h.st.row_sub_apart hk hg hi (by decide) k hk2⟩)
    exact ⟨f, fun k hk2 => ⟨(ok_.2 k hk2).1, h.st.row_apart hk hp (by decide) k hk2, h.st.row_apart hk hz (by decide) k hk2⟩, v.us, by rw [List.length_zipIdx, lk]; exact ok_.1, hr⟩
end
end Go.Proofs.YtfmlpkeaiohknaaDoor.Q
