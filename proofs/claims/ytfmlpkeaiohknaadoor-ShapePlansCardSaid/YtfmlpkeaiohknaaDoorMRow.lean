import Derived.Test.YtfmlpkeaiohknaaDoorMFew
import Derived.Test.YtfmlpkeaiohknaaDoorMMk0
import Derived.Lib.SmallJoins
import Derived.Lib.LaidTab
/-! An argument that is a tree: read into the printed contracts' form. -/
set_option linter.unusedVariables false
set_option linter.unusedSimpArgs false
namespace Go.Proofs.YtfmlpkeaiohknaaDoor.Q
open Go.RowKit Go.Proofs.YtfmlpkeaiohknaaDoorW.PrintWords Go.Proofs.YtfmlpkeaiohknaaDoorW.PrintLast Go.Proofs.YtfmlpkeaiohknaaDoorW.PrintMore
def inR (y : S24) : Prop := -9223372036854775808 ≤ y.f0 ∧ y.f0 ≤ 9223372036854775807
theorem list_of {α : Type} {P : Nat → α → Prop} (n : Nat) (h : ∀ i, i < n → ∃ x, P i x) : ∃ l : List α, l.length = n ∧ ∀ i x, l[i]? = some x → P i x := by
  refine ⟨List.ofFn fun i : Fin n => Classical.choose (h i.1 i.2), by simp, fun i x hx => ?_⟩
  rw [List.getElem?_ofFn] at hx
  split at hx
  · rename_i hi
    injection hx with hx
    rw [← hx]
    exact Classical.choose_spec (h i hi)
  · cases hx
theorem mem_preL : ∀ {l : List S24} {y : S24}, y ∈ preL l → ∃ k ∈ l, y ∈ pre k
  | [], y, h => by simp [preL] at h
  | k :: r, y, h => by
    simp only [preL, List.mem_append] at h
    rcases h with h | h
    · exact ⟨k, List.mem_cons_self, h⟩
    · obtain ⟨q, hq, hy⟩ := mem_preL h
      exact ⟨q, List.mem_cons_of_mem _ hq, hy⟩
theorem cells24 : Tryd.prog.cellsOf 24 = 4 := by kernel_rfl
theorem cells3 : Tryd.prog.cellsOf 3 = 1 := by kernel_rfl
theorem cells9 : Tryd.prog.cellsOf 9 = 1 := by kernel_rfl
theorem cells22 : Tryd.prog.cellsOf 22 = 1 := by kernel_rfl
theorem wf_in {n : Int} (h : (Lit.int .i64 n).wf = true) : -9223372036854775808 ≤ n ∧ n ≤ 9223372036854775807 := by
  have h1 : (decide (IntKind.i64.min ≤ n) && decide (n ≤ IntKind.i64.max)) = true := h
  rw [Bool.and_eq_true, decide_eq_true_eq, decide_eq_true_eq] at h1
  have e1 : IntKind.i64.min = -9223372036854775808 := by decide
  have e2 : IntKind.i64.max = 9223372036854775807 := by decide
  rw [e1, e2] at h1
  exact h1
theorem read24 {H : Type} {enc : TypeId × Value → H} {W : World} {sp : Nat → Bool} {hd : Bool} : ∀ (fuel : Nat) (cs : List Value) (x : DataW H × List MemPlace),
    DataW.trod enc Tryd.prog W 0 sp hd fuel 24 cs = some x → ∃ s : S24, k24.K W s cs ∧ ∀ y ∈ pre s, inR y := by
  intro fuel
  induction fuel using Nat.strongRecOn with
  | ind fuel ih =>
    intro cs x h
    obtain ⟨xs, n, hfuel, hx, hl, hlen, hf⟩ := DataW.trod_struct Tryd.underlying24 h
    rw [cells24] at hl
    match cs, hl with
    | [c0, c1, c2, c3], _ =>
      match xs, hlen with
      | [y0, y1, y2, y3], _ =>
        have h0 := hf 0 _ rfl
        have h1 := hf 1 _ rfl
        have h2 := hf 2 _ rfl
        have h3 := hf 3 _ rfl
        simp only [cells3, cells9, cells22, List.drop_succ_cons, List.drop_zero, List.take_succ_cons, List.take_zero, List.getElem?_cons_zero, List.getElem?_cons_succ] at h0 h1 h2 h3
        obtain ⟨a0, e0, _, w0⟩ := DataW.trod_int Tryd.underlying3 h0
        obtain ⟨a1, e1, _, w1⟩ := DataW.trod_string Tryd.underlying9 h1
        obtain ⟨a2, e2, _, w2⟩ := DataW.trod_string Tryd.underlying9 h2
        injection e0 with e0; injection e1 with e1; injection e2 with e2
        subst e0 e1 e2
        have hin := wf_in w0
        rcases DataW.trod_slice Tryd.underlying22 h3 with ⟨e3, _⟩ | ⟨a, len, cap, elems, rest, m, hm, e3, _, hba, hlc, hcm, hel, hget, _, _⟩
        · injection e3 with e3
          subst e3
          refine ⟨⟨a0, a1, a2, []⟩, k24_mk W ⟨a0, a1, a2, []⟩ (Nat.le_refl 0) ⟨rfl, Nat.zero_le _, fun h => by simp at h⟩, fun y hy => ?_⟩
          simp only [pre, preL, List.mem_singleton] at hy
          subst hy
          exact hin
        · injection e3 with e3
          subst e3
          have hex : ∀ i, i < len → ∃ s : S24, ∃ c, W.cells? 0 (a.add (i * 4)) 4 = some c ∧ k24.K W s c ∧ ∀ y ∈ pre s, inR y := by
            intro i hi
            have hg := hget i hi
            rw [cells24, List.getElem?_eq_getElem (by omega), Option.bind_eq_some_iff] at hg
            obtain ⟨c, hc, ht⟩ := hg
            obtain ⟨s, hs, hp⟩ := ih m (by omega) c _ ht
            exact ⟨s, c, hc, hs, hp⟩
          obtain ⟨l, hll, hl⟩ := list_of len hex
          refine ⟨⟨a0, a1, a2, l⟩, k24_mk W ⟨a0, a1, a2, l⟩ (A3 := some a) (c3 := cap) (by rw [hll]; exact hlc) ⟨rfl, by unfold maxLen at hcm; simp only; omega, fun _ => ⟨a, rfl, fun j p hj => ?_⟩⟩ |> fun h => (by simp only [hll] at h; exact h), fun y hy => ?_⟩
          · obtain ⟨c, hc, hk, _⟩ := hl j p hj
            obtain ⟨_, hcl, hcell⟩ := World.cells?_some hc
            refine ⟨c, hcl, hk, fun i u hu => ?_⟩
            have hi : i < 4 := by have := (List.getElem?_eq_some_iff.1 hu).1; omega
            have hq := hcell i hi
            rw [add_add] at hq
            exact hq.trans hu
          · simp only [pre, List.mem_cons] at hy
            rcases hy with rfl | hy
            · exact hin
            · obtain ⟨q, hq, hy⟩ := mem_preL hy
              obtain ⟨j, hj⟩ := List.getElem?_of_mem hq
              obtain ⟨_, _, _, hp⟩ := hl j q hj
              exact hp y hy
theorem agg4 {v : Value} {c0 c1 c2 c3 : Value} (h : v.cells.toList = [c0, c1, c2, c3]) : v = .agg #[c0, c1, c2, c3] := by
  cases v <;> simp [Value.cells] at h
  rename_i c
  congr 1
  exact Array.toList_inj.1 h
/-- A tree that is handed in: the value's form, the tree, its numbers' range. -/
theorem arg24 {H : Type} {enc : TypeId × Value → H} {W : World} {sp : Nat → Bool} {hd : Bool} {v : Value} {d : DataW H} {ps : List MemPlace} (h : DataW.Trod enc Tryd.prog W 0 sp hd 24 v d ps) :
    ∃ (x : S24) (A : Option Addr) (c : Nat), v = .agg #[.int .i64 x.f0, .string x.f1, .string x.f2, .slice A x.f3.length c] ∧ x.f3.length ≤ c ∧ k24.C W A x.f3.length x.f3 ∧ ∀ y ∈ pre x, inR y := by
  obtain ⟨fuel, hf⟩ := h
  obtain ⟨x, hk, hp⟩ := read24 fuel _ _ hf
  obtain ⟨A, c, e, hc, hC⟩ := k24_open hk
  exact ⟨x, A, c, agg4 e, hc, hC, hp⟩
theorem g0 : Tryd.prog.globalNamed "internal/strconv.uint64pow10" = some 0 := by kernel_rfl
end Go.Proofs.YtfmlpkeaiohknaaDoor.Q
