import Derived.Test.YtfmlpkeaiohknaaDoorQx1
import Derived.Test.YtfmlpkeaiohknaaDoorMLay
/-! The reference's Nodes, Few and Size answer for every tree; what `true` tells of the tree. -/
set_option linter.unusedVariables false
set_option linter.unusedSimpArgs false
namespace Go.Proofs.YtfmlpkeaiohknaaDoor.Q
open Go.RowKit Go.Proofs.YtfmlpkeaiohknaaDoorW.PrintWords Go.Proofs.YtfmlpkeaiohknaaDoorW.PrintLast Go.Proofs.YtfmlpkeaiohknaaDoorW.PrintMore
/-- From some fuel on, it answers v. -/
def Ev {α : Type} (g : Nat → Option α) (v : α) : Prop := ∃ n, ∀ k, n ≤ k → g k = some v
theorem Ev.pure {α : Type} (v : α) : Ev (fun _ => some v) v := ⟨0, fun _ _ => rfl⟩
theorem Ev.of {α : Type} {g : Nat → Option α} {v : α} (h : ∀ k, g k = some v) : Ev g v := ⟨0, fun k _ => h k⟩
theorem Ev.up {α : Type} {f : Nat → Option α} (h : ∀ k, LeO (f k) (f (k + 1))) {a : Nat} {r : α} (hr : f a = some r) : Ev f r := ⟨a, fun _ hk => LeO.up h hk hr⟩
theorem Ev.bind {α β : Type} {g : Nat → Option α} {v : α} {f : Nat → α → Option β} {u : β} (h : Ev g v) (hf : Ev (fun k => f k v) u) : Ev (fun k => (g k).bind (f k)) u := by
  obtain ⟨n, hn⟩ := h
  obtain ⟨m, hm⟩ := hf
  exact ⟨max n m, fun k hk => by show (g k).bind (f k) = _; rw [hn k (by omega)]; exact hm k (by omega)⟩
theorem Ev.step {α : Type} {g : Nat → Option α} {v : α} (h : Ev (fun k => g (k + 1)) v) : Ev g v := by
  obtain ⟨n, hn⟩ := h
  refine ⟨n + 1, fun k hk => ?_⟩
  obtain ⟨j, rfl⟩ : ∃ j, k = j + 1 := ⟨k - 1, by omega⟩
  exact hn j (by omega)
theorem Ev.congr {α : Type} {g g' : Nat → Option α} {v : α} (h : Ev g v) (e : ∀ k, g' k = g k) : Ev g' v := by
  obtain ⟨n, hn⟩ := h
  exact ⟨n, fun k hk => (e k).trans (hn k hk)⟩
theorem Ev.has {α : Type} {g : Nat → Option α} {v : α} (h : Ev g v) : ∃ k, g k = some v := by
  obtain ⟨n, hn⟩ := h
  exact ⟨n, hn n (Nat.le_refl _)⟩
theorem w64 {n : Int} (h0 : -9223372036854775808 ≤ n) (h1 : n ≤ 9223372036854775807) : wrap64 n = n := by unfold wrap64; omega
mutual
/-- A node, and all below it. -/
def pre : S24 → List S24
  | ⟨a, b, c, l⟩ => ⟨a, b, c, l⟩ :: preL l
def preL : List S24 → List S24
  | [] => []
  | k :: r => pre k ++ preL r
end
mutual
theorem pre_len : ∀ (x : S24), (pre x).length = nsz x
  | ⟨a, b, c, l⟩ => by simp only [pre, nsz, List.length_cons, preL_len l]; omega
theorem preL_len : ∀ (l : List S24), (preL l).length = nszL l
  | [] => rfl
  | k :: r => by simp only [preL, nszL, List.length_append, pre_len k, preL_len r]
end
theorem pre_pos (x : S24) : 0 < (pre x).length := by cases x; simp [pre]
mutual
theorem addN_N : ∀ (x : S24) (p : Int) (s : PS), (addN x p s).N = s.N ++ pre x
  | ⟨a, b, c, l⟩, p, s => by
    simp only [addN, pre]
    rw [addL_N l]
    simp
theorem addL_N : ∀ (l : List S24) (a : Nat) (s : PS), (addL l a s).N = s.N ++ preL l
  | [], a, s => by simp [addL, preL]
  | k :: r, a, s => by
    simp only [addL, preL]
    rw [addL_N r]
    simp only []
    rw [addN_N k]
    simp
end
theorem ofP_N (x : S24) : (ofP x).N = pre x := by
  unfold ofP
  rw [addN_N]
  rfl
theorem rdT_at {done : List S24} {k : S24} {r : List S24} : rd_T24 (done ++ k :: r) (done.length : Int) = k := by
  unfold rd_T24
  simp
mutual
theorem nodes_ev : ∀ (x : S24) (m : Int), 1 ≤ m → m ≤ 1000000 → Ev (fun k => scarfref05_Nodes.f k x.f0 x.f1 x.f2 x.f3 m) ((pre x).take m.toNat)
  | ⟨a, b, c, l⟩, m, h1, h2 => by
    refine Ev.step ?_
    have h := nodesL_ev l [] [⟨a, b, c, l⟩] m a b c (by simp) (by simp; omega) h2
    simp only [List.nil_append, List.length_nil] at h
    simp only [scarfref05_Nodes.f, pre]
    exact h
theorem nodesL_ev : ∀ (r done : List S24) (x5 : List S24) (m : Int) (a : Int) (b c : ByteArray), done.length < x5.length → (x5.length : Int) ≤ m → m ≤ 1000000 →
    Ev (fun k => scarfref05_Nodes.l0 k m x5 (done.length : Int) a b c (done ++ r)) ((x5 ++ preL r).take m.toNat)
  | [], done, x5, m, a, b, c, h1, h2, h3 => by
    refine Ev.step (Ev.of fun k => ?_)
    rw [scarfref05_Nodes.l0, if_neg (by simp)]
    simp only [preL, List.append_nil]
    rw [List.take_of_length_le (by omega)]
  | y :: r, done, x5, m, a, b, c, h1, h2, h3 => by
    refine Ev.step ?_
    by_cases hm : (x5.length : Int) < m
    · have e1 : wrap64 (m - (x5.length : Int)) = m - (x5.length : Int) := w64 (by omega) (by omega)
      have hy := nodes_ev y (m - (x5.length : Int)) (by omega) (by omega)
      have e2 : ((x5 ++ (pre y).take (m - (x5.length : Int)).toNat) ++ preL r).take m.toNat = (x5 ++ preL (y :: r)).take m.toNat := by
        have ht : (m - (x5.length : Int)).toNat = m.toNat - x5.length := by omega
        rw [ht]
        simp only [preL]
        rw [List.append_assoc, List.take_append, List.take_append (l₁ := x5)]
        congr 1
        rw [List.take_append, List.take_append, List.take_take, Nat.min_self]
        congr 1
        by_cases hl : m.toNat - x5.length ≤ (pre y).length
        · rw [List.length_take, Nat.min_eq_left hl]
          rw [Nat.sub_self, Nat.sub_eq_zero_of_le hl]
        · rw [List.length_take, Nat.min_eq_right (by omega)]
      have hr := nodesL_ev r (done ++ [y]) (x5 ++ (pre y).take (m - (x5.length : Int)).toNat) m a b c (by have := pre_pos y; simp; omega) (by simp; omega) h3
      rw [e2] at hr
      have hr2 : Ev (fun k => if x5.length + ((pre y).take (m - (x5.length : Int)).toNat).length < 2199023255552 then (scarfref05_Nodes.l0 k m (x5 ++ (pre y).take (m - (x5.length : Int)).toNat) (wrap64 ((done.length : Int) + 1)) a b c (done ++ y :: r)) else none) ((x5 ++ preL (y :: r)).take m.toNat) := by
        refine Ev.congr hr (fun k => ?_)
        rw [if_pos (by simp; omega), w64 (by omega) (by omega)]
        simp
      refine Ev.congr (Ev.bind hy (f := fun k t => if x5.length + t.length < 2199023255552 then (scarfref05_Nodes.l0 k m (x5 ++ t) (wrap64 ((done.length : Int) + 1)) a b c (done ++ y :: r)) else none) hr2) (fun k => ?_)
      rw [scarfref05_Nodes.l0, if_pos (by simp; omega), if_pos hm, if_pos (by omega), rdT_at, e1]
    · refine Ev.of fun k => ?_
      rw [scarfref05_Nodes.l0, if_pos (by simp; omega), if_neg hm]
      congr 1
      rw [List.take_append_of_le_length (by omega), List.take_of_length_le (by omega)]
end
theorem mn_le {a b : Int} : mn a b ≤ b := by unfold mn; omega
theorem mn_self {a b : Int} (h : mn a b < b) : mn a b = a := by unfold mn at *; omega
theorem mn_nn {a b : Int} (h0 : 0 ≤ a) (h1 : 0 ≤ b) : 0 ≤ mn a b := by unfold mn; omega
theorem fewL_ev : ∀ (r done : List S24) (tot : Int), 0 ≤ tot → tot ≤ 50000 → done.length + r.length ≤ 1000000 →
    ∃ b, Ev (fun k => scarflaw05_Few.l0 k (done ++ r) tot (done.length : Int)) b ∧ (b = true → ∀ y ∈ r, y.f1.size ≤ 50000 ∧ y.f2.size ≤ 50000)
  | [], done, tot, h0, h1, h2 => by
    refine ⟨decide (((done ++ []).length : Int) ≤ 2000), Ev.step (Ev.of fun k => ?_), fun _ y hy => by cases hy⟩
    rw [scarflaw05_Few.l0, if_neg (by simp)]
  | y :: r, done, tot, h0, h1, h2 => by
    have a1 : mn (y.f1.size : Int) 100000 ≤ 100000 := mn_le
    have a2 : mn (y.f2.size : Int) 100000 ≤ 100000 := mn_le
    have b1 : 0 ≤ mn (y.f1.size : Int) 100000 := mn_nn (by omega) (by omega)
    have b2 : 0 ≤ mn (y.f2.size : Int) 100000 := mn_nn (by omega) (by omega)
    simp only [List.length_cons] at h2
    have e : wrap64 ((wrap64 (tot + mn (y.f1.size : Int) 100000)) + mn (y.f2.size : Int) 100000) = tot + mn (y.f1.size : Int) 100000 + mn (y.f2.size : Int) 100000 := by
      rw [w64 (n := tot + mn (y.f1.size : Int) 100000) (by omega) (by omega), w64 (by omega) (by omega)]
    by_cases hc : tot + mn (y.f1.size : Int) 100000 + mn (y.f2.size : Int) 100000 > 50000
    · refine ⟨false, Ev.step (Ev.of fun k => ?_), fun hb => by cases hb⟩
      rw [scarflaw05_Few.l0, if_pos (by simp; omega), if_pos (by omega), rdT_at, e, if_pos hc]
    · obtain ⟨b, hb, hm⟩ := fewL_ev r (done ++ [y]) (tot + mn (y.f1.size : Int) 100000 + mn (y.f2.size : Int) 100000) (by omega) (by omega) (by simp; omega)
      refine ⟨b, Ev.step (Ev.congr hb fun k => ?_), fun hbt z hz => ?_⟩
      · show scarflaw05_Few.l0 (k + 1) _ _ _ = _
        rw [scarflaw05_Few.l0, if_pos (by simp; omega), if_pos (by omega), rdT_at, e, if_neg hc, w64 (by omega) (by omega)]
        simp
      · rcases List.mem_cons.1 hz with rfl | hz
        · have c1 : mn (z.f1.size : Int) 100000 = z.f1.size := mn_self (by omega)
          have c2 : mn (z.f2.size : Int) 100000 = z.f2.size := mn_self (by omega)
          exact ⟨by omega, by omega⟩
        · exact hm hbt z hz
theorem few_ev (x : S24) (m : Int) (h0 : 1 ≤ m) (h1 : m ≤ 2000) :
    ∃ b, Ev (fun k => scarflaw10_few.f k x.f0 x.f1 x.f2 x.f3 m) b ∧ (b = true → (nsz x : Int) ≤ m ∧ ∀ y ∈ pre x, y.f1.size ≤ 50000 ∧ y.f2.size ≤ 50000) := by
  have hn := nodes_ev x 2001 (by omega) (by omega)
  have hlen : ((pre x).take (Int.toNat 2001)).length ≤ 2001 := by rw [List.length_take]; exact Nat.min_le_left _ _
  obtain ⟨b, hb, hm⟩ := fewL_ev ((pre x).take (Int.toNat 2001)) [] 0 (by omega) (by omega) (by simp; omega)
  simp only [List.nil_append, List.length_nil] at hb
  have hF : Ev (fun k => scarflaw05_Few.f k x.f0 x.f1 x.f2 x.f3) b := Ev.bind hn (f := fun k t => scarflaw05_Few.l0 k t 0 0) hb
  have e1 : wrap64 (m + 1) = m + 1 := w64 (by omega) (by omega)
  have hS : Ev (fun k => scarfref05_Size.f k x.f0 x.f1 x.f2 x.f3 (wrap64 (m + 1))) (((pre x).take (m + 1).toNat).length : Int) := by
    rw [e1]
    exact Ev.bind (nodes_ev x (m + 1) (by omega) (by omega)) (f := fun k t => some (t.length : Int)) (Ev.pure _)
  cases b with
  | false =>
    refine ⟨false, Ev.bind hF (f := fun k t => if t = true then ((scarfref05_Size.f k x.f0 x.f1 x.f2 x.f3 (wrap64 (m + 1))).bind fun t124 => (some (decide (t124 ≤ m)))) else (some false)) (Ev.of fun k => ?_), fun h => by cases h⟩
    rw [if_neg (by simp)]
  | true =>
    refine ⟨decide ((((pre x).take (m + 1).toNat).length : Int) ≤ m), Ev.bind hF (f := fun k t => if t = true then ((scarfref05_Size.f k x.f0 x.f1 x.f2 x.f3 (wrap64 (m + 1))).bind fun t124 => (some (decide (t124 ≤ m)))) else (some false)) (Ev.congr (Ev.bind hS (f := fun k t => some (decide (t ≤ m))) (Ev.pure _)) fun k => ?_), fun h => ?_⟩
    · rw [if_pos rfl]
    · have h2 := of_decide_eq_true h
      rw [List.length_take, pre_len] at h2
      have h3 : (nsz x : Int) ≤ m := by omega
      refine ⟨h3, fun y hy => hm rfl y ?_⟩
      rw [List.take_of_length_le (by rw [pre_len]; omega)]
      exact hy
end Go.Proofs.YtfmlpkeaiohknaaDoor.Q
