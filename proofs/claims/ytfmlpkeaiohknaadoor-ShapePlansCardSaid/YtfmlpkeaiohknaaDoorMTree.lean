import Derived.Test.YtfmlpkeaiohknaaDoorMFew
import Derived.Test.YtfmlpkeaiohknaaDoorQx2
/-! Trees that are the same; the numbers of shape.Marks told by the trees themselves. -/
set_option linter.unusedVariables false
set_option linter.unusedSimpArgs false
namespace Go.Proofs.YtfmlpkeaiohknaaDoor.Q
open Go.RowKit Go.Proofs.YtfmlpkeaiohknaaDoorW.PrintWords Go.Proofs.YtfmlpkeaiohknaaDoorW.PrintLast Go.Proofs.YtfmlpkeaiohknaaDoorW.PrintMore
theorem toList_loop (a : ByteArray) : ∀ (n i : Nat) (r : List UInt8), a.size - i = n → ByteArray.toList.loop a i r = r.reverse ++ a.data.toList.drop i
  | 0, i, r, h => by
    unfold ByteArray.toList.loop
    rw [if_neg (by omega), List.drop_eq_nil_of_le (by rw [Array.length_toList]; show a.size ≤ i; omega)]
    simp
  | n + 1, i, r, h => by
    unfold ByteArray.toList.loop
    rw [if_pos (by omega), toList_loop a n (i + 1) _ (by omega)]
    have hl : i < a.data.toList.length := by rw [Array.length_toList]; show i < a.size; omega
    rw [List.drop_eq_getElem_cons hl]
    have : a.get! i = a.data.toList[i] := by
      show a.data[i]! = _
      simp at hl
      simp [getElem!_pos, hl]
    rw [this]
    simp
theorem toList_data (a : ByteArray) : a.toList = a.data.toList := by
  unfold ByteArray.toList
  rw [toList_loop a _ 0 [] rfl]
  simp
theorem data_inj {a b : ByteArray} (h : a.data.toList = b.data.toList) : a = b := by
  obtain ⟨⟨a⟩⟩ := a; obtain ⟨⟨b⟩⟩ := b
  simp only at h
  rw [h]
theorem toList_inj {a b : ByteArray} : a.toList = b.toList ↔ a = b := ⟨fun h => data_inj (by rw [toList_data, toList_data] at h; exact h), fun h => by rw [h]⟩
mutual
theorem same_ev : ∀ (x y : S24), nsz x ≤ 1000000 → ∃ b, Ev (fun k => scarfref05_Same.f k x.f0 x.f1 x.f2 x.f3 y.f0 y.f1 y.f2 y.f3) b ∧ (b = true ↔ x = y)
  | ⟨a, b, c, l⟩, y, hn => by
    obtain ⟨a', b', c', m⟩ := y
    simp only [nsz] at hn
    have hj : ∀ q : Bool, q = true → Ev (fun k => scarfref05_Same.j0 k q a b c l a' b' c' m) false := fun q hq => by
      subst hq
      exact Ev.step (Ev.of fun k => by rw [scarfref05_Same.j0, if_pos rfl])
    by_cases h0 : a = a'
    · by_cases h1 : b = b'
      · by_cases h2 : c = c'
        · subst h0 h1 h2
          by_cases h3 : l.length = m.length
          · obtain ⟨q, hq, hm⟩ := sameL_ev l m [] [] a b c a b c h3 rfl (by simp; omega)
            simp only [List.nil_append, List.length_nil] at hq
            refine ⟨q, Ev.step (Ev.congr (Ev.step (g := fun k => scarfref05_Same.j0 k false a b c l a b c m) (Ev.congr hq fun k => ?_)) fun k => ?_), by rw [hm]; simp⟩
            · show scarfref05_Same.j0 (k + 1) false a b c l a b c m = _
              rw [scarfref05_Same.j0, if_neg (by simp)]; rfl
            · show scarfref05_Same.f (k + 1) _ _ _ _ _ _ _ _ = _
              rw [scarfref05_Same.f, if_pos rfl, if_pos rfl, if_pos rfl, h3]
              simp
          · refine ⟨false, Ev.step (Ev.congr (hj true rfl) fun k => ?_), by simp; intro h; exact h3 (by rw [h])⟩
            show scarfref05_Same.f (k + 1) _ _ _ _ _ _ _ _ = _
            rw [scarfref05_Same.f, if_pos rfl, if_pos rfl, if_pos rfl]
            congr 1
            simp; omega
        · refine ⟨false, Ev.step (Ev.congr (hj true rfl) fun k => ?_), by simp [h2]⟩
          show scarfref05_Same.f (k + 1) _ _ _ _ _ _ _ _ = _
          rw [scarfref05_Same.f, if_pos h0, if_pos (toList_inj.2 h1), if_neg (fun h => h2 (toList_inj.1 h))]
      · refine ⟨false, Ev.step (Ev.congr (hj true rfl) fun k => ?_), by simp [h1]⟩
        show scarfref05_Same.f (k + 1) _ _ _ _ _ _ _ _ = _
        rw [scarfref05_Same.f, if_pos h0, if_neg (fun h => h1 (toList_inj.1 h))]
    · refine ⟨false, Ev.step (Ev.congr (hj true rfl) fun k => ?_), by simp [h0]⟩
      show scarfref05_Same.f (k + 1) _ _ _ _ _ _ _ _ = _
      rw [scarfref05_Same.f, if_neg h0]
theorem sameL_ev : ∀ (r s dx dy : List S24) (a : Int) (b c : ByteArray) (a' : Int) (b' c' : ByteArray), r.length = s.length → dx.length = dy.length → dx.length + nszL r ≤ 1000000 →
    ∃ q, Ev (fun k => scarfref05_Same.l0 k (dx.length : Int) a b c (dx ++ r) a' b' c' (dy ++ s)) q ∧ (q = true ↔ r = s)
  | [], s, dx, dy, a, b, c, a', b', c', hl, hd, hn => by
    obtain rfl : s = [] := List.length_eq_zero_iff.1 hl.symm
    exact ⟨true, Ev.step (Ev.of fun k => by rw [scarfref05_Same.l0, if_neg (by simp)]), by simp⟩
  | x :: r, s, dx, dy, a, b, c, a', b', c', hl, hd, hn => by
    obtain _ | ⟨y, s⟩ := s
    · simp at hl
    · simp only [nszL] at hn
      have hp : 0 < nsz x := by have := pre_pos x; rwa [pre_len] at this
      obtain ⟨q, hq, hm⟩ := same_ev x y (by omega)
      have hgo : ∀ k, scarfref05_Same.l0 (k + 1) (dx.length : Int) a b c (dx ++ x :: r) a' b' c' (dy ++ y :: s) = (scarfref05_Same.f k x.f0 x.f1 x.f2 x.f3 y.f0 y.f1 y.f2 y.f3).bind fun t131 => (if t131 = true then (scarfref05_Same.l0 k ((dx.length : Int) + 1) a b c (dx ++ x :: r) a' b' c' (dy ++ y :: s)) else (some false)) := fun k => by
        rw [scarfref05_Same.l0, if_pos (by simp; omega), if_pos (by omega), if_pos (by simp; omega), rdT_at, hd, rdT_at, w64 (by omega) (by omega)]
      cases q with
      | false =>
        refine ⟨false, Ev.step (Ev.congr (Ev.bind hq (f := fun k t131 => (if t131 = true then (scarfref05_Same.l0 k ((dx.length : Int) + 1) a b c (dx ++ x :: r) a' b' c' (dy ++ y :: s)) else (some false))) (Ev.of fun k => by rw [if_neg (by simp)])) hgo), by simp; intro h; simp [h] at hm⟩
      | true =>
        obtain rfl := hm.1 rfl
        obtain ⟨q2, hq2, hm2⟩ := sameL_ev r s (dx ++ [x]) (dy ++ [x]) a b c a' b' c' (by simpa using hl) (by simp [hd]) (by simp; omega)
        refine ⟨q2, Ev.step (Ev.congr (Ev.bind hq (f := fun k t131 => (if t131 = true then (scarfref05_Same.l0 k ((dx.length : Int) + 1) a b c (dx ++ x :: r) a' b' c' (dy ++ x :: s)) else (some false))) (Ev.congr hq2 fun k => ?_)) hgo), by rw [hm2]; simp⟩
        rw [if_pos rfl]
        simp
end
open Classical in
/-- Where a tree stands in a list. -/
noncomputable def tidx (y : S24) : List S24 → Nat
  | [] => 0
  | s :: r => if s = y then 0 else tidx y r + 1
open Classical in
noncomputable def tput (y : S24) (ks : List S24) : List S24 := if y ∈ ks then ks else ks ++ [y]
noncomputable def tseen : List S24 → List S24 → List S24
  | [], ks => ks
  | y :: r, ks => tseen r (tput y ks)
noncomputable def tnum : List S24 → List S24 → List Int
  | [], _ => []
  | y :: r, ks => (tidx y ks : Int) :: tnum r (tput y ks)
noncomputable def tnums : List (List S24) → List S24 → List (List Int)
  | [], _ => []
  | o :: r, ks => tnum o ks :: tnums r (tseen o ks)
theorem tidx_lt {y : S24} : ∀ {ks : List S24}, y ∈ ks → tidx y ks < ks.length
  | [], h => by cases h
  | s :: r, h => by
    unfold tidx
    split
    · simp
    · rename_i hs
      rcases List.mem_cons.1 h with h | h
      · exact absurd h.symm hs
      · have := tidx_lt h; simp; omega
theorem tidx_get {y : S24} : ∀ {ks : List S24}, y ∈ ks → ks[tidx y ks]? = some y
  | [], h => by cases h
  | s :: r, h => by
    unfold tidx
    split
    · rename_i hs; simp [hs]
    · rename_i hs
      rcases List.mem_cons.1 h with h | h
      · exact absurd h.symm hs
      · simpa using tidx_get h
theorem tidx_inj {y z : S24} {ks : List S24} (hy : y ∈ ks) (hz : z ∈ ks) (h : tidx y ks = tidx z ks) : y = z := by
  have h1 := tidx_get hy
  rw [h, tidx_get hz] at h1
  injection h1 with h1
  exact h1.symm
theorem tidx_not {y : S24} : ∀ {ks : List S24}, y ∉ ks → tidx y ks = ks.length
  | [], h => rfl
  | s :: r, h => by
    unfold tidx
    rw [if_neg (fun e => h (by simp [e])), tidx_not (fun e => h (by simp [e]))]
    simp
theorem tidx_app {y : S24} : ∀ {ks : List S24} (m : List S24), y ∈ ks → tidx y (ks ++ m) = tidx y ks
  | [], m, h => by cases h
  | s :: r, m, h => by
    simp only [List.cons_append]
    unfold tidx
    split
    · rfl
    · rename_i hs
      rcases List.mem_cons.1 h with h | h
      · exact absurd h.symm hs
      · rw [tidx_app m h]
theorem tidx_new {y : S24} : ∀ {ks : List S24}, y ∉ ks → tidx y (ks ++ [y]) = ks.length
  | [], h => by simp [tidx]
  | s :: r, h => by
    simp only [List.cons_append]
    unfold tidx
    rw [if_neg (fun e => h (by simp [e])), tidx_new (fun e => h (by simp [e]))]
    simp
theorem tput_mem (y : S24) (ks : List S24) : y ∈ tput y ks := by
  unfold tput; split
  · assumption
  · simp
theorem tput_app (y : S24) (ks : List S24) : ∃ m, tput y ks = ks ++ m := by
  unfold tput; split
  · exact ⟨[], by simp⟩
  · exact ⟨[y], rfl⟩
theorem tidx_put (y : S24) (ks : List S24) : tidx y (tput y ks) = tidx y ks := by
  unfold tput; split
  · rfl
  · rename_i h; rw [tidx_new h, tidx_not h]
theorem tseen_app : ∀ (o ks : List S24), ∃ m, tseen o ks = ks ++ m
  | [], ks => ⟨[], by simp [tseen]⟩
  | y :: r, ks => by
    obtain ⟨m, hm⟩ := tput_app y ks
    obtain ⟨m2, hm2⟩ := tseen_app r (tput y ks)
    exact ⟨m ++ m2, by simp only [tseen]; rw [hm2, hm, List.append_assoc]⟩
theorem tseen_mem : ∀ (o ks : List S24), ∀ y ∈ o, y ∈ tseen o ks
  | [], ks, y, h => by cases h
  | z :: r, ks, y, h => by
    simp only [tseen]
    rcases List.mem_cons.1 h with rfl | h
    · obtain ⟨m, hm⟩ := tseen_app r (tput y ks)
      rw [hm]
      exact List.mem_append_left _ (tput_mem y ks)
    · exact tseen_mem r _ y h
/-- The numbers, told by the list at the end. -/
theorem tnum_map : ∀ (o ks m : List S24), tnum o ks = o.map fun y => (tidx y (tseen o ks ++ m) : Int)
  | [], ks, m => rfl
  | y :: r, ks, m => by
    simp only [tnum, tseen, List.map_cons]
    rw [tnum_map r (tput y ks) m]
    congr 1
    obtain ⟨m2, hm2⟩ := tseen_app r (tput y ks)
    rw [hm2, List.append_assoc, tidx_app _ (tput_mem y ks), tidx_put]
end Go.Proofs.YtfmlpkeaiohknaaDoor.Q
