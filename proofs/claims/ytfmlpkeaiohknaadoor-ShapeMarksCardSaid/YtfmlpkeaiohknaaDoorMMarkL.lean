import Derived.Test.YtfmlpkeaiohknaaDoorMMk1
import Derived.Test.YtfmlpkeaiohknaaDoorQx7
import Derived.Test.YtfmlpkeaiohknaaDoorQx8
/-! ShapeMarks answers true for every three trees: the plain law. -/
set_option linter.unusedVariables false
set_option linter.unusedSimpArgs false
namespace Go.Proofs.YtfmlpkeaiohknaaDoor.Q
open Go.RowKit Go.Proofs.YtfmlpkeaiohknaaDoorW.PrintWords Go.Proofs.YtfmlpkeaiohknaaDoorW.PrintLast Go.Proofs.YtfmlpkeaiohknaaDoorW.PrintMore
theorem ints_same (a : List Int) (ha : a.length ≤ 1000000) : Ev (fun k => scarfref03_Same.f k a a) true := by
  have hl : ∀ (d i : Nat), i + d = a.length → Ev (fun k => scarfref03_Same.l0 k a a (i : Int)) true := by
    intro d
    induction d with
    | zero =>
      intro i hi
      refine Ev.step (Ev.of fun k => ?_)
      rw [scarfref03_Same.l0, if_neg (by omega)]
    | succ d ih =>
      intro i hi
      refine Ev.step (Ev.congr (ih (i + 1) (by omega)) fun k => ?_)
      show scarfref03_Same.l0 (k + 1) _ _ _ = _
      rw [scarfref03_Same.l0, if_pos (by omega), if_pos (by omega), if_pos (by omega), if_pos rfl, w64 (by omega) (by omega)]
      rfl
  refine Ev.congr (hl a.length 0 (by omega)) fun k => ?_
  unfold scarfref03_Same.f
  rw [if_pos rfl]
  rfl
section
variable {l : List S24} {out : List (List Int)} {i : Int} {v : List (List Int)}
theorem ref2_ev {seen nodes : List S24} {own : List Int} {j : Nat} {y : S24} (hy : nodes[j]? = some y) (hj : j < 1000000) (hs : seen.length ≤ 1000000) (ho : own.length ≤ 1000000) (hz : ∀ s ∈ seen, nsz s ≤ 1000000)
    (hrest : Ev (fun k => scarfref10_Marks.l1 k l 151 out (tput y seen) i (own ++ [(tidx y seen : Int)]) nodes ((j : Int) + 1)) v) :
    ∀ (rs ds : List S24), seen = ds ++ rs → y ∉ ds → Ev (fun k => scarfref10_Marks.l2 k l 151 out seen i own nodes (j : Int) (ds.length : Int)) v
  | [], ds, he, hn => by
    rw [List.append_nil] at he
    subst he
    have hjl := (List.getElem?_eq_some_iff.1 hy).1
    have hp : tput y seen = seen ++ [y] := by unfold tput; rw [if_neg hn]
    rw [hp, tidx_not hn] at hrest
    refine Ev.step (Ev.congr hrest fun k => ?_)
    show scarfref10_Marks.l2 (k + 1) _ _ _ _ _ _ _ _ _ = _
    rw [scarfref10_Marks.l2, if_neg (by omega), if_pos rfl, if_pos (by omega), if_pos (by omega), if_pos (by omega), if_pos (by omega), rdT_of hy, s24_eta, w64 (by omega) (by omega)]
  | s :: rs, ds, he, hn => by
    have hjl := (List.getElem?_eq_some_iff.1 hy).1
    have hlen : seen.length = ds.length + (rs.length + 1) := by rw [he]; simp
    have hsd : rd_T24 seen (ds.length : Int) = s := by rw [he]; exact rdT_at
    obtain ⟨b, hb, hbe⟩ := same_ev s y (hz s (by rw [he]; simp))
    have hgo : ∀ k, scarfref10_Marks.l2 (k + 1) l 151 out seen i own nodes (j : Int) (ds.length : Int) = (scarfref05_Same.f k s.f0 s.f1 s.f2 s.f3 y.f0 y.f1 y.f2 y.f3).bind fun t308 => (if t308 = true then (scarfref10_Marks.l1 k l 151 out seen i (own ++ [(ds.length : Int)]) nodes ((j : Int) + 1)) else (scarfref10_Marks.l2 k l 151 out seen i own nodes (j : Int) ((ds.length : Int) + 1))) := fun k => by
      rw [scarfref10_Marks.l2, if_pos (by omega), if_pos (by omega), if_pos (by omega), if_pos (by omega), hsd, rdT_of hy, if_neg (by omega), if_pos (by omega), w64 (by omega) (by omega), w64 (by omega) (by omega)]
    cases b with
    | true =>
      obtain rfl := hbe.1 rfl
      have hm : s ∈ seen := by rw [he]; simp
      have hp : tput s seen = seen := by unfold tput; rw [if_pos hm]
      have ht : tidx s seen = ds.length := by
        rw [he, show ds ++ s :: rs = (ds ++ [s]) ++ rs by simp, tidx_app rs (by simp), tidx_new hn]
      rw [hp, ht] at hrest
      exact Ev.step (Ev.congr (Ev.bind hb (f := fun k t308 => (if t308 = true then (scarfref10_Marks.l1 k l 151 out seen i (own ++ [(ds.length : Int)]) nodes ((j : Int) + 1)) else (scarfref10_Marks.l2 k l 151 out seen i own nodes (j : Int) ((ds.length : Int) + 1)))) (Ev.congr hrest fun k => by rw [if_pos rfl])) hgo)
    | false =>
      have hne : y ≠ s := fun e => by have := hbe.2 e.symm; cases this
      have h := ref2_ev hy hj hs ho hz hrest rs (ds ++ [s]) (by rw [he]; simp) (by simp; exact ⟨hn, hne⟩)
      refine Ev.step (Ev.congr (Ev.bind hb (f := fun k t308 => (if t308 = true then (scarfref10_Marks.l1 k l 151 out seen i (own ++ [(ds.length : Int)]) nodes ((j : Int) + 1)) else (scarfref10_Marks.l2 k l 151 out seen i own nodes (j : Int) ((ds.length : Int) + 1)))) (Ev.congr h fun k => ?_)) hgo)
      rw [if_neg (by simp)]
      simp
theorem tput_len (y : S24) (ks : List S24) : (tput y ks).length ≤ ks.length + 1 := by
  unfold tput; split <;> simp
theorem tput_all {p : S24 → Prop} {y : S24} {ks : List S24} (hy : p y) (h : ∀ k ∈ ks, p k) : ∀ k ∈ tput y ks, p k := by
  intro k hk
  unfold tput at hk
  split at hk
  · exact h k hk
  · rcases List.mem_append.1 hk with hk | hk
    · exact h k hk
    · rw [List.mem_singleton.1 hk]; exact hy
theorem ref1_ev (hout : out.length ≤ 1000) (hi0 : 0 ≤ i) (hi1 : i ≤ 1000) : ∀ (rn dn seen : List S24) (own : List Int), dn.length + rn.length ≤ 1000 → seen.length + rn.length ≤ 1000000 → own.length = dn.length → (∀ s ∈ seen, nsz s ≤ 1000000) → (∀ s ∈ rn, nsz s ≤ 1000000) →
    Ev (fun k => scarfref10_Marks.l0 k l 151 (out ++ [own ++ tnum rn seen]) (tseen rn seen) (i + 1)) v →
    Ev (fun k => scarfref10_Marks.l1 k l 151 out seen i own (dn ++ rn) (dn.length : Int)) v
  | [], dn, seen, own, h1, h2, h3, h4, h5, hrest => by
    simp only [tnum, tseen, List.append_nil] at *
    refine Ev.step (Ev.congr hrest fun k => ?_)
    show scarfref10_Marks.l1 (k + 1) _ _ _ _ _ _ _ _ = _
    rw [scarfref10_Marks.l1, if_neg (by omega), if_pos (by omega), w64 (by omega) (by omega)]
  | y :: rn, dn, seen, own, h1, h2, h3, h4, h5, hrest => by
    simp only [tnum, tseen, List.length_cons] at *
    have hl := tput_len y seen
    have h := ref1_ev hout hi0 hi1 rn (dn ++ [y]) (tput y seen) (own ++ [(tidx y seen : Int)]) (by simp; omega) (by omega) (by simp [h3]) (tput_all (h5 y (by simp)) h4) (fun s hs => h5 s (by simp [hs])) (by simpa using hrest)
    have h2' := ref2_ev (l := l) (out := out) (i := i) (v := v) (seen := seen) (nodes := dn ++ y :: rn) (own := own) (j := dn.length) (y := y) (by simp) (by omega) (by omega) (by omega) h4 (Ev.congr h fun k => by simp) seen [] rfl (by simp)
    refine Ev.step (Ev.congr h2' fun k => ?_)
    show scarfref10_Marks.l1 (k + 1) _ _ _ _ _ _ _ _ = _
    rw [scarfref10_Marks.l1, if_pos (by simp; omega)]
    rfl
end
theorem tseen_len : ∀ (o ks : List S24), (tseen o ks).length ≤ ks.length + o.length
  | [], ks => by simp [tseen]
  | y :: r, ks => by
    have h1 := tseen_len r (tput y ks)
    have h2 := tput_len y ks
    simp only [tseen, List.length_cons]; omega
theorem tseen_all {p : S24 → Prop} : ∀ (o ks : List S24), (∀ k ∈ o, p k) → (∀ k ∈ ks, p k) → ∀ k ∈ tseen o ks, p k
  | [], ks, ho, hk => hk
  | y :: r, ks, ho, hk => tseen_all r (tput y ks) (fun k h => ho k (by simp [h])) (tput_all (ho y (by simp)) hk)
theorem ref0_ev : ∀ (r d : List S24) (out : List (List Int)) (seen : List S24), d.length + r.length ≤ 1000 → out.length = d.length → seen.length + r.length * 150 ≤ 1000000 → (∀ x ∈ r, nsz x ≤ 150) → (∀ s ∈ seen, nsz s ≤ 1000000) →
    Ev (fun k => scarfref10_Marks.l0 k (d ++ r) 151 out seen (d.length : Int)) (out ++ tnums (r.map pre) seen)
  | [], d, out, seen, h1, h2, h3, h4, h5 => by
    refine Ev.step (Ev.of fun k => ?_)
    rw [scarfref10_Marks.l0, if_neg (by simp)]
    simp [tnums]
  | x :: r, d, out, seen, h1, h2, h3, h4, h5 => by
    simp only [List.length_cons] at h1 h3
    have hx := h4 x (by simp)
    have hm : ∀ k ∈ pre x, nsz k ≤ 1000000 := fun k hk => by have := sub_le hk; omega
    have hsl := tseen_len (pre x) seen
    rw [pre_len] at hsl
    have h := ref0_ev r (d ++ [x]) (out ++ [tnum (pre x) seen]) (tseen (pre x) seen) (by simp; omega) (by simp [h2]) (by omega) (fun z hz => h4 z (by simp [hz])) (tseen_all _ _ hm h5)
    have h1' := ref1_ev (l := d ++ x :: r) (out := out) (i := (d.length : Int)) (by omega) (by omega) (by omega) (pre x) [] seen [] (by simp [pre_len]; omega) (by rw [pre_len]; omega) rfl h5 hm (Ev.congr h fun k => by simp)
    refine Ev.step (Ev.congr (Ev.bind (nodes_all x hx) (f := fun k t300 => (scarfref10_Marks.l1 k (d ++ x :: r) 151 out seen (d.length : Int) ([] : List Int) t300 0)) (u := out ++ tnums ((x :: r).map pre) seen) ?_) fun k => ?_)
    · simpa [tnums] using h1'
    · show scarfref10_Marks.l0 (k + 1) _ _ _ _ _ = _
      rw [scarfref10_Marks.l0, if_pos (by simp; omega), if_pos (by omega), rdT_at]
theorem ref_ev (l : List S24) (hl : l.length ≤ 1000) (h : ∀ x ∈ l, nsz x ≤ 150) : Ev (fun k => scarfref10_Marks.f k l 151) (tnums (l.map pre) []) := by
  have h1 := ref0_ev l [] [] [] (by simpa using hl) rfl (by simp; omega) h (fun s hs => by cases hs)
  refine Ev.congr h1 fun k => ?_
  rfl
theorem tnum_len : ∀ (o ks : List S24), (tnum o ks).length = o.length
  | [], ks => rfl
  | y :: r, ks => by simp [tnum, tnum_len r]
theorem marks3_ev (x y z : S24) (hR0 : ∀ u ∈ pre x, inR u) (hR1 : ∀ u ∈ pre y, inR u) (hR2 : ∀ u ∈ pre z, inR u) :
    Ev (fun k => scarflaw10_ShapeMarks.f k x.f0 x.f1 x.f2 x.f3 y.f0 y.f1 y.f2 y.f3 z.f0 z.f1 z.f2 z.f3) true := by
  obtain ⟨b, hb, hm⟩ := few_ev x 150 (by omega) (by omega)
  obtain ⟨b2, hb2, hm2⟩ := few_ev y 150 (by omega) (by omega)
  obtain ⟨b3, hb3, hm3⟩ := few_ev z 150 (by omega) (by omega)
  have hj : Ev (fun k => scarflaw10_ShapeMarks.j0 k true x.f0 x.f1 x.f2 x.f3 y.f0 y.f1 y.f2 y.f3 z.f0 z.f1 z.f2 z.f3) true := by
    refine Ev.step (Ev.congr (Ev.bind known_eu (f := fun k t => if t = true then (some true) else (some false)) (Ev.of fun k => by rw [if_pos rfl])) fun k => ?_)
    show scarflaw10_ShapeMarks.j0 (k + 1) _ _ _ _ _ _ _ _ _ _ _ _ _ = _
    rw [scarflaw10_ShapeMarks.j0, if_pos rfl]
  have hgo : Ev (fun k => scarflaw10_ShapeMarks.j0 k (!(b && b2 && b3)) x.f0 x.f1 x.f2 x.f3 y.f0 y.f1 y.f2 y.f3 z.f0 z.f1 z.f2 z.f3) true := by
    by_cases hall : (b && b2 && b3) = true
    · simp only [Bool.and_eq_true] at hall
      obtain ⟨⟨rfl, rfl⟩, rfl⟩ := hall
      obtain ⟨hn, hs⟩ := hm rfl
      obtain ⟨hn2, hs2⟩ := hm2 rfl
      obtain ⟨hn3, hs3⟩ := hm3 rfl
      have hM : shape_Marks.f [x, y, z] = some (tnums [pre x, pre y, pre z] []) := by
        unfold shape_Marks.f
        rw [if_pos, marks_eq]
        · rfl
        · simp [okT_of (by omega) hs hR0, okT_of (by omega) hs2 hR1, okT_of (by omega) hs3 hR2]
      have hr := ref_ev [x, y, z] (by simp) (by simp; omega)
      have hr' : Ev (fun k => scarfref10_Marks.f k [x, y, z] 151) (tnums [pre x, pre y, pre z] []) := hr
      have e : tnums [pre x, pre y, pre z] [] = [tnum (pre x) [], tnum (pre y) (tseen (pre x) []), tnum (pre z) (tseen (pre y) (tseen (pre x) []))] := rfl
      rw [e] at hM hr'
      have hA : (tnum (pre x) []).length ≤ 1000000 := by rw [tnum_len, pre_len]; omega
      have hB : (tnum (pre y) (tseen (pre x) [])).length ≤ 1000000 := by rw [tnum_len, pre_len]; omega
      have hC : (tnum (pre z) (tseen (pre y) (tseen (pre x) []))).length ≤ 1000000 := by rw [tnum_len, pre_len]; omega
      generalize tnum (pre x) [] = A at *
      generalize tnum (pre y) (tseen (pre x) []) = B at *
      generalize tnum (pre z) (tseen (pre y) (tseen (pre x) [])) = C at *
      have h0 := Ev.bind (ints_same C hC) (f := fun k t357 => (if t357 = true then (some true) else (some false))) (Ev.of fun k => by rw [if_pos rfl])
      have h1 := Ev.bind (ints_same B hB) (f := fun k t354 => (if t354 = true then ((scarfref03_Same.f k C C).bind fun t357 => (if t357 = true then (some true) else (some false))) else (some false))) (Ev.congr h0 fun k => by rw [if_pos rfl])
      have h2 := Ev.bind (ints_same A hA) (f := fun k t351 => (if t351 = true then ((scarfref03_Same.f k B B).bind fun t354 => (if t354 = true then ((scarfref03_Same.f k C C).bind fun t357 => (if t357 = true then (some true) else (some false))) else (some false))) else (some false))) (Ev.congr h1 fun k => by rw [if_pos rfl])
      have h3 := Ev.bind known_eu (f := fun k t348 => (if t348 = true then ((scarfref03_Same.f k A A).bind fun t351 => (if t351 = true then ((scarfref03_Same.f k B B).bind fun t354 => (if t354 = true then ((scarfref03_Same.f k C C).bind fun t357 => (if t357 = true then (some true) else (some false))) else (some false))) else (some false))) else (some false))) (Ev.congr h2 fun k => by rw [if_pos rfl])
      have h4 := Ev.bind hr' (f := fun k t345 => ((scarflaw10_known.f k).bind fun t348 => (if t348 = true then (if 0 < (t345.length : Int) then ((scarfref03_Same.f k A (rd_L3 t345 0)).bind fun t351 => (if t351 = true then (if 1 < (t345.length : Int) then ((scarfref03_Same.f k B (rd_L3 t345 1)).bind fun t354 => (if t354 = true then (if 2 < (t345.length : Int) then ((scarfref03_Same.f k C (rd_L3 t345 2)).bind fun t357 => (if t357 = true then (some true) else (some false))) else (none)) else (some false))) else (none)) else (some false))) else (none)) else (some false)))) (u := true) (Ev.congr h3 fun k => by
        simp only [show rd_L3 [A, B, C] 0 = A from rfl, show rd_L3 [A, B, C] 1 = B from rfl, show rd_L3 [A, B, C] 2 = C from rfl, List.length_cons, List.length_nil]
        simp)
      refine Ev.step (Ev.congr h4 fun k => ?_)
      show scarflaw10_ShapeMarks.j0 (k + 1) false _ _ _ _ _ _ _ _ _ _ _ _ = _
      rw [scarflaw10_ShapeMarks.j0, if_neg (by simp), s24_eta, s24_eta, s24_eta, hM, Option.bind_some]
      simp only [show rd_L3 [A, B, C] 0 = A from rfl, show rd_L3 [A, B, C] 1 = B from rfl, show rd_L3 [A, B, C] 2 = C from rfl, List.length_cons, List.length_nil]
      simp
    · rw [Bool.not_eq_true] at hall
      rw [hall]; exact hj
  refine Ev.bind hb (f := fun k t332 => (if t332 = true then ((scarflaw10_few.f k y.f0 y.f1 y.f2 y.f3 150).bind fun t333 => (if t333 = true then ((scarflaw10_few.f k z.f0 z.f1 z.f2 z.f3 150).bind fun t334 => (scarflaw10_ShapeMarks.j0 k (!t334) x.f0 x.f1 x.f2 x.f3 y.f0 y.f1 y.f2 y.f3 z.f0 z.f1 z.f2 z.f3)) else (scarflaw10_ShapeMarks.j0 k true x.f0 x.f1 x.f2 x.f3 y.f0 y.f1 y.f2 y.f3 z.f0 z.f1 z.f2 z.f3))) else (scarflaw10_ShapeMarks.j0 k true x.f0 x.f1 x.f2 x.f3 y.f0 y.f1 y.f2 y.f3 z.f0 z.f1 z.f2 z.f3))) ?_
  cases b with
  | false => exact Ev.congr hj fun k => by rw [if_neg (by simp)]
  | true =>
    refine Ev.congr (Ev.bind hb2 (f := fun k t333 => (if t333 = true then ((scarflaw10_few.f k z.f0 z.f1 z.f2 z.f3 150).bind fun t334 => (scarflaw10_ShapeMarks.j0 k (!t334) x.f0 x.f1 x.f2 x.f3 y.f0 y.f1 y.f2 y.f3 z.f0 z.f1 z.f2 z.f3)) else (scarflaw10_ShapeMarks.j0 k true x.f0 x.f1 x.f2 x.f3 y.f0 y.f1 y.f2 y.f3 z.f0 z.f1 z.f2 z.f3))) ?_) fun k => by rw [if_pos rfl]
    cases b2 with
    | false => exact Ev.congr hj fun k => by rw [if_neg (by simp)]
    | true =>
      refine Ev.congr (Ev.bind hb3 (f := fun k t334 => (scarflaw10_ShapeMarks.j0 k (!t334) x.f0 x.f1 x.f2 x.f3 y.f0 y.f1 y.f2 y.f3 z.f0 z.f1 z.f2 z.f3)) ?_) fun k => by rw [if_pos rfl]
      simpa using hgo
end Go.Proofs.YtfmlpkeaiohknaaDoor.Q
