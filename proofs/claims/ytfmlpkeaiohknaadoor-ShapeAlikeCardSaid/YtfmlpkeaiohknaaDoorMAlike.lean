import Derived.Test.YtfmlpkeaiohknaaDoorMMk1
import Derived.Test.YtfmlpkeaiohknaaDoorQx9
/-! ShapeAlike answers true for every two trees: the plain law. -/
set_option linter.unusedVariables false
set_option linter.unusedSimpArgs false
namespace Go.Proofs.YtfmlpkeaiohknaaDoor.Q
open Go.RowKit Go.Proofs.YtfmlpkeaiohknaaDoorW.PrintWords Go.Proofs.YtfmlpkeaiohknaaDoorW.PrintLast Go.Proofs.YtfmlpkeaiohknaaDoorW.PrintMore
theorem two_marks (x y : S24) : ∃ g : S24 → Int, marks [x, y] = [(pre x).map g, (pre y).map g] ∧ ∀ u ∈ pre x, ∀ v ∈ pre y, (g u = g v ↔ u = v) := by
  obtain ⟨m, hm⟩ := tseen_app (pre y) (tseen (pre x) [])
  refine ⟨fun z => (tidx z (tseen (pre y) (tseen (pre x) [])) : Int), ?_, fun u hu v hv => ⟨fun h => ?_, fun h => by rw [h]⟩⟩
  · rw [marks_eq]
    simp only [List.map_cons, List.map_nil, tnums]
    rw [tnum_map (pre x) [] m, tnum_map (pre y) _ [], List.append_nil, ← hm]
  · refine tidx_inj ?_ (tseen_mem _ _ v hv) (Int.natCast_inj.1 h)
    rw [hm]
    exact List.mem_append_left _ (tseen_mem _ _ u hu)
section
variable {x y : S24} {g : S24 → Int} (hg : ∀ u ∈ pre x, ∀ v ∈ pre y, (g u = g v ↔ u = v)) (hx : nsz x ≤ 1000) (hy : nsz y ≤ 1000)
include hg hx hy
theorem alike1_ev {i : Nat} (hi : i < nsz x) (hrest : Ev (fun k => scarflaw10_ShapeAlike.l0 k [(pre x).map g, (pre y).map g] (pre x) (pre y) ((i : Int) + 1)) true) : ∀ (d j : Nat), j + d = nsz y →
    Ev (fun k => scarflaw10_ShapeAlike.l1 k [(pre x).map g, (pre y).map g] (pre x) (pre y) (i : Int) (j : Int)) true
  | 0, j, hd => by
    refine Ev.step (Ev.congr hrest fun k => ?_)
    show scarflaw10_ShapeAlike.l1 (k + 1) _ _ _ _ _ = _
    rw [scarflaw10_ShapeAlike.l1, if_neg (by rw [pre_len]; omega), w64 (by omega) (by omega)]
  | d + 1, j, hd => by
    have hu : (pre x)[i]? = some ((pre x)[i]'(by rw [pre_len]; exact hi)) := List.getElem?_eq_getElem _
    have hv : (pre y)[j]? = some ((pre y)[j]'(by rw [pre_len]; omega)) := List.getElem?_eq_getElem _
    generalize (pre x)[i]'(by rw [pre_len]; exact hi) = u at hu
    generalize (pre y)[j]'(by rw [pre_len]; omega) = v at hv
    have hum := List.mem_of_getElem? hu
    have hvm := List.mem_of_getElem? hv
    obtain ⟨b, hb, hbe⟩ := same_ev u v (by have := sub_le hum; omega)
    have hgu : rd ((pre x).map g) (i : Int) = g u := rdI_of (by rw [List.getElem?_map, hu]; rfl)
    have hgv : rd ((pre y).map g) (j : Int) = g v := rdI_of (by rw [List.getElem?_map, hv]; rfl)
    have hne : ((g u == g v) != b) = false := by
      have := hg u hum v hvm
      cases b with
      | true => simp at hbe; rw [hbe]; simp
      | false =>
        have h1 : ¬ u = v := fun e => by have := hbe.2 e; cases this
        have h2 : ¬ g u = g v := fun e => h1 (this.1 e)
        simp [h2]
    have hgo := alike1_ev hi hrest d (j + 1) (by omega)
    refine Ev.step (Ev.congr (Ev.bind hb (f := fun k t384 => (if (((g u) == (g v)) != t384) = true then (some false) else (scarflaw10_ShapeAlike.l1 k [(pre x).map g, (pre y).map g] (pre x) (pre y) (i : Int) ((j : Int) + 1)))) (Ev.congr hgo fun k => ?_)) fun k => ?_)
    · rw [hne, if_neg (by simp)]
      simp
    · show scarflaw10_ShapeAlike.l1 (k + 1) _ _ _ _ _ = _
      rw [scarflaw10_ShapeAlike.l1, if_pos (by rw [pre_len]; omega), if_pos (by simp), if_pos (by omega),
        show rd_L3 [(pre x).map g, (pre y).map g] 0 = (pre x).map g from rfl, show rd_L3 [(pre x).map g, (pre y).map g] 1 = (pre y).map g from rfl,
        if_pos (by rw [List.length_map, pre_len]; omega), if_pos (by simp), if_pos (by omega), if_pos (by rw [List.length_map, pre_len]; omega), if_pos (by rw [pre_len]; omega), rdT_of hu, rdT_of hv, hgu, hgv, w64 (by omega) (by omega)]
theorem alike0_ev : ∀ (d i : Nat), i + d = nsz x → Ev (fun k => scarflaw10_ShapeAlike.l0 k [(pre x).map g, (pre y).map g] (pre x) (pre y) (i : Int)) true
  | 0, i, hd => by
    refine Ev.step (Ev.of fun k => ?_)
    rw [scarflaw10_ShapeAlike.l0, if_neg (by rw [pre_len]; omega)]
  | d + 1, i, hd => by
    have h0 := alike0_ev d (i + 1) (by omega)
    have h := alike1_ev hg hx hy (i := i) (by omega) (Ev.congr h0 fun k => by push_cast; rfl) (nsz y) 0 (by omega)
    refine Ev.step (Ev.congr h fun k => ?_)
    show scarflaw10_ShapeAlike.l0 (k + 1) _ _ _ _ = _
    rw [scarflaw10_ShapeAlike.l0, if_pos (by rw [pre_len]; omega)]
    rfl
end
theorem alike_ev (x y : S24) (hR0 : ∀ z ∈ pre x, inR z) (hR1 : ∀ z ∈ pre y, inR z) : Ev (fun k => scarflaw10_ShapeAlike.f k x.f0 x.f1 x.f2 x.f3 y.f0 y.f1 y.f2 y.f3) true := by
  obtain ⟨b, hb, hm⟩ := few_ev x 150 (by omega) (by omega)
  obtain ⟨b2, hb2, hm2⟩ := few_ev y 150 (by omega) (by omega)
  have hj : Ev (fun k => scarflaw10_ShapeAlike.j0 k true x.f0 x.f1 x.f2 x.f3 y.f0 y.f1 y.f2 y.f3) true := by
    refine Ev.step (Ev.congr (Ev.bind known_eu (f := fun k t => if t = true then (some true) else (some false)) (Ev.of fun k => by rw [if_pos rfl])) fun k => ?_)
    show scarflaw10_ShapeAlike.j0 (k + 1) _ _ _ _ _ _ _ _ _ = _
    rw [scarflaw10_ShapeAlike.j0, if_pos rfl]
  refine Ev.bind hb (f := fun k t360 => (if t360 = true then ((scarflaw10_few.f k y.f0 y.f1 y.f2 y.f3 150).bind fun t361 => (scarflaw10_ShapeAlike.j0 k (!t361) x.f0 x.f1 x.f2 x.f3 y.f0 y.f1 y.f2 y.f3)) else (scarflaw10_ShapeAlike.j0 k true x.f0 x.f1 x.f2 x.f3 y.f0 y.f1 y.f2 y.f3))) ?_
  cases b with
  | false => exact Ev.congr hj fun k => by rw [if_neg (by simp)]
  | true =>
    refine Ev.congr (Ev.bind hb2 (f := fun k t361 => (scarflaw10_ShapeAlike.j0 k (!t361) x.f0 x.f1 x.f2 x.f3 y.f0 y.f1 y.f2 y.f3)) ?_) fun k => by rw [if_pos rfl]
    cases b2 with
    | false => exact hj
    | true =>
      obtain ⟨hn, hs⟩ := hm rfl
      obtain ⟨hn2, hs2⟩ := hm2 rfl
      obtain ⟨g, hg, hgi⟩ := two_marks x y
      have hM : shape_Marks.f [x, y] = some [(pre x).map g, (pre y).map g] := by
        unfold shape_Marks.f
        rw [if_pos, hg]
        simp [okT_of (by omega) hs hR0, okT_of (by omega) hs2 hR1]
      have h0 := alike0_ev hgi (by omega) (by omega) (nsz x) 0 (by omega)
      have h1 : Ev (fun k => scarflaw10_ShapeAlike.j1 k [(pre x).map g, (pre y).map g] (pre x) (pre y) false) true := by
        refine Ev.step (Ev.congr h0 fun k => ?_)
        show scarflaw10_ShapeAlike.j1 (k + 1) _ _ _ _ = _
        rw [scarflaw10_ShapeAlike.j1, if_neg (by simp)]
        rfl
      have hlx : (((pre x).map g).length : Int) = ((pre x).length : Int) := by simp
      have hly : ((((pre y).map g).length : Int) != ((pre y).length : Int)) = false := by simp
      have h2 := Ev.bind known_eu (f := fun k t375 => (if t375 = true then (scarflaw10_ShapeAlike.j1 k [(pre x).map g, (pre y).map g] (pre x) (pre y) false) else (scarflaw10_ShapeAlike.j1 k [(pre x).map g, (pre y).map g] (pre x) (pre y) true))) (Ev.congr h1 fun k => by rw [if_pos rfl])
      have h3 := Ev.bind (nodes_all y (by omega)) (f := fun k t372 => ((scarflaw10_known.f k).bind fun t375 => (if t375 = true then (if ((([(pre x).map g, (pre y).map g] : List (List Int)).length : Int) = 2) then (if 0 < (([(pre x).map g, (pre y).map g] : List (List Int)).length : Int) then (if ((rd_L3 [(pre x).map g, (pre y).map g] 0).length : Int) = ((pre x).length : Int) then (if 1 < (([(pre x).map g, (pre y).map g] : List (List Int)).length : Int) then (scarflaw10_ShapeAlike.j1 k [(pre x).map g, (pre y).map g] (pre x) t372 (((rd_L3 [(pre x).map g, (pre y).map g] 1).length : Int) != (t372.length : Int))) else (none)) else (scarflaw10_ShapeAlike.j1 k [(pre x).map g, (pre y).map g] (pre x) t372 true)) else (none)) else (scarflaw10_ShapeAlike.j1 k [(pre x).map g, (pre y).map g] (pre x) t372 true)) else (scarflaw10_ShapeAlike.j1 k [(pre x).map g, (pre y).map g] (pre x) t372 true)))) (u := true) (Ev.congr h2 fun k => by
        simp only [show rd_L3 [(pre x).map g, (pre y).map g] 0 = (pre x).map g from rfl, show rd_L3 [(pre x).map g, (pre y).map g] 1 = (pre y).map g from rfl, hlx, hly]
        simp)
      have h4 := Ev.bind (nodes_all x (by omega)) (f := fun k t369 => ((scarfref05_Nodes.f k y.f0 y.f1 y.f2 y.f3 151).bind fun t372 => ((scarflaw10_known.f k).bind fun t375 => (if t375 = true then (if ((([(pre x).map g, (pre y).map g] : List (List Int)).length : Int) = 2) then (if 0 < (([(pre x).map g, (pre y).map g] : List (List Int)).length : Int) then (if ((rd_L3 [(pre x).map g, (pre y).map g] 0).length : Int) = (t369.length : Int) then (if 1 < (([(pre x).map g, (pre y).map g] : List (List Int)).length : Int) then (scarflaw10_ShapeAlike.j1 k [(pre x).map g, (pre y).map g] t369 t372 (((rd_L3 [(pre x).map g, (pre y).map g] 1).length : Int) != (t372.length : Int))) else (none)) else (scarflaw10_ShapeAlike.j1 k [(pre x).map g, (pre y).map g] t369 t372 true)) else (none)) else (scarflaw10_ShapeAlike.j1 k [(pre x).map g, (pre y).map g] t369 t372 true)) else (scarflaw10_ShapeAlike.j1 k [(pre x).map g, (pre y).map g] t369 t372 true))))) h3
      refine Ev.step (Ev.congr h4 fun k => ?_)
      show scarflaw10_ShapeAlike.j0 (k + 1) false _ _ _ _ _ _ _ _ = _
      rw [scarflaw10_ShapeAlike.j0, if_neg (by simp), s24_eta, s24_eta, hM]
      rfl
end Go.Proofs.YtfmlpkeaiohknaaDoor.Q
