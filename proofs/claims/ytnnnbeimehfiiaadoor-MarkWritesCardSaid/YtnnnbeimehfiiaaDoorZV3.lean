/- The texts of this claim that lie below its row, in their order: KRw KRead KFw KLab3 KSame KWr KKn0 KKn. -/
import Derived.Test.YtnnnbeimehfiiaaDoorZV2
-- Written by a program of this session (wip/gen_refw.py) for this claim; Lean checks it.
/-! The reference's Pick and Write: in plain Lean, and walked. -/
set_option linter.unusedVariables false
set_option linter.unusedSimpArgs false
namespace Go.Proofs.YtnnnbeimehfiiaaDoor.Q
open Go Go.RowKit Go.Proofs.YtnnnbeimehfiiaaDoorW.PrintWords Go.Proofs.YtnnnbeimehfiiaaDoorW.PrintLast Go.Proofs.YtnnnbeimehfiiaaDoorW.PrintMore Go.Proofs.YtnnnbeimehfiiaaDoorW.SL
attribute [local go_sem] max2_int min2_int max_two min_two max_three min_three max_four min_four
def rpPart (side : Int) (acc : List Int) (p : Pt) : List Int :=
  if p.region then (if 0 ≤ side ∧ side < 3 then endNl acc ++ endNl (sideOf p side) else endNl acc) else endNl acc ++ p.text
def rpAll (side : Int) : List Pt → List Int → List Int
  | [], acc => acc
  | p :: r, acc => rpAll side r (rpPart side acc p)
def rwPart (n : Nat) (s0 s1 s2 : ByteArray) (acc : List Int) (p : Pt) : List Int :=
  if p.region then endNl acc ++ mkLine 60 n s0 ++ endNl p.s0 ++ mkLine 124 n s1 ++ endNl p.s1 ++ mkLine 61 n ⟨#[]⟩ ++ endNl p.s2 ++ mkLine 62 n s2 else endNl acc ++ p.text
def rwAll (n : Nat) (s0 s1 s2 : ByteArray) : List Pt → List Int → List Int
  | [], acc => acc
  | p :: r, acc => rwAll n s0 s1 s2 r (rwPart n s0 s1 s2 acc p)
theorem rpAll_next {side : Int} {ps : List Pt} {i : Nat} {p : Pt} {acc R : List Int} (h : rpAll side (ps.drop i) acc = R) (hp : ps[i]? = some p) : rpAll side (ps.drop (i + 1)) (rpPart side acc p) = R := by
  have hlt := (List.getElem?_eq_some_iff.1 hp).1
  have hpe := (List.getElem?_eq_some_iff.1 hp).2
  rw [List.drop_eq_getElem_cons hlt, hpe] at h
  exact h
theorem rwAll_next {n : Nat} {s0 s1 s2 : ByteArray} {ps : List Pt} {i : Nat} {p : Pt} {acc R : List Int} (h : rwAll n s0 s1 s2 (ps.drop i) acc = R) (hp : ps[i]? = some p) : rwAll n s0 s1 s2 (ps.drop (i + 1)) (rwPart n s0 s1 s2 acc p) = R := by
  have hlt := (List.getElem?_eq_some_iff.1 hp).1
  have hpe := (List.getElem?_eq_some_iff.1 hp).2
  rw [List.drop_eq_getElem_cons hlt, hpe] at h
  exact h
theorem endNl_app {a s : List Int} (h : endNl a = a) : endNl (a ++ s) = a ++ endNl s := by
  rcases List.eq_nil_or_concat s with rfl | ⟨r, x, hs⟩
  · rw [List.append_nil, endNl_nil, List.append_nil, h]
  · have h2 : s = r ++ [x] := by simpa using hs
    subst h2
    rw [← List.append_assoc, endNl_snoc, endNl_snoc]
    split <;> simp
theorem endNl_idem (a : List Int) : endNl (endNl a) = endNl a := by
  rcases List.eq_nil_or_concat a with rfl | ⟨r, x, hs⟩
  · rfl
  · have h2 : a = r ++ [x] := by simpa using hs
    subst h2
    rw [endNl_snoc]
    split
    · rename_i hx; rw [endNl_snoc, if_pos hx]
    · rw [endNl_snoc]; simp
theorem endNl_line (a : List Int) (x : UInt8) (n : Nat) (s : ByteArray) : endNl (a ++ mkLine x n s) = a ++ mkLine x n s := by
  unfold mkLine
  rw [← List.append_assoc, endNl_snoc, if_pos rfl]
/-- Both Picks answer the same. -/
theorem pick_same (side : Int) : ∀ (ps : List Pt) (r : List Int), ps ≠ [] → pickAll side ps (endNl r) = rpAll side ps r
  | [], r, h => absurd rfl h
  | [p], r, _ => by
    show pickPart side true (endNl r) p = rpPart side r p
    unfold pickPart rpPart
    split
    · split
      · rw [endNl_app (endNl_idem r)]
      · rfl
    · rfl
  | p :: q :: t, r, _ => by
    show pickAll side (q :: t) (pickPart side false (endNl r) p) = rpAll side (q :: t) (rpPart side r p)
    rw [← pick_same side (q :: t) (rpPart side r p) (by simp)]
    congr 1
    unfold pickPart rpPart
    split
    · split
      · rw [endNl_app (endNl_idem r), endNl_app (endNl_idem r), endNl_idem]
      · rw [endNl_idem]
    · rfl
theorem pick_eq (side : Int) (ps : List Pt) : pickAll side ps [] = rpAll side ps [] := by
  by_cases h : ps = []
  · subst h; rfl
  · exact pick_same side ps [] h
/-- Both Writes answer the same. -/
theorem write_same (n : Nat) (s0 s1 s2 : ByteArray) : ∀ (ps : List Pt) (r : List Int), ps ≠ [] → wrAll n s0 s1 s2 ps (endNl r) = rwAll n s0 s1 s2 ps r
  | [], r, h => absurd rfl h
  | [p], r, _ => by
    show wrPart n s0 s1 s2 true (endNl r) p = rwPart n s0 s1 s2 r p
    unfold wrPart rwPart wrReg
    split
    · rw [endNl_app (endNl_line _ _ _ _), endNl_app (endNl_line _ _ _ _), endNl_app (endNl_line _ _ _ _)]
    · rfl
  | p :: q :: t, r, _ => by
    show wrAll n s0 s1 s2 (q :: t) (wrPart n s0 s1 s2 false (endNl r) p) = rwAll n s0 s1 s2 (q :: t) (rwPart n s0 s1 s2 r p)
    rw [← write_same n s0 s1 s2 (q :: t) (rwPart n s0 s1 s2 r p) (by simp)]
    congr 1
    unfold wrPart rwPart wrReg
    split
    · rw [endNl_app (endNl_line _ _ _ _), endNl_app (endNl_line _ _ _ _), endNl_app (endNl_line _ _ _ _), endNl_line]
    · rfl
theorem write_eq (n : Nat) (s0 s1 s2 : ByteArray) (ps : List Pt) : wrAll n s0 s1 s2 ps [] = rwAll n s0 s1 s2 ps [] := by
  by_cases h : ps = []
  · subst h; rfl
  · exact write_same n s0 s1 s2 ps [] h
theorem box5 {w : World} {g t : Nat} {c0 c1 c2 c3 c4 : Value} (h : w.heap[g]? = some (.cells #[c0, c1, c2, c3, c4] t (0, 0))) : w.cell? ⟨g, 0, none⟩ = some c0 ∧ w.cell? ⟨g, 1, none⟩ = some c1 ∧ w.cell? ⟨g, 2, none⟩ = some c2 ∧ w.cell? ⟨g, 3, none⟩ = some c3 ∧ w.cell? ⟨g, 4, none⟩ = some c4 :=
  ⟨(blk_cell h 0).trans rfl, (blk_cell h 1).trans rfl, (blk_cell h 2).trans rfl, (blk_cell h 3).trans rfl, (blk_cell h 4).trans rfl⟩
theorem box3 {w : World} {g t : Nat} {c0 c1 c2 : Value} (h : w.heap[g]? = some (.cells #[c0, c1, c2] t (0, 0))) : w.cell? ⟨g, 0, none⟩ = some c0 ∧ w.cell? ⟨g, 1, none⟩ = some c1 ∧ w.cell? ⟨g, 2, none⟩ = some c2 :=
  ⟨(blk_cell h 0).trans rfl, (blk_cell h 1).trans rfl, (blk_cell h 2).trans rfl⟩
theorem rd_mk (x : UInt8) (y : Int) (hy : y = bnum x) (n : Int) (s : ByteArray) (w : World) (h0 : 0 ≤ n) (hn : n ≤ 100000) (hs : s.size ≤ 100000) :
    Calls Tryd.prog 40 #[.int .u8 y, .int .i64 n, .string s] w fun e w' => ∃ A' c', e = .returned (.slice A' (mkLine x n.toNat s).length c') ∧ (mkLine x n.toNat s).length ≤ c' ∧ Kd.C B8 w' A' (mkLine x n.toNat s).length (mkLine x n.toNat s) ∧ Below w.heap.size w w' := by
  obtain ⟨N, rfl⟩ := Int.eq_ofNat_of_zero_le h0
  subst hy
  exact rd_marker x N s w (by omega) hs
set_option maxHeartbeats 16000000 in
set_option maxRecDepth 100000 in
theorem rPick_calls (side : Int) (A : Option Addr) (c : Nat) (ps : List Pt) (w : World) (hr : Kd.C kP w A ps.length ps) (hc : ps.length ≤ c) (hps : ps.length ≤ 100000) (hf : ∀ p ∈ ps, p.text.length ≤ 5000000 ∧ p.s0.length ≤ 5000000 ∧ p.s1.length ≤ 5000000 ∧ p.s2.length ≤ 5000000) :
    Calls Tryd.prog 23 #[.slice A ps.length c, .int .i64 side] w fun e w' => ∃ (A' : Option Addr) (c' : Nat), e = .returned (.slice A' (rpAll side ps []).length c') ∧ (rpAll side ps []).length ≤ c' ∧ Kd.C B8 w' A' (rpAll side ps []).length (rpAll side ps []) ∧ Below w.heap.size w w' := by
 have HPS := Aside0.mk hps; have HF := Aside0.mk hf
 have hF0 : ∀ a ∈ [rdV kP A c ps], a.P w (fun k => k < w.heap.size) := by
   intro a ha; rw [List.mem_singleton] at ha; subst ha
   exact ⟨hc, Kd.C_F kP_heap hr⟩
 have HS := Aside0.mk ((Stt.start w hF0).with ((Stt.start w hF0).st.row_nil 5 1) : Stt w (fun k => k < w.heap.size) [rw8 (.slice none 0 0) []] [rdV kP A c ps] w)
 clear hr hc hps hf hF0
 obtain ⟨R, hR⟩ : ∃ R, rpAll side ps [] = R := ⟨_, rfl⟩
 rw [hR]
 replace hR := Aside0.mk hR
 go_enter Tryd.func23, Tryd.ntmps23
 go_wp2
 go_loopg [5, 6] ps.length (fun kq v5 v6 W => ∃ (ii : Int) (i : Nat) (acc : List Int), v6 = .int .i64 ii ∧ Aside0 (ii = (i : Int)) ∧ i ≤ ps.length ∧ kq = ps.length - i ∧ Aside0 (rpAll side (ps.drop i) acc = R) ∧ Aside0 (acc.length ≤ i * 20000000) ∧ Aside0 (Stt w (fun k => k < w.heap.size) [rw8 v5 acc] [rdV kP A c ps] W))
 case atStart => exact ⟨0, 0, [], rfl, ⟨rfl⟩, Nat.zero_le _, rfl, hR, ⟨Nat.le_refl _⟩, HS⟩
 case round =>
  obtain ⟨ii, i, acc, rfl, hii, hi, hgk, hall, hal, S⟩ := hrel
  obtain ⟨wb, rfl⟩ : ∃ q, q = wr := ⟨_, rfl⟩
  by_cases hin : ii < (ps.length : Int)
  · have p0 : 0 ≤ ii := by have := hii.out; omega
    have e0 : ii.toNat = i := by have := hii.out; omega
    have hw1 : wrap64 (ii + 1) = ii + 1 := by have := hii.out; have := HPS.out; unfold wrap64; omega
    have hend := endNl_le acc
    have hal2 : (endNl acc).length ≤ i * 20000000 + 1 := by have := hal.out; omega
    have hi3 : i ≤ 100000 := Nat.le_trans hi HPS.out
    have HB := Aside0.mk (⟨hal2, hi3, hi, hgk⟩ : _ ∧ _ ∧ _ ∧ _)
    clear hend hal2 hi3 hi hgk
    have hinb := eq_true hin
    have p0b := eq_true p0
    replace e0 := Aside0.mk e0
    go_upto_region 6 with (go_at_call 39; refine (st_ended S.out 0 rfl (by have := HB.out.1; have := HB.out.2.1; have := hal.out; omega)).mono ?_; rintro e_ w_ ⟨v_, rfl, S_⟩; simp only [List.set_cons_succ, List.set_cons_zero] at S_; replace S := Aside0.mk S_; clear S_)
    obtain ⟨ad, x, A1, c1, A2, c2, A3, c3, A4, c4, rfl, hxi, hok, hx0, hx1, hx2, hx3, hx4, g1, g2, g3, g4⟩ := at_Pt (S.out.rd 0 rfl).2 ii p0 hin
    rw [e0.out] at hxi
    have hxm := HF.out x (List.mem_of_getElem? hxi)
    have hnext := rpAll_next hall.out hxi
    have G := Aside0.mk (⟨Kd.F_now g1.2, Kd.F_now g2.2, Kd.F_now g3.2, Kd.F_now g4.2, g2.1, g3.1, g4.1, hxm⟩ : _ ∧ _ ∧ _ ∧ _ ∧ _ ∧ _ ∧ _ ∧ _)
    obtain ⟨rg, T, S0, S1, S2⟩ := x
    simp only at hx0 hx1 hx2 hx3 hx4
    have HX : Aside0 (T.length ≤ 5000000 ∧ S0.length ≤ 5000000 ∧ S1.length ≤ 5000000 ∧ S2.length ≤ 5000000) := ⟨hxm⟩
    clear g1 g2 g3 g4 hxi hok hxm
    cases rg with
    | false =>
      replace hnext : rpAll side (ps.drop (i + 1)) (endNl acc ++ T) = R := by simpa [rpPart] using hnext
      replace hnext := Aside0.mk hnext
      go_wp2_with (((with_reducible refine gate_builtin (b := .append) (xs := #[.tmp 21, .tmp 26]) rfl ?_); at_builtin; refine wpl rfl (fun K hK => st_app (by rfl) (.tmp 21) (.tmp 26) rfl Tryd.underlying22 inf5 0 rfl rfl S.out rfl (G.out.1) (by have := HX.out; have := HB.out.1; have := HB.out.2.1; omega) ?_); intro v_ w_ S_; refine hK _ _ ?_; simp only [List.set_cons_succ, List.set_cons_zero] at S_; replace S := Aside0.mk S_; clear S_))
      go_roundg (ps.length - (i + 1))
      case rel => exact ⟨wrap64 (ii + 1), i + 1, _, by first | rfl | (simp; done) | (simp [hw1]; done), ⟨by rw [hw1]; have := hii.out; omega⟩, by have := hii.out; omega, rfl, hnext, ⟨by have := HX.out; have := HB.out.1; (try simp only [List.length_append]); omega⟩, S⟩
      case measure => have := hii.out; have := HB.out.2.2.2; omega
    | true =>
      by_cases hs0 : side = 0
      · subst hs0
        replace hnext : rpAll 0 (ps.drop (i + 1)) (endNl acc ++ endNl S0) = R := by simpa [rpPart, sideOf] using hnext
        replace hnext := Aside0.mk hnext
        go_wp2_with (first | (go_at_call 39; refine (rd_ended _ _ _ _ (G.out.2.1) G.out.2.2.2.2.1 (by have := HX.out; have := HB.out.1; have := HB.out.2.1; show S0.length + 1 ≤ _; omega)).mono ?_; rintro e_ w_ ⟨Am, cm, rfl, hc_, hC_, hb_⟩; replace S := Aside0.mk (S.out.keep hb_); have HM := Aside0.mk hC_; have hl_ := endNl_le S0; have HL := Aside0.mk hl_; clear hc_ hC_ hb_ hl_) | ((with_reducible refine gate_builtin (b := .append) (xs := #[.tmp 34, .tmp 42]) rfl ?_); at_builtin; refine wpl rfl (fun K hK => st_app (by rfl) (.tmp 34) (.tmp 42) rfl Tryd.underlying22 inf5 0 rfl rfl S.out rfl (HM.out) (by have := HX.out; have := HB.out.1; have := HB.out.2.1; have := HL.out; omega) ?_); intro v_ w_ S_; refine hK _ _ ?_; simp only [List.set_cons_succ, List.set_cons_zero] at S_; replace S := Aside0.mk S_; clear S_))
        go_roundg (ps.length - (i + 1))
        case rel => exact ⟨wrap64 (ii + 1), i + 1, _, by first | rfl | (simp; done) | (simp [hw1]; done), ⟨by rw [hw1]; have := hii.out; omega⟩, by have := hii.out; omega, rfl, hnext, ⟨by have := HX.out; have := HL.out; have := HB.out.1; (try simp only [List.length_append]); omega⟩, S⟩
        case measure => have := hii.out; have := HB.out.2.2.2; omega
      by_cases hs1 : side = 1
      · subst hs1
        replace hnext : rpAll 1 (ps.drop (i + 1)) (endNl acc ++ endNl S1) = R := by simpa [rpPart, sideOf] using hnext
        replace hnext := Aside0.mk hnext
        go_wp2_with (first | (go_at_call 39; refine (rd_ended _ _ _ _ (G.out.2.2.1) G.out.2.2.2.2.2.1 (by have := HX.out; have := HB.out.1; have := HB.out.2.1; show S1.length + 1 ≤ _; omega)).mono ?_; rintro e_ w_ ⟨Am, cm, rfl, hc_, hC_, hb_⟩; replace S := Aside0.mk (S.out.keep hb_); have HM := Aside0.mk hC_; have hl_ := endNl_le S1; have HL := Aside0.mk hl_; clear hc_ hC_ hb_ hl_) | ((with_reducible refine gate_builtin (b := .append) (xs := #[.tmp 34, .tmp 42]) rfl ?_); at_builtin; refine wpl rfl (fun K hK => st_app (by rfl) (.tmp 34) (.tmp 42) rfl Tryd.underlying22 inf5 0 rfl rfl S.out rfl (HM.out) (by have := HX.out; have := HB.out.1; have := HB.out.2.1; have := HL.out; omega) ?_); intro v_ w_ S_; refine hK _ _ ?_; simp only [List.set_cons_succ, List.set_cons_zero] at S_; replace S := Aside0.mk S_; clear S_))
        go_roundg (ps.length - (i + 1))
        case rel => exact ⟨wrap64 (ii + 1), i + 1, _, by first | rfl | (simp; done) | (simp [hw1]; done), ⟨by rw [hw1]; have := hii.out; omega⟩, by have := hii.out; omega, rfl, hnext, ⟨by have := HX.out; have := HL.out; have := HB.out.1; (try simp only [List.length_append]); omega⟩, S⟩
        case measure => have := hii.out; have := HB.out.2.2.2; omega
      by_cases hs2 : side = 2
      · subst hs2
        replace hnext : rpAll 2 (ps.drop (i + 1)) (endNl acc ++ endNl S2) = R := by simpa [rpPart, sideOf] using hnext
        replace hnext := Aside0.mk hnext
        go_wp2_with (first | (go_at_call 39; refine (rd_ended _ _ _ _ (G.out.2.2.2.1) G.out.2.2.2.2.2.2.1 (by have := HX.out; have := HB.out.1; have := HB.out.2.1; show S2.length + 1 ≤ _; omega)).mono ?_; rintro e_ w_ ⟨Am, cm, rfl, hc_, hC_, hb_⟩; replace S := Aside0.mk (S.out.keep hb_); have HM := Aside0.mk hC_; have hl_ := endNl_le S2; have HL := Aside0.mk hl_; clear hc_ hC_ hb_ hl_) | ((with_reducible refine gate_builtin (b := .append) (xs := #[.tmp 34, .tmp 42]) rfl ?_); at_builtin; refine wpl rfl (fun K hK => st_app (by rfl) (.tmp 34) (.tmp 42) rfl Tryd.underlying22 inf5 0 rfl rfl S.out rfl (HM.out) (by have := HX.out; have := HB.out.1; have := HB.out.2.1; have := HL.out; omega) ?_); intro v_ w_ S_; refine hK _ _ ?_; simp only [List.set_cons_succ, List.set_cons_zero] at S_; replace S := Aside0.mk S_; clear S_))
        go_roundg (ps.length - (i + 1))
        case rel => exact ⟨wrap64 (ii + 1), i + 1, _, by first | rfl | (simp; done) | (simp [hw1]; done), ⟨by rw [hw1]; have := hii.out; omega⟩, by have := hii.out; omega, rfl, hnext, ⟨by have := HX.out; have := HL.out; have := HB.out.1; (try simp only [List.length_append]); omega⟩, S⟩
        case measure => have := hii.out; have := HB.out.2.2.2; omega
      have hso : ¬ (0 ≤ side ∧ side < 3) := by omega
      replace hnext : rpAll side (ps.drop (i + 1)) (endNl acc) = R := by simpa [rpPart, if_neg hso] using hnext
      replace hnext := Aside0.mk hnext
      clear hs0 hs1 hs2
      by_cases hneg : 0 ≤ side
      · have hs3 := eq_false (show ¬ side < 3 by omega)
        have hs4 := eq_true (show 3 ≤ side by omega)
        have hs5 := eq_true hneg
        clear hneg hso
        go_wp2
        go_roundg (ps.length - (i + 1))
        case rel => exact ⟨wrap64 (ii + 1), i + 1, endNl acc, by first | rfl | (simp; done) | (simp [hw1]; done), ⟨by rw [hw1]; have := hii.out; omega⟩, by have := hii.out; omega, rfl, hnext, ⟨Nat.le_trans HB.out.1 (by omega)⟩, S⟩
        case measure => have := hii.out; have := HB.out.2.2.2; omega
      · have hs4 := eq_true (show side < 0 by omega)
        have hs5 := eq_false hneg
        clear hneg hso
        go_wp2
        go_roundg (ps.length - (i + 1))
        case rel => exact ⟨wrap64 (ii + 1), i + 1, endNl acc, by first | rfl | (simp; done) | (simp [hw1]; done), ⟨by rw [hw1]; have := hii.out; omega⟩, by have := hii.out; omega, rfl, hnext, ⟨Nat.le_trans HB.out.1 (by omega)⟩, S⟩
        case measure => have := hii.out; have := HB.out.2.2.2; omega
  · have hi' : i = ps.length := by have := hii.out; omega
    have hacc : acc = R := by have := hall.out; rw [hi', List.drop_of_length_le (Nat.le_refl _)] at this; exact this
    subst hacc
    obtain ⟨A', c', rfl, hc', hC'⟩ := (row8 S.out 0 rfl).out
    have HH := Aside0.mk (⟨hc', hC', S.out.below⟩ : _ ∧ _ ∧ _)
    clear hi' hc' hC'
    go_wp2
    go_ret
    exact ⟨A', c', rfl, HH.out.1, HH.out.2.1, HH.out.2.2⟩
def rwOf (n : Int) (s0 s1 s2 : ByteArray) (ps : List Pt) : List Int × Int :=
  if n ≥ 1 ∧ n ≤ 16777216 then (rwAll n.toNat s0 s1 s2 ps [], 0) else ([], 1)
set_option maxHeartbeats 16000000 in
set_option maxRecDepth 100000 in
theorem rWrite_calls (n : Int) (s0 s1 s2 : ByteArray) (A : Option Addr) (c : Nat) (ps : List Pt) (w : World) (hn : n ≤ 100000 ∨ 16777216 < n) (hr : Kd.C kP w A ps.length ps) (hc : ps.length ≤ c) (hps : ps.length ≤ 100000) (hf : ∀ p ∈ ps, p.text.length ≤ 5000000 ∧ p.s0.length ≤ 5000000 ∧ p.s1.length ≤ 5000000 ∧ p.s2.length ≤ 5000000)
    (hs0 : s0.size ≤ 100000) (hs1 : s1.size ≤ 100000) (hs2 : s2.size ≤ 100000) :
    Calls Tryd.prog 21 #[.int .i64 n, .agg #[.string s0, .string s1, .string s2], .slice A ps.length c] w fun e w' => ∃ (A' : Option Addr) (c' : Nat), e = .returned (.tuple #[.slice A' (rwOf n s0 s1 s2 ps).1.length c', .int .i64 (rwOf n s0 s1 s2 ps).2]) ∧ (rwOf n s0 s1 s2 ps).1.length ≤ c' ∧ Kd.C B8 w' A' (rwOf n s0 s1 s2 ps).1.length (rwOf n s0 s1 s2 ps).1 ∧ Below w.heap.size w w' := by
 by_cases hlow : n < 1
 · have hres : rwOf n s0 s1 s2 ps = ([], 1) := by unfold rwOf; rw [if_neg (by omega)]
   rw [hres]
   have h1 := eq_true hlow
   have h2 := eq_false (show ¬ 1 ≤ n by omega)
   clear hres hn hlow
   go_enter Tryd.func21, Tryd.ntmps21
   go_wp2
   refine bodyPost_ret (results_tmp2 rfl _ _ _) rfl ?_
   exact ⟨none, 0, rfl, Nat.zero_le _, Kd.C_nil B8 _, below_alloc (Below.refl _ _) _⟩
 by_cases hbig : 16777216 < n
 · have hres : rwOf n s0 s1 s2 ps = ([], 1) := by unfold rwOf; rw [if_neg (by omega)]
   rw [hres]
   have h1 := eq_false hlow
   have h2 := eq_true (show 1 ≤ n by omega)
   have h3 := eq_true hbig
   have h4 := eq_false (show ¬ n ≤ 16777216 by omega)
   clear hres hn hlow hbig
   go_enter Tryd.func21, Tryd.ntmps21
   go_wp2
   refine bodyPost_ret (results_tmp2 rfl _ _ _) rfl ?_
   exact ⟨none, 0, rfl, Nat.zero_le _, Kd.C_nil B8 _, below_alloc (Below.refl _ _) _⟩
 have hn1 : 1 ≤ n ∧ n ≤ 100000 := by omega
 have hres : rwOf n s0 s1 s2 ps = (rwAll n.toNat s0 s1 s2 ps [], 0) := by unfold rwOf; rw [if_pos (by omega)]
 obtain ⟨R, hR⟩ : ∃ R, rwAll n.toNat s0 s1 s2 ps [] = R := ⟨_, rfl⟩
 rw [hres, hR]
 have HPS := Aside0.mk hps; have HF := Aside0.mk hf; have HS0 := Aside0.mk hs0; have HS1 := Aside0.mk hs1; have HS2 := Aside0.mk hs2; have HN := Aside0.mk hn1
 have hF0 : ∀ a ∈ [rdV kP A c ps], a.P w (fun k => k < w.heap.size) := by
   intro a ha; rw [List.mem_singleton] at ha; subst ha
   exact ⟨hc, Kd.C_F kP_heap hr⟩
 have HS := (Stt.start w hF0).box (g := w.heap.size) (t := 39) (cs := #[.string s0, .string s1, .string s2]) rfl (heap_alloc_new w _) (below_alloc (Below.refl _ _) _)
 replace HS := Aside0.mk (HS.with (HS.st.row_nil 5 1) : Stt w (fun k => k < w.heap.size) [rw8 (.slice none 0 0) [], blk w.heap.size 39 #[.string s0, .string s1, .string s2]] [rdV kP A c ps] _)
 have h1 := eq_false hlow
 have h2 := eq_true hn1.1
 have h3 := eq_false hbig
 have h4 := eq_true (show n ≤ 16777216 by omega)
 replace hR := Aside0.mk hR
 clear hr hc hps hf hF0 hs0 hs1 hs2 hn hlow hbig hn1 hres
 go_enter Tryd.func21, Tryd.ntmps21
 go_wp2
 clear h1 h2 h3 h4
 go_loopg [8, 9] ps.length (fun kq v8 v9 W => ∃ (ii : Int) (i : Nat) (acc : List Int), v9 = .int .i64 ii ∧ Aside0 (ii = (i : Int)) ∧ i ≤ ps.length ∧ kq = ps.length - i ∧ Aside0 (rwAll n.toNat s0 s1 s2 (ps.drop i) acc = R) ∧ Aside0 (acc.length ≤ i * 20000000) ∧ Aside0 (i = 0 → acc = []) ∧ Aside0 (Stt w (fun k => k < w.heap.size) [rw8 v8 acc, blk w.heap.size 39 #[.string s0, .string s1, .string s2]] [rdV kP A c ps] W))
 case atStart => exact ⟨0, 0, [], rfl, ⟨rfl⟩, Nat.zero_le _, rfl, hR, ⟨Nat.le_refl _⟩, ⟨fun _ => rfl⟩, HS⟩
 case round =>
  clear HS
  obtain ⟨ii, i, acc, rfl, hii, hi, hgk, hall, hal, hz, S⟩ := hrel
  obtain ⟨wb, rfl⟩ : ∃ q, q = wr := ⟨_, rfl⟩
  by_cases hin : ii < (ps.length : Int)
  · have p0 : 0 ≤ ii := by have := hii.out; omega
    have e0 : ii.toNat = i := by have := hii.out; omega
    have hw1 : wrap64 (ii + 1) = ii + 1 := by have := hii.out; have := HPS.out; unfold wrap64; omega
    have hend := endNl_le acc
    have hal2 : (endNl acc).length ≤ i * 20000000 + 1 := by have := hal.out; omega
    have hi3 : i ≤ 100000 := Nat.le_trans hi HPS.out
    have HB := Aside0.mk (⟨hal2, hi3, hi, hgk⟩ : _ ∧ _ ∧ _ ∧ _)
    clear hend hal2 hi3 hi hgk
    have hinb := eq_true hin
    have p0b := eq_true p0
    replace e0 := Aside0.mk e0
    obtain ⟨ad, x, A1, c1, A2, c2, A3, c3, A4, c4, rfl, hxi, hok, hx0, hx1, hx2, hx3, hx4, g1, g2, g3, g4⟩ := at_Pt (S.out.rd 0 rfl).2 ii p0 hin
    rw [e0.out] at hxi
    have hxm := HF.out x (List.mem_of_getElem? hxi)
    have hnext := rwAll_next hall.out hxi
    have S5 := Aside0.mk (((((S.out.add (a := rdV B8 A4 c4 x.s2) g4).add (a := rdV B8 A3 c3 x.s1) g3).add (a := rdV B8 A2 c2 x.s0) g2).add (a := rdV B8 A1 c1 x.text) g1).box (g := wb.heap.size) (t := 44) (cs := #[.bool x.region, .slice A1 x.text.length c1, .slice A2 x.s0.length c2, .slice A3 x.s1.length c3, .slice A4 x.s2.length c4]) rfl (heap_alloc_new wb _) (below_alloc (Below.refl _ _) _))
    obtain ⟨rg, T, S0, S1, S2⟩ := x
    simp only at hx0 hx1 hx2 hx3 hx4
    have HX : Aside0 (T.length ≤ 5000000 ∧ S0.length ≤ 5000000 ∧ S1.length ≤ 5000000 ∧ S2.length ≤ 5000000) := ⟨hxm⟩
    clear g1 g2 g3 g4 hxi hok hxm S
    by_cases hi0 : i = 0
    · have hza := hz.out hi0
      have hi4 := eq_false (show ¬ 0 < ii by have := hii.out; omega)
      have hi5 := eq_true (show ii ≤ 0 by have := hii.out; omega)
      replace hi0 := Aside0.mk hi0
      go_upto_region 10 with (fail)
      have S : Aside0 (Stt w (fun k => k < w.heap.size) [blk wb.heap.size 44 #[.bool rg, .slice A1 T.length c1, .slice A2 S0.length c2, .slice A3 S1.length c3, .slice A4 S2.length c4], rw8 u8 (endNl acc), blk w.heap.size 39 #[.string s0, .string s1, .string s2]] [rdV B8 A1 c1 T, rdV B8 A2 c2 S0, rdV B8 A3 c3 S1, rdV B8 A4 c4 S2, rdV kP (some ad) c ps] _) := ⟨by rw [hza, endNl_nil, ← hza]; exact S5.out⟩
      clear S5 hza hi4 hi5
      generalize wb.alloc _ = w1 at S ⊢
      obtain ⟨fb0, fb1, fb2, fb3, fb4⟩ := box5 (S.out.at_blk 0 rfl)
      obtain ⟨fl0, fl1, fl2⟩ := box3 (S.out.at_blk 2 rfl)
      clear hx0 hx1 hx2 hx3 hx4
      cases rg with
      | false =>
        replace hnext : rwAll n.toNat s0 s1 s2 (ps.drop (i + 1)) (endNl acc ++ T) = R := by simpa [rwPart] using hnext
        replace hnext := Aside0.mk hnext
        go_wp2_with (((with_reducible refine gate_builtin (b := .append) (xs := #[.tmp 34, .tmp 36]) rfl ?_); at_builtin; refine wpl rfl (fun K hK => st_app (by rfl) (.tmp 34) (.tmp 36) rfl Tryd.underlying22 inf5 1 rfl rfl S.out rfl (S.out.rdC 0 rfl) (by have := HX.out; have := HB.out.1; have := HB.out.2.1; (try simp only [List.length_append]); omega) ?_); intro v_ w_ S_; refine hK _ _ ?_; simp only [List.set_cons_succ, List.set_cons_zero] at S_; replace S := Aside0.mk S_; clear S_; clear fb0 fb1 fb2 fb3 fb4 fl0 fl1 fl2; obtain ⟨fb0, fb1, fb2, fb3, fb4⟩ := box5 (S.out.at_blk 0 rfl); obtain ⟨fl0, fl1, fl2⟩ := box3 (S.out.at_blk 2 rfl)))
        go_roundg (ps.length - (i + 1))
        case rel => exact ⟨wrap64 (ii + 1), i + 1, _, by first | rfl | (simp; done) | (simp [hw1]; done), ⟨by rw [hw1]; have := hii.out; omega⟩, by have := hii.out; omega, rfl, hnext, ⟨by have := HX.out; have := HB.out.1; have := HB.out.2.1; have := mkLine_le 60 n.toNat s0; have := mkLine_le 124 n.toNat s1; have := mkLine_le 61 n.toNat ⟨#[]⟩; have := mkLine_le 62 n.toNat s2; have := endNl_le S0; have := endNl_le S1; have := endNl_le S2; have := HN.out; simp only [List.length_append]; omega⟩, ⟨fun h_ => by omega⟩, ⟨((((⟨S.out.drop.st, fun a ha => S.out.fr a (by simp only [List.mem_cons, List.not_mem_nil, or_false] at ha ⊢; simp [ha]), S.out.old⟩ : Stt _ _ _ [rdV kP (some ad) c ps] _))))⟩⟩
        case measure => have := hii.out; have := HB.out.2.2.2; omega
      | true =>
        replace hnext : rwAll n.toNat s0 s1 s2 (ps.drop (i + 1)) (endNl acc ++ mkLine 60 n.toNat s0 ++ endNl S0 ++ mkLine 124 n.toNat s1 ++ endNl S1 ++ mkLine 61 n.toNat ⟨#[]⟩ ++ endNl S2 ++ mkLine 62 n.toNat s2) = R := by simpa only [rwPart, if_true] using hnext
        replace hnext := Aside0.mk hnext
        go_upto_region 13 with (first | (go_at_call 40; refine (rd_mk 60 60 (by decide) n s0 _ (by have := HN.out; omega) HN.out.2 HS0.out).mono ?_; rintro e_ w_ ⟨Am, cm, rfl, hc_, hC_, hb_⟩; replace S := Aside0.mk (S.out.keep hb_); have HM := Aside0.mk hC_; clear fb0 fb1 fb2 fb3 fb4 fl0 fl1 fl2; obtain ⟨fb0, fb1, fb2, fb3, fb4⟩ := box5 (S.out.at_blk 0 rfl); obtain ⟨fl0, fl1, fl2⟩ := box3 (S.out.at_blk 2 rfl); clear hc_ hC_ hb_) | ((with_reducible refine gate_builtin (b := .append) (xs := #[.tmp 38, .tmp 42]) rfl ?_); at_builtin; refine wpl rfl (fun K hK => st_app (by rfl) (.tmp 38) (.tmp 42) rfl Tryd.underlying22 inf5 1 rfl rfl S.out rfl (HM.out) (by have := HX.out; have := HB.out.1; have := HB.out.2.1; have := mkLine_le 60 n.toNat s0; have := mkLine_le 124 n.toNat s1; have := mkLine_le 61 n.toNat ⟨#[]⟩; have := mkLine_le 62 n.toNat s2; have := endNl_le S0; have := endNl_le S1; have := endNl_le S2; have := HN.out; (try simp only [List.length_append]); omega) ?_); intro v_ w_ S_; refine hK _ _ ?_; simp only [List.set_cons_succ, List.set_cons_zero] at S_; replace S := Aside0.mk S_; clear S_; clear fb0 fb1 fb2 fb3 fb4 fl0 fl1 fl2; obtain ⟨fb0, fb1, fb2, fb3, fb4⟩ := box5 (S.out.at_blk 0 rfl); obtain ⟨fl0, fl1, fl2⟩ := box3 (S.out.at_blk 2 rfl)))
        go_upto_region 14 with (first | (go_at_call 39; refine (rd_ended _ _ _ _ (S.out.rdC 1 rfl) (S.out.rdL 1 rfl) (by have := HX.out; have := HB.out.1; have := HB.out.2.1; omega)).mono ?_; rintro e_ w_ ⟨Am, cm, rfl, hc_, hC_, hb_⟩; replace S := Aside0.mk (S.out.keep hb_); have HM := Aside0.mk hC_; clear fb0 fb1 fb2 fb3 fb4 fl0 fl1 fl2; obtain ⟨fb0, fb1, fb2, fb3, fb4⟩ := box5 (S.out.at_blk 0 rfl); obtain ⟨fl0, fl1, fl2⟩ := box3 (S.out.at_blk 2 rfl); clear hc_ hC_ hb_) | ((with_reducible refine gate_builtin (b := .append) (xs := #[.tmp 44, .tmp 48]) rfl ?_); at_builtin; refine wpl rfl (fun K hK => st_app (by rfl) (.tmp 44) (.tmp 48) rfl Tryd.underlying22 inf5 1 rfl rfl S.out rfl (HM.out) (by have := HX.out; have := HB.out.1; have := HB.out.2.1; have := mkLine_le 60 n.toNat s0; have := mkLine_le 124 n.toNat s1; have := mkLine_le 61 n.toNat ⟨#[]⟩; have := mkLine_le 62 n.toNat s2; have := endNl_le S0; have := endNl_le S1; have := endNl_le S2; have := HN.out; (try simp only [List.length_append]); omega) ?_); intro v_ w_ S_; refine hK _ _ ?_; simp only [List.set_cons_succ, List.set_cons_zero] at S_; replace S := Aside0.mk S_; clear S_; clear fb0 fb1 fb2 fb3 fb4 fl0 fl1 fl2; obtain ⟨fb0, fb1, fb2, fb3, fb4⟩ := box5 (S.out.at_blk 0 rfl); obtain ⟨fl0, fl1, fl2⟩ := box3 (S.out.at_blk 2 rfl)))
        go_upto_region 15 with (first | (go_at_call 40; refine (rd_mk 124 124 (by decide) n s1 _ (by have := HN.out; omega) HN.out.2 HS1.out).mono ?_; rintro e_ w_ ⟨Am, cm, rfl, hc_, hC_, hb_⟩; replace S := Aside0.mk (S.out.keep hb_); have HM := Aside0.mk hC_; clear fb0 fb1 fb2 fb3 fb4 fl0 fl1 fl2; obtain ⟨fb0, fb1, fb2, fb3, fb4⟩ := box5 (S.out.at_blk 0 rfl); obtain ⟨fl0, fl1, fl2⟩ := box3 (S.out.at_blk 2 rfl); clear hc_ hC_ hb_) | ((with_reducible refine gate_builtin (b := .append) (xs := #[.tmp 50, .tmp 54]) rfl ?_); at_builtin; refine wpl rfl (fun K hK => st_app (by rfl) (.tmp 50) (.tmp 54) rfl Tryd.underlying22 inf5 1 rfl rfl S.out rfl (HM.out) (by have := HX.out; have := HB.out.1; have := HB.out.2.1; have := mkLine_le 60 n.toNat s0; have := mkLine_le 124 n.toNat s1; have := mkLine_le 61 n.toNat ⟨#[]⟩; have := mkLine_le 62 n.toNat s2; have := endNl_le S0; have := endNl_le S1; have := endNl_le S2; have := HN.out; (try simp only [List.length_append]); omega) ?_); intro v_ w_ S_; refine hK _ _ ?_; simp only [List.set_cons_succ, List.set_cons_zero] at S_; replace S := Aside0.mk S_; clear S_; clear fb0 fb1 fb2 fb3 fb4 fl0 fl1 fl2; obtain ⟨fb0, fb1, fb2, fb3, fb4⟩ := box5 (S.out.at_blk 0 rfl); obtain ⟨fl0, fl1, fl2⟩ := box3 (S.out.at_blk 2 rfl)))
        go_upto_region 16 with (first | (go_at_call 39; refine (rd_ended _ _ _ _ (S.out.rdC 2 rfl) (S.out.rdL 2 rfl) (by have := HX.out; have := HB.out.1; have := HB.out.2.1; omega)).mono ?_; rintro e_ w_ ⟨Am, cm, rfl, hc_, hC_, hb_⟩; replace S := Aside0.mk (S.out.keep hb_); have HM := Aside0.mk hC_; clear fb0 fb1 fb2 fb3 fb4 fl0 fl1 fl2; obtain ⟨fb0, fb1, fb2, fb3, fb4⟩ := box5 (S.out.at_blk 0 rfl); obtain ⟨fl0, fl1, fl2⟩ := box3 (S.out.at_blk 2 rfl); clear hc_ hC_ hb_) | ((with_reducible refine gate_builtin (b := .append) (xs := #[.tmp 56, .tmp 60]) rfl ?_); at_builtin; refine wpl rfl (fun K hK => st_app (by rfl) (.tmp 56) (.tmp 60) rfl Tryd.underlying22 inf5 1 rfl rfl S.out rfl (HM.out) (by have := HX.out; have := HB.out.1; have := HB.out.2.1; have := mkLine_le 60 n.toNat s0; have := mkLine_le 124 n.toNat s1; have := mkLine_le 61 n.toNat ⟨#[]⟩; have := mkLine_le 62 n.toNat s2; have := endNl_le S0; have := endNl_le S1; have := endNl_le S2; have := HN.out; (try simp only [List.length_append]); omega) ?_); intro v_ w_ S_; refine hK _ _ ?_; simp only [List.set_cons_succ, List.set_cons_zero] at S_; replace S := Aside0.mk S_; clear S_; clear fb0 fb1 fb2 fb3 fb4 fl0 fl1 fl2; obtain ⟨fb0, fb1, fb2, fb3, fb4⟩ := box5 (S.out.at_blk 0 rfl); obtain ⟨fl0, fl1, fl2⟩ := box3 (S.out.at_blk 2 rfl)))
        go_upto_region 17 with (first | (go_at_call 40; refine (rd_mk 61 61 (by decide) n ⟨#[]⟩ _ (by have := HN.out; omega) HN.out.2 (by decide)).mono ?_; rintro e_ w_ ⟨Am, cm, rfl, hc_, hC_, hb_⟩; replace S := Aside0.mk (S.out.keep hb_); have HM := Aside0.mk hC_; clear fb0 fb1 fb2 fb3 fb4 fl0 fl1 fl2; obtain ⟨fb0, fb1, fb2, fb3, fb4⟩ := box5 (S.out.at_blk 0 rfl); obtain ⟨fl0, fl1, fl2⟩ := box3 (S.out.at_blk 2 rfl); clear hc_ hC_ hb_) | ((with_reducible refine gate_builtin (b := .append) (xs := #[.tmp 62, .tmp 64]) rfl ?_); at_builtin; refine wpl rfl (fun K hK => st_app (by rfl) (.tmp 62) (.tmp 64) rfl Tryd.underlying22 inf5 1 rfl rfl S.out rfl (HM.out) (by have := HX.out; have := HB.out.1; have := HB.out.2.1; have := mkLine_le 60 n.toNat s0; have := mkLine_le 124 n.toNat s1; have := mkLine_le 61 n.toNat ⟨#[]⟩; have := mkLine_le 62 n.toNat s2; have := endNl_le S0; have := endNl_le S1; have := endNl_le S2; have := HN.out; (try simp only [List.length_append]); omega) ?_); intro v_ w_ S_; refine hK _ _ ?_; simp only [List.set_cons_succ, List.set_cons_zero] at S_; replace S := Aside0.mk S_; clear S_; clear fb0 fb1 fb2 fb3 fb4 fl0 fl1 fl2; obtain ⟨fb0, fb1, fb2, fb3, fb4⟩ := box5 (S.out.at_blk 0 rfl); obtain ⟨fl0, fl1, fl2⟩ := box3 (S.out.at_blk 2 rfl)))
        go_upto_region 18 with (first | (go_at_call 39; refine (rd_ended _ _ _ _ (S.out.rdC 3 rfl) (S.out.rdL 3 rfl) (by have := HX.out; have := HB.out.1; have := HB.out.2.1; omega)).mono ?_; rintro e_ w_ ⟨Am, cm, rfl, hc_, hC_, hb_⟩; replace S := Aside0.mk (S.out.keep hb_); have HM := Aside0.mk hC_; clear fb0 fb1 fb2 fb3 fb4 fl0 fl1 fl2; obtain ⟨fb0, fb1, fb2, fb3, fb4⟩ := box5 (S.out.at_blk 0 rfl); obtain ⟨fl0, fl1, fl2⟩ := box3 (S.out.at_blk 2 rfl); clear hc_ hC_ hb_) | ((with_reducible refine gate_builtin (b := .append) (xs := #[.tmp 66, .tmp 70]) rfl ?_); at_builtin; refine wpl rfl (fun K hK => st_app (by rfl) (.tmp 66) (.tmp 70) rfl Tryd.underlying22 inf5 1 rfl rfl S.out rfl (HM.out) (by have := HX.out; have := HB.out.1; have := HB.out.2.1; have := mkLine_le 60 n.toNat s0; have := mkLine_le 124 n.toNat s1; have := mkLine_le 61 n.toNat ⟨#[]⟩; have := mkLine_le 62 n.toNat s2; have := endNl_le S0; have := endNl_le S1; have := endNl_le S2; have := HN.out; (try simp only [List.length_append]); omega) ?_); intro v_ w_ S_; refine hK _ _ ?_; simp only [List.set_cons_succ, List.set_cons_zero] at S_; replace S := Aside0.mk S_; clear S_; clear fb0 fb1 fb2 fb3 fb4 fl0 fl1 fl2; obtain ⟨fb0, fb1, fb2, fb3, fb4⟩ := box5 (S.out.at_blk 0 rfl); obtain ⟨fl0, fl1, fl2⟩ := box3 (S.out.at_blk 2 rfl)))
        go_wp2_with (first | (go_at_call 40; refine (rd_mk 62 62 (by decide) n s2 _ (by have := HN.out; omega) HN.out.2 HS2.out).mono ?_; rintro e_ w_ ⟨Am, cm, rfl, hc_, hC_, hb_⟩; replace S := Aside0.mk (S.out.keep hb_); have HM := Aside0.mk hC_; clear fb0 fb1 fb2 fb3 fb4 fl0 fl1 fl2; obtain ⟨fb0, fb1, fb2, fb3, fb4⟩ := box5 (S.out.at_blk 0 rfl); obtain ⟨fl0, fl1, fl2⟩ := box3 (S.out.at_blk 2 rfl); clear hc_ hC_ hb_) | ((with_reducible refine gate_builtin (b := .append) (xs := #[.tmp 72, .tmp 76]) rfl ?_); at_builtin; refine wpl rfl (fun K hK => st_app (by rfl) (.tmp 72) (.tmp 76) rfl Tryd.underlying22 inf5 1 rfl rfl S.out rfl (HM.out) (by have := HX.out; have := HB.out.1; have := HB.out.2.1; have := mkLine_le 60 n.toNat s0; have := mkLine_le 124 n.toNat s1; have := mkLine_le 61 n.toNat ⟨#[]⟩; have := mkLine_le 62 n.toNat s2; have := endNl_le S0; have := endNl_le S1; have := endNl_le S2; have := HN.out; (try simp only [List.length_append]); omega) ?_); intro v_ w_ S_; refine hK _ _ ?_; simp only [List.set_cons_succ, List.set_cons_zero] at S_; replace S := Aside0.mk S_; clear S_; clear fb0 fb1 fb2 fb3 fb4 fl0 fl1 fl2; obtain ⟨fb0, fb1, fb2, fb3, fb4⟩ := box5 (S.out.at_blk 0 rfl); obtain ⟨fl0, fl1, fl2⟩ := box3 (S.out.at_blk 2 rfl)))
        go_roundg (ps.length - (i + 1))
        case rel => exact ⟨wrap64 (ii + 1), i + 1, _, by first | rfl | (simp; done) | (simp [hw1]; done), ⟨by rw [hw1]; have := hii.out; omega⟩, by have := hii.out; omega, rfl, hnext, ⟨by have := HX.out; have := HB.out.1; have := HB.out.2.1; have := mkLine_le 60 n.toNat s0; have := mkLine_le 124 n.toNat s1; have := mkLine_le 61 n.toNat ⟨#[]⟩; have := mkLine_le 62 n.toNat s2; have := endNl_le S0; have := endNl_le S1; have := endNl_le S2; have := HN.out; simp only [List.length_append]; omega⟩, ⟨fun h_ => by omega⟩, ⟨((((⟨S.out.drop.st, fun a ha => S.out.fr a (by simp only [List.mem_cons, List.not_mem_nil, or_false] at ha ⊢; simp [ha]), S.out.old⟩ : Stt _ _ _ [rdV kP (some ad) c ps] _))))⟩⟩
        case measure => have := hii.out; have := HB.out.2.2.2; omega
    · have hi4 := eq_true (show 0 < ii by have := hii.out; omega)
      have hi5 := eq_false (show ¬ ii ≤ 0 by have := hii.out; omega)
      replace hi0 := Aside0.mk hi0
      go_upto_region 10 with (go_at_call 39; refine (st_ended S5.out 1 rfl (by have := HB.out.1; have := HB.out.2.1; have := hal.out; omega)).mono ?_; rintro e_ w_ ⟨v_, rfl, S_⟩; simp only [List.set_cons_succ, List.set_cons_zero] at S_; have S := Aside0.mk S_; clear S_)
      clear S5 hi4 hi5
      obtain ⟨fb0, fb1, fb2, fb3, fb4⟩ := box5 (S.out.at_blk 0 rfl)
      obtain ⟨fl0, fl1, fl2⟩ := box3 (S.out.at_blk 2 rfl)
      clear hx0 hx1 hx2 hx3 hx4
      cases rg with
      | false =>
        replace hnext : rwAll n.toNat s0 s1 s2 (ps.drop (i + 1)) (endNl acc ++ T) = R := by simpa [rwPart] using hnext
        replace hnext := Aside0.mk hnext
        go_wp2_with (((with_reducible refine gate_builtin (b := .append) (xs := #[.tmp 34, .tmp 36]) rfl ?_); at_builtin; refine wpl rfl (fun K hK => st_app (by rfl) (.tmp 34) (.tmp 36) rfl Tryd.underlying22 inf5 1 rfl rfl S.out rfl (S.out.rdC 0 rfl) (by have := HX.out; have := HB.out.1; have := HB.out.2.1; (try simp only [List.length_append]); omega) ?_); intro v_ w_ S_; refine hK _ _ ?_; simp only [List.set_cons_succ, List.set_cons_zero] at S_; replace S := Aside0.mk S_; clear S_; clear fb0 fb1 fb2 fb3 fb4 fl0 fl1 fl2; obtain ⟨fb0, fb1, fb2, fb3, fb4⟩ := box5 (S.out.at_blk 0 rfl); obtain ⟨fl0, fl1, fl2⟩ := box3 (S.out.at_blk 2 rfl)))
        go_roundg (ps.length - (i + 1))
        case rel => exact ⟨wrap64 (ii + 1), i + 1, _, by first | rfl | (simp; done) | (simp [hw1]; done), ⟨by rw [hw1]; have := hii.out; omega⟩, by have := hii.out; omega, rfl, hnext, ⟨by have := HX.out; have := HB.out.1; have := HB.out.2.1; have := mkLine_le 60 n.toNat s0; have := mkLine_le 124 n.toNat s1; have := mkLine_le 61 n.toNat ⟨#[]⟩; have := mkLine_le 62 n.toNat s2; have := endNl_le S0; have := endNl_le S1; have := endNl_le S2; have := HN.out; simp only [List.length_append]; omega⟩, ⟨fun h_ => by omega⟩, ⟨((((⟨S.out.drop.st, fun a ha => S.out.fr a (by simp only [List.mem_cons, List.not_mem_nil, or_false] at ha ⊢; simp [ha]), S.out.old⟩ : Stt _ _ _ [rdV kP (some ad) c ps] _))))⟩⟩
        case measure => have := hii.out; have := HB.out.2.2.2; omega
      | true =>
        replace hnext : rwAll n.toNat s0 s1 s2 (ps.drop (i + 1)) (endNl acc ++ mkLine 60 n.toNat s0 ++ endNl S0 ++ mkLine 124 n.toNat s1 ++ endNl S1 ++ mkLine 61 n.toNat ⟨#[]⟩ ++ endNl S2 ++ mkLine 62 n.toNat s2) = R := by simpa only [rwPart, if_true] using hnext
        replace hnext := Aside0.mk hnext
        go_upto_region 13 with (first | (go_at_call 40; refine (rd_mk 60 60 (by decide) n s0 _ (by have := HN.out; omega) HN.out.2 HS0.out).mono ?_; rintro e_ w_ ⟨Am, cm, rfl, hc_, hC_, hb_⟩; replace S := Aside0.mk (S.out.keep hb_); have HM := Aside0.mk hC_; clear fb0 fb1 fb2 fb3 fb4 fl0 fl1 fl2; obtain ⟨fb0, fb1, fb2, fb3, fb4⟩ := box5 (S.out.at_blk 0 rfl); obtain ⟨fl0, fl1, fl2⟩ := box3 (S.out.at_blk 2 rfl); clear hc_ hC_ hb_) | ((with_reducible refine gate_builtin (b := .append) (xs := #[.tmp 38, .tmp 42]) rfl ?_); at_builtin; refine wpl rfl (fun K hK => st_app (by rfl) (.tmp 38) (.tmp 42) rfl Tryd.underlying22 inf5 1 rfl rfl S.out rfl (HM.out) (by have := HX.out; have := HB.out.1; have := HB.out.2.1; have := mkLine_le 60 n.toNat s0; have := mkLine_le 124 n.toNat s1; have := mkLine_le 61 n.toNat ⟨#[]⟩; have := mkLine_le 62 n.toNat s2; have := endNl_le S0; have := endNl_le S1; have := endNl_le S2; have := HN.out; (try simp only [List.length_append]); omega) ?_); intro v_ w_ S_; refine hK _ _ ?_; simp only [List.set_cons_succ, List.set_cons_zero] at S_; replace S := Aside0.mk S_; clear S_; clear fb0 fb1 fb2 fb3 fb4 fl0 fl1 fl2; obtain ⟨fb0, fb1, fb2, fb3, fb4⟩ := box5 (S.out.at_blk 0 rfl); obtain ⟨fl0, fl1, fl2⟩ := box3 (S.out.at_blk 2 rfl)))
        go_upto_region 14 with (first | (go_at_call 39; refine (rd_ended _ _ _ _ (S.out.rdC 1 rfl) (S.out.rdL 1 rfl) (by have := HX.out; have := HB.out.1; have := HB.out.2.1; omega)).mono ?_; rintro e_ w_ ⟨Am, cm, rfl, hc_, hC_, hb_⟩; replace S := Aside0.mk (S.out.keep hb_); have HM := Aside0.mk hC_; clear fb0 fb1 fb2 fb3 fb4 fl0 fl1 fl2; obtain ⟨fb0, fb1, fb2, fb3, fb4⟩ := box5 (S.out.at_blk 0 rfl); obtain ⟨fl0, fl1, fl2⟩ := box3 (S.out.at_blk 2 rfl); clear hc_ hC_ hb_) | ((with_reducible refine gate_builtin (b := .append) (xs := #[.tmp 44, .tmp 48]) rfl ?_); at_builtin; refine wpl rfl (fun K hK => st_app (by rfl) (.tmp 44) (.tmp 48) rfl Tryd.underlying22 inf5 1 rfl rfl S.out rfl (HM.out) (by have := HX.out; have := HB.out.1; have := HB.out.2.1; have := mkLine_le 60 n.toNat s0; have := mkLine_le 124 n.toNat s1; have := mkLine_le 61 n.toNat ⟨#[]⟩; have := mkLine_le 62 n.toNat s2; have := endNl_le S0; have := endNl_le S1; have := endNl_le S2; have := HN.out; (try simp only [List.length_append]); omega) ?_); intro v_ w_ S_; refine hK _ _ ?_; simp only [List.set_cons_succ, List.set_cons_zero] at S_; replace S := Aside0.mk S_; clear S_; clear fb0 fb1 fb2 fb3 fb4 fl0 fl1 fl2; obtain ⟨fb0, fb1, fb2, fb3, fb4⟩ := box5 (S.out.at_blk 0 rfl); obtain ⟨fl0, fl1, fl2⟩ := box3 (S.out.at_blk 2 rfl)))
        go_upto_region 15 with (first | (go_at_call 40; refine (rd_mk 124 124 (by decide) n s1 _ (by have := HN.out; omega) HN.out.2 HS1.out).mono ?_; rintro e_ w_ ⟨Am, cm, rfl, hc_, hC_, hb_⟩; replace S := Aside0.mk (S.out.keep hb_); have HM := Aside0.mk hC_; clear fb0 fb1 fb2 fb3 fb4 fl0 fl1 fl2; obtain ⟨fb0, fb1, fb2, fb3, fb4⟩ := box5 (S.out.at_blk 0 rfl); obtain ⟨fl0, fl1, fl2⟩ := box3 (S.out.at_blk 2 rfl); clear hc_ hC_ hb_) | ((with_reducible refine gate_builtin (b := .append) (xs := #[.tmp 50, .tmp 54]) rfl ?_); at_builtin; refine wpl rfl (fun K hK => st_app (by rfl) (.tmp 50) (.tmp 54) rfl Tryd.underlying22 inf5 1 rfl rfl S.out rfl (HM.out) (by have := HX.out; have := HB.out.1; have := HB.out.2.1; have := mkLine_le 60 n.toNat s0; have := mkLine_le 124 n.toNat s1; have := mkLine_le 61 n.toNat ⟨#[]⟩; have := mkLine_le 62 n.toNat s2; have := endNl_le S0; have := endNl_le S1; have := endNl_le S2; have := HN.out; (try simp only [List.length_append]); omega) ?_); intro v_ w_ S_; refine hK _ _ ?_; simp only [List.set_cons_succ, List.set_cons_zero] at S_; replace S := Aside0.mk S_; clear S_; clear fb0 fb1 fb2 fb3 fb4 fl0 fl1 fl2; obtain ⟨fb0, fb1, fb2, fb3, fb4⟩ := box5 (S.out.at_blk 0 rfl); obtain ⟨fl0, fl1, fl2⟩ := box3 (S.out.at_blk 2 rfl)))
        go_upto_region 16 with (first | (go_at_call 39; refine (rd_ended _ _ _ _ (S.out.rdC 2 rfl) (S.out.rdL 2 rfl) (by have := HX.out; have := HB.out.1; have := HB.out.2.1; omega)).mono ?_; rintro e_ w_ ⟨Am, cm, rfl, hc_, hC_, hb_⟩; replace S := Aside0.mk (S.out.keep hb_); have HM := Aside0.mk hC_; clear fb0 fb1 fb2 fb3 fb4 fl0 fl1 fl2; obtain ⟨fb0, fb1, fb2, fb3, fb4⟩ := box5 (S.out.at_blk 0 rfl); obtain ⟨fl0, fl1, fl2⟩ := box3 (S.out.at_blk 2 rfl); clear hc_ hC_ hb_) | ((with_reducible refine gate_builtin (b := .append) (xs := #[.tmp 56, .tmp 60]) rfl ?_); at_builtin; refine wpl rfl (fun K hK => st_app (by rfl) (.tmp 56) (.tmp 60) rfl Tryd.underlying22 inf5 1 rfl rfl S.out rfl (HM.out) (by have := HX.out; have := HB.out.1; have := HB.out.2.1; have := mkLine_le 60 n.toNat s0; have := mkLine_le 124 n.toNat s1; have := mkLine_le 61 n.toNat ⟨#[]⟩; have := mkLine_le 62 n.toNat s2; have := endNl_le S0; have := endNl_le S1; have := endNl_le S2; have := HN.out; (try simp only [List.length_append]); omega) ?_); intro v_ w_ S_; refine hK _ _ ?_; simp only [List.set_cons_succ, List.set_cons_zero] at S_; replace S := Aside0.mk S_; clear S_; clear fb0 fb1 fb2 fb3 fb4 fl0 fl1 fl2; obtain ⟨fb0, fb1, fb2, fb3, fb4⟩ := box5 (S.out.at_blk 0 rfl); obtain ⟨fl0, fl1, fl2⟩ := box3 (S.out.at_blk 2 rfl)))
        go_upto_region 17 with (first | (go_at_call 40; refine (rd_mk 61 61 (by decide) n ⟨#[]⟩ _ (by have := HN.out; omega) HN.out.2 (by decide)).mono ?_; rintro e_ w_ ⟨Am, cm, rfl, hc_, hC_, hb_⟩; replace S := Aside0.mk (S.out.keep hb_); have HM := Aside0.mk hC_; clear fb0 fb1 fb2 fb3 fb4 fl0 fl1 fl2; obtain ⟨fb0, fb1, fb2, fb3, fb4⟩ := box5 (S.out.at_blk 0 rfl); obtain ⟨fl0, fl1, fl2⟩ := box3 (S.out.at_blk 2 rfl); clear hc_ hC_ hb_) | ((with_reducible refine gate_builtin (b := .append) (xs := #[.tmp 62, .tmp 64]) rfl ?_); at_builtin; refine wpl rfl (fun K hK => st_app (by rfl) (.tmp 62) (.tmp 64) rfl Tryd.underlying22 inf5 1 rfl rfl S.out rfl (HM.out) (by have := HX.out; have := HB.out.1; have := HB.out.2.1; have := mkLine_le 60 n.toNat s0; have := mkLine_le 124 n.toNat s1; have := mkLine_le 61 n.toNat ⟨#[]⟩; have := mkLine_le 62 n.toNat s2; have := endNl_le S0; have := endNl_le S1; have := endNl_le S2; have := HN.out; (try simp only [List.length_append]); omega) ?_); intro v_ w_ S_; refine hK _ _ ?_; simp only [List.set_cons_succ, List.set_cons_zero] at S_; replace S := Aside0.mk S_; clear S_; clear fb0 fb1 fb2 fb3 fb4 fl0 fl1 fl2; obtain ⟨fb0, fb1, fb2, fb3, fb4⟩ := box5 (S.out.at_blk 0 rfl); obtain ⟨fl0, fl1, fl2⟩ := box3 (S.out.at_blk 2 rfl)))
        go_upto_region 18 with (first | (go_at_call 39; refine (rd_ended _ _ _ _ (S.out.rdC 3 rfl) (S.out.rdL 3 rfl) (by have := HX.out; have := HB.out.1; have := HB.out.2.1; omega)).mono ?_; rintro e_ w_ ⟨Am, cm, rfl, hc_, hC_, hb_⟩; replace S := Aside0.mk (S.out.keep hb_); have HM := Aside0.mk hC_; clear fb0 fb1 fb2 fb3 fb4 fl0 fl1 fl2; obtain ⟨fb0, fb1, fb2, fb3, fb4⟩ := box5 (S.out.at_blk 0 rfl); obtain ⟨fl0, fl1, fl2⟩ := box3 (S.out.at_blk 2 rfl); clear hc_ hC_ hb_) | ((with_reducible refine gate_builtin (b := .append) (xs := #[.tmp 66, .tmp 70]) rfl ?_); at_builtin; refine wpl rfl (fun K hK => st_app (by rfl) (.tmp 66) (.tmp 70) rfl Tryd.underlying22 inf5 1 rfl rfl S.out rfl (HM.out) (by have := HX.out; have := HB.out.1; have := HB.out.2.1; have := mkLine_le 60 n.toNat s0; have := mkLine_le 124 n.toNat s1; have := mkLine_le 61 n.toNat ⟨#[]⟩; have := mkLine_le 62 n.toNat s2; have := endNl_le S0; have := endNl_le S1; have := endNl_le S2; have := HN.out; (try simp only [List.length_append]); omega) ?_); intro v_ w_ S_; refine hK _ _ ?_; simp only [List.set_cons_succ, List.set_cons_zero] at S_; replace S := Aside0.mk S_; clear S_; clear fb0 fb1 fb2 fb3 fb4 fl0 fl1 fl2; obtain ⟨fb0, fb1, fb2, fb3, fb4⟩ := box5 (S.out.at_blk 0 rfl); obtain ⟨fl0, fl1, fl2⟩ := box3 (S.out.at_blk 2 rfl)))
        go_wp2_with (first | (go_at_call 40; refine (rd_mk 62 62 (by decide) n s2 _ (by have := HN.out; omega) HN.out.2 HS2.out).mono ?_; rintro e_ w_ ⟨Am, cm, rfl, hc_, hC_, hb_⟩; replace S := Aside0.mk (S.out.keep hb_); have HM := Aside0.mk hC_; clear fb0 fb1 fb2 fb3 fb4 fl0 fl1 fl2; obtain ⟨fb0, fb1, fb2, fb3, fb4⟩ := box5 (S.out.at_blk 0 rfl); obtain ⟨fl0, fl1, fl2⟩ := box3 (S.out.at_blk 2 rfl); clear hc_ hC_ hb_) | ((with_reducible refine gate_builtin (b := .append) (xs := #[.tmp 72, .tmp 76]) rfl ?_); at_builtin; refine wpl rfl (fun K hK => st_app (by rfl) (.tmp 72) (.tmp 76) rfl Tryd.underlying22 inf5 1 rfl rfl S.out rfl (HM.out) (by have := HX.out; have := HB.out.1; have := HB.out.2.1; have := mkLine_le 60 n.toNat s0; have := mkLine_le 124 n.toNat s1; have := mkLine_le 61 n.toNat ⟨#[]⟩; have := mkLine_le 62 n.toNat s2; have := endNl_le S0; have := endNl_le S1; have := endNl_le S2; have := HN.out; (try simp only [List.length_append]); omega) ?_); intro v_ w_ S_; refine hK _ _ ?_; simp only [List.set_cons_succ, List.set_cons_zero] at S_; replace S := Aside0.mk S_; clear S_; clear fb0 fb1 fb2 fb3 fb4 fl0 fl1 fl2; obtain ⟨fb0, fb1, fb2, fb3, fb4⟩ := box5 (S.out.at_blk 0 rfl); obtain ⟨fl0, fl1, fl2⟩ := box3 (S.out.at_blk 2 rfl)))
        go_roundg (ps.length - (i + 1))
        case rel => exact ⟨wrap64 (ii + 1), i + 1, _, by first | rfl | (simp; done) | (simp [hw1]; done), ⟨by rw [hw1]; have := hii.out; omega⟩, by have := hii.out; omega, rfl, hnext, ⟨by have := HX.out; have := HB.out.1; have := HB.out.2.1; have := mkLine_le 60 n.toNat s0; have := mkLine_le 124 n.toNat s1; have := mkLine_le 61 n.toNat ⟨#[]⟩; have := mkLine_le 62 n.toNat s2; have := endNl_le S0; have := endNl_le S1; have := endNl_le S2; have := HN.out; simp only [List.length_append]; omega⟩, ⟨fun h_ => by omega⟩, ⟨((((⟨S.out.drop.st, fun a ha => S.out.fr a (by simp only [List.mem_cons, List.not_mem_nil, or_false] at ha ⊢; simp [ha]), S.out.old⟩ : Stt _ _ _ [rdV kP (some ad) c ps] _))))⟩⟩
        case measure => have := hii.out; have := HB.out.2.2.2; omega
  · have hi' : i = ps.length := by have := hii.out; omega
    have hacc : acc = R := by have := hall.out; rw [hi', List.drop_of_length_le (Nat.le_refl _)] at this; exact this
    subst hacc
    obtain ⟨A', c', rfl, hc', hC'⟩ := (row8 S.out 0 rfl).out
    have HH := Aside0.mk (⟨hc', hC', S.out.below⟩ : _ ∧ _ ∧ _)
    clear hi' hc' hC'
    go_wp2
    refine bodyPost_ret (results_tmp2 rfl _ _ _) rfl ?_
    exact ⟨A', c', rfl, HH.out.1, HH.out.2.1, HH.out.2.2⟩
end Go.Proofs.YtnnnbeimehfiiaaDoor.Q

-- Written by a program of this session (wip/gen_read.py) for this claim; Lean checks it.
/-! mark.Read, walked. -/
set_option linter.unusedVariables false
set_option linter.unusedSimpArgs false
namespace Go.Proofs.YtnnnbeimehfiiaaDoor.Q
open Go Go.RowKit Go.Proofs.YtnnnbeimehfiiaaDoorW.PrintWords Go.Proofs.YtnnnbeimehfiiaaDoorW.PrintLast Go.Proofs.YtnnnbeimehfiiaaDoorW.PrintMore Go.Proofs.YtnnnbeimehfiiaaDoorW.SL
attribute [local go_sem] max2_int min2_int max_two min_two max_three min_three max_four min_four
def mread.T17 : Bool × List (List Nat × List Nat) := (true, [([], []), ([], []), ([], []), ([2], [2]), ([], []), ([], []), ([], []), ([6], [6]), ([4, 5], [4, 5]), ([8], [8]), ([9, 7], [7, 9]), ([10], [10]), ([], []), ([11, 12], [11, 12]), ([0, 1], [0, 1]), ([14], [14]), ([15, 3, 0, 1, 2, 3, 4, 5, 6, 7, 8, 9, 10, 11, 12, 13], [3, 15]), ([16, 13, 13, 0, 1, 2, 3, 4, 5, 6, 7, 8, 9, 10, 11, 12, 13], [13, 16])])
def mread.B17 : List Nat := [0, 0, 0, 4, 0, 0, 0, 64, 48, 304, 1008, 2032, 0, 8176, 3, 16387, 65535, 131071]
theorem mread.tab17 : rtab .any (opsOf Tryd.f9 17) = mread.T17 := by kernel_rfl
theorem mread.bits17 : waitsOk mread.T17.2 mread.B17 = true := by kernel_rfl
theorem inf50 : (Tryd.prog.info? 50).map (fun i => (i.zero, i.size, i.bytes)) = some (some (.agg #[.bool false, .slice none 0 0, .slice none 0 0, .slice none 0 0, .slice none 0 0]), 5, 104) := by kernel_rfl
set_option maxHeartbeats 16000000 in
set_option maxRecDepth 100000 in
theorem read_calls (n : Int) (A : Option Addr) (c : Nat) (b : List Int) (w : World) (hr : Kd.C B8 w A b.length b) (hc : b.length ≤ c) (hb : ∀ x ∈ b, byte x) (hlen : b.length ≤ 5000000) :
  Calls Tryd.prog 9 #[.int .i64 n, .slice A b.length c] w fun e w' => ∃ (A' : Option Addr) (c' : Nat), e = .returned (.tuple #[.slice A' (readOf n b).1.length c', .int .i64 (readOf n b).2]) ∧ (readOf n b).1.length ≤ c' ∧ Kd.C kP w' A' (readOf n b).1.length (readOf n b).1 ∧ Below w.heap.size w w' := by
 have HR := Aside0.mk hr; have HC := Aside0.mk hc; have HB := Aside0.mk hb; have HLEN := Aside0.mk hlen
 clear hr hc hb hlen
 by_cases hn : n ≥ 1 ∧ n ≤ 16777216
 · have hright : mark_right.f n = some true := by unfold mark_right.f; rw [if_pos hn.1]; simp [hn.2]
   obtain ⟨N, hN⟩ := Int.eq_ofNat_of_zero_le (by omega : 0 ≤ n)
   have hN1 : 1 ≤ N := by omega
   have hres : readOf n b = match rdAll N (linesOf b) ([], 0) with | some (ps, st) => if st = 0 then (ps, 0) else ([], 5) | none => ([], 5) := by
     unfold readOf; rw [if_pos hn, hN]; rfl
   obtain ⟨R, hR⟩ : ∃ R, readOf n b = R := ⟨_, rfl⟩
   rw [hR] at hres ⊢
   have HRES := Aside0.mk hres; have HRT := Aside0.mk hright
   clear hres hR hn hright
   subst hN
   obtain ⟨L, hL⟩ : ∃ L, linesOf b = L := ⟨_, rfl⟩
   rw [hL] at HRES
   have HLN := Aside0.mk (show L.length ≤ 5000000 by rw [← hL]; exact Nat.le_trans (linesOf_len b) HLEN.out)
   have HLX := Aside0.mk (show ∀ x ∈ L, x ≠ [] ∧ (∀ y ∈ x, byte y) ∧ x.length ≤ 5000000 by rw [← hL]; exact fun x hx => ⟨linesOf_ne b x hx, linesOf_all byte b x HB.out hx, Nat.le_trans (linesOf_mem b x hx) HLEN.out⟩)
   replace hL := Aside0.mk hL
   go_enter Tryd.func9, Tryd.ntmps9
   go_wp2_with (first | (go_at_call 24; refine (mark_right.calls _ true _ HRT.out).mono ?_; rintro e w1 ⟨rfl, hb1⟩; replace hb1 := drawn_below hb1) | (go_at_call 25; refine (split_calls A c b _ (Kd.C_below HR.out hb1) HC.out HB.out (by have := HLEN.out; omega)).mono ?_; rintro e w2 ⟨vl, rfl, hR, hb2⟩; rw [hL.out] at hR; obtain ⟨AL, cL, rfl, hrd⟩ := rd_R hR; replace hR := Aside0.mk hR))
   have hF0 : ∀ a ∈ [rdV kB AL cL L], a.P w2 (fun k => k < w2.heap.size) := by
     intro a ha; rw [List.mem_singleton] at ha; subst ha
     exact FA.step _ hrd (fun _ _ _ => rfl) (fun k hk => hk.2)
   have HS := Aside0.mk (RdI.start (Stt.start w2 hF0))
   have hB2 := Aside0.mk (hb1.trans (below_lo hb2 hb1.size))
   clear hF0 hrd hb1 hb2
   go_loopg [6, 7, 18] L.length (fun kq v6 v7 v18 w'' => ∃ (ps : List Pt) (ii sti : Int) (i : Nat), v18 = .int .i64 ii ∧ Aside0 (ii = (i : Int)) ∧ v7 = .int .i64 sti ∧ (sti = 0 ∨ sti = 1 ∨ sti = 2 ∨ sti = 3) ∧ i ≤ L.length ∧ kq = L.length - i ∧ Aside0 (rdAll N (L.take i) ([], 0) = some (ps, sti.toNat)) ∧ Aside0 (Sz ps i) ∧ Aside0 (RdI w2 [rdV kB AL cL L] ps v6 w''))
   case atStart => exact ⟨[], 0, 0, 0, rfl, ⟨rfl⟩, rfl, .inl rfl, Nat.zero_le _, rfl, ⟨rfl⟩, ⟨sz_nil⟩, HS⟩
   case round =>
    obtain ⟨ps, ii, sti, i, rfl, hii, rfl, hst, hi, hgk, hall, hsz, hI⟩ := hrel
    obtain ⟨wb, rfl⟩ : ∃ q, q = wr := ⟨_, rfl⟩
    by_cases hin : ii < (L.length : Int)
    · have p0 : 0 ≤ ii := by have := hii.out; omega
      obtain ⟨Z, hZ⟩ := hI.out.fr
      have hrd : (rdV kB AL cL L).P wb Z := hZ _ (by simp)
      obtain ⟨al, cs, eA, hcl, hFK, hcc, _⟩ := Kd.F_get hrd.2 [] ii p0 hin
      subst eA
      obtain ⟨x, hx⟩ : ∃ x, x = L.getD ii.toNat [] := ⟨_, rfl⟩
      rw [← hx] at hFK
      have hxi : L[i]? = some x := by
        rw [hx, hii.out]; have : i < L.length := by have := hii.out; omega
        simp [List.getD_eq_getElem?_getD, List.getElem?_eq_getElem this]
      have hxm := HLX.out x (List.mem_of_getElem? hxi)
      obtain ⟨AX, cX, rfl, hxc, hxC⟩ := Kd.FK_now hFK
      obtain ⟨ax, rfl, _⟩ := hxC.2.2 (by have := hxm.1; cases x with | nil => exact absurd rfl this | cons _ _ => simp)
      have hx0 : wb.cell? (al.add (ii.toNat * 1)) = some (.slice (some ax) x.length cX) := hcc 0 _ rfl
      have hx0' : wb.cell? (al.add ii.toNat) = some (.slice (some ax) x.length cX) := by simpa using hx0
      have HX := Aside0.mk (⟨hxi, hxm, hxc, hxC, hi, hgk⟩ : _ ∧ _ ∧ _ ∧ _ ∧ _ ∧ _)
      have HMK := Aside0.mk (markerOf_calls N hN1 (some ax) cX x wb hxC hxc hxm.2.1 (by have := hxm.2.2; omega))
      have hnext := Aside0.mk (rdAll_next hall.out hxi)
      have hsg := mkOf_cases hN1 x
      have hi5_ : i ≤ 5000000 := by have := HLN.out; omega
      obtain ⟨Ao, co, evo, hoc, _⟩ := hI.out.out
      obtain ⟨m, hm⟩ : ∃ m, m = ps.length := ⟨_, rfl⟩
      rw [← hm] at evo
      subst evo
      replace hm := Aside0.mk hm
      have hw1 : wrap64 (ii + 1) = ii + 1 := by have := hii.out; unfold wrap64; omega
      have hinb := eq_true hin
      have p0b := eq_true p0
      have hi5 : i ≤ 5000000 := by have := HLN.out; omega
      have hps5 := Aside0.mk (Nat.le_trans hsz.out.1 hi5)
      clear hZ hrd hcl hFK hcc hx hxi hxm hxc hxC hi hgk hoc
      obtain ⟨sg, hsgq⟩ : ∃ sg, mkOf N x = sg := ⟨_, rfl⟩
      rw [hsgq] at hsg HMK
      replace hsgq := Aside0.mk hsgq
      rcases hsg with rfl | hsg
      · rcases hst with rfl | rfl | rfl | rfl
        · skip
          have hx1_ : wb.cell? (al.add i) = some (.slice (some ax) x.length cX) := by have := hx0'; rwa [show ii.toNat = i by have := hii.out; omega] at this
          have HIX := Aside0.mk (hI.out.wider (rdV B8 (some ax) cX x) (fun Z hZ => row_kept (hZ _ List.mem_cons_self) HX.out.1 hx1_))
          clear hx1_
          obtain rfl | ⟨fr, ⟨rg, T, S0, S1, S2⟩, rfl⟩ := snoc_cases ps
          · obtain rfl : m = 0 := hm.out
            have hyes : rdStep N ([], 0) x = some ([] ++ [addF (nwPt false) x 0], 0) := by simp [rdStep, hsgq.out, addF]
            go_wp2_with (first | ((go_at_call 26; refine HMK.out.mono ?_; rintro e w3 ⟨rfl, hb3⟩); have hI3 := HIX.out.keep hb3) | ((with_reducible refine gate_builtin (b := .append) (xs := #[.tmp 44, .tmp 46]) rfl ?_); at_builtin; refine app_push rfl (.tmp 44) (.tmp 46) 104 rfl Tryd.underlying23 inf50 (by decide) hI3 hps5.out _ rfl false rfl rfl ?_; intro Ao2 co2 w4 hI4; obtain ⟨Zx, hZx⟩ := hI4.fr; have hxC4 := Kd.F_now (hZx (rdV B8 (some ax) cX x) (by simp)).2; obtain ⟨ad4, _, vk_, e1, hreg, hcell, hown, hstep⟩ := hI4.at0 0 (by decide) x; obtain ⟨ak_, ck_, rfl, _⟩ := own_form hown; injection e1 with e1 _ ec; subst e1 ec) | ((with_reducible refine gate_builtin (b := .append) (xs := #[.tmp 56, .tmp 57]) rfl ?_); at_builtin; refine app_spread rfl (.tmp 56) (.tmp 57) rfl Tryd.underlying22 inf5 _ _ _ x ax cX rfl rfl hown (hxC4) ?hl ?_; (case hl => simp [fld]; have := HX.out.2.1.2.2; omega); intro v5_ w5 ho5 hg5 hat5; obtain ⟨A5, c5, rfl, _⟩ := own_form ho5; obtain ⟨hk1, hk2, hI5⟩ := hstep w5 _ ho5 hg5 hat5))
            go_roundg (L.length - (i + 1))
            case rel => exact ⟨[] ++ [addF (nwPt false) x 0], wrap64 (ii + 1), 0, i + 1, by first | rfl | (simp; done) | (simp [hw1]; done), ⟨by rw [hw1]; have := hii.out; omega⟩, by first | rfl | (simp; done), by simp, by have := hii.out; omega, rfl, Aside0.mk (hnext.out.trans hyes), ⟨sz_app hsz.out false HX.out.2.1.2.2 0⟩, ⟨hI5.less⟩⟩
            case measure => have := hii.out; have := HX.out.2.2.2.2.2; omega
          · obtain rfl : m = fr.length + 1 := by rw [hm.out]; simp
            have hwj : wrap64 (fr.length : Int) = (fr.length : Int) := by have := hps5.out; simp at this; unfold wrap64; omega
            cases rg with
            | false =>
              have hyes : rdStep N (fr ++ [⟨false, T, S0, S1, S2⟩], 0) x = some (fr ++ [addF ⟨false, T, S0, S1, S2⟩ x 0], 0) := by simp [rdStep, hsgq.out, onLast_snoc, addF, addText]
              obtain ⟨ad, cap, vk, e1, hreg, hcell, hown, _⟩ := hI.out.at 0 (by decide) x
              obtain ⟨ak, ck, rfl, _⟩ := own_form hown
              injection e1 with eA _ ec
              subst eA ec
              have hreg0 := Aside0.mk hreg
              have hcell0 := Aside0.mk hcell
              clear hreg hcell hown
              go_wp2_with (first | ((go_at_call 26; refine HMK.out.mono ?_; rintro e w3 ⟨rfl, hb3⟩); have hI3 := hI.out.keep hb3; obtain ⟨_, _, vk_, e1, hreg, hcell, hown, hstep⟩ := hI3.at 0 (by decide) x; obtain ⟨ak_, ck_, rfl, _⟩ := own_form hown; injection e1 with e1 _ ec; injection e1 with e1; subst e1 ec) | ((with_reducible refine gate_builtin (b := .append) (xs := #[.tmp 56, .tmp 57]) rfl ?_); at_builtin; refine app_spread rfl (.tmp 56) (.tmp 57) rfl Tryd.underlying22 inf5 _ _ _ x ax cX rfl rfl hown (Kd.C_below HX.out.2.2.2.1 hb3) ?hl ?_; (case hl => have := sz_fld (hsz.out.2 _ (List.mem_append_right _ List.mem_cons_self)) 0; have := hi5; have := HX.out.2.1.2.2; simp only [fld] at *; omega); intro v5_ w5 ho5 hg5 hat5; obtain ⟨A5, c5, rfl, _⟩ := own_form ho5; obtain ⟨hk1, hk2, hI5⟩ := hstep w5 _ ho5 hg5 hat5))
              go_roundg (L.length - (i + 1))
              case rel => exact ⟨fr ++ [addF ⟨false, T, S0, S1, S2⟩ x 0], wrap64 (ii + 1), 0, i + 1, by first | rfl | (simp; done) | (simp [hw1]; done), ⟨by rw [hw1]; have := hii.out; omega⟩, by first | rfl | (simp; done), by simp, by have := hii.out; omega, rfl, Aside0.mk (hnext.out.trans hyes), ⟨sz_add hsz.out x HX.out.2.1.2.2 0⟩, ⟨hI5⟩⟩
              case measure => have := hii.out; have := HX.out.2.2.2.2.2; omega
            | true =>
              have hfl : (fr ++ [(⟨true, T, S0, S1, S2⟩ : Pt)]).length = fr.length + 1 := by simp
              have hwj1 : wrap64 ((fr.length : Int) + 1) = (fr.length : Int) + 1 := by have := hps5.out; simp at this; unfold wrap64; omega
              replace hfl := Aside0.mk hfl
              have hyes : rdStep N (fr ++ [⟨true, T, S0, S1, S2⟩], 0) x = some ((fr ++ [⟨true, T, S0, S1, S2⟩]) ++ [addF (nwPt false) x 0], 0) := by simp [rdStep, hsgq.out, addF]
              obtain ⟨ad, cap, vk, e1, hreg, hcell, hown, _⟩ := hI.out.at 0 (by decide) x
              obtain ⟨ak, ck, rfl, _⟩ := own_form hown
              injection e1 with eA _ ec
              subst eA ec
              have hreg0 := Aside0.mk hreg
              clear hreg hcell hown
              go_wp2_with (first | ((go_at_call 26; refine HMK.out.mono ?_; rintro e w3 ⟨rfl, hb3⟩); have hI3 := HIX.out.keep hb3; obtain ⟨_, _, vk_, e1, hreg, hcell, hown, hstep⟩ := hI3.at 0 (by decide) x; injection e1 with e1 _ ec; injection e1 with e1; subst e1 ec; clear hcell hown hstep) | ((with_reducible refine gate_builtin (b := .append) (xs := #[.tmp 44, .tmp 46]) rfl ?_); at_builtin; refine app_push rfl (.tmp 44) (.tmp 46) 104 rfl Tryd.underlying23 inf50 (by decide) hI3 hps5.out _ hfl.out false rfl rfl ?_; intro Ao2 co2 w4 hI4; obtain ⟨Zx, hZx⟩ := hI4.fr; have hxC4 := Kd.F_now (hZx (rdV B8 (some ax) cX x) (by simp)).2; obtain ⟨ad4, _, vk_, e1, hreg, hcell, hown, hstep⟩ := hI4.atj 0 (by decide) x hfl.out; obtain ⟨ak_, ck_, rfl, _⟩ := own_form hown; injection e1 with e1 _ ec; subst e1 ec) | ((with_reducible refine gate_builtin (b := .append) (xs := #[.tmp 56, .tmp 57]) rfl ?_); at_builtin; refine app_spread rfl (.tmp 56) (.tmp 57) rfl Tryd.underlying22 inf5 _ _ _ x ax cX rfl rfl hown (hxC4) ?hl ?_; (case hl => simp [fld]; have := HX.out.2.1.2.2; omega); intro v5_ w5 ho5 hg5 hat5; obtain ⟨A5, c5, rfl, _⟩ := own_form ho5; obtain ⟨hk1, hk2, hI5⟩ := hstep w5 _ ho5 hg5 hat5))
              go_roundg (L.length - (i + 1))
              case rel => exact ⟨_, wrap64 (ii + 1), 0, i + 1, by first | rfl | (simp; done) | (simp [hw1]; done), ⟨by rw [hw1]; have := hii.out; omega⟩, by first | rfl | (simp; done), by simp, by have := hii.out; omega, rfl, Aside0.mk (hnext.out.trans hyes), ⟨sz_app hsz.out false HX.out.2.1.2.2 0⟩, ⟨hI5.less⟩⟩
              case measure => have := hii.out; have := HX.out.2.2.2.2.2; omega
        · skip
          have hpn : ps ≠ [] := rdAll_ne hall.out (fun h => absurd rfl h) (by simp)
          obtain rfl | ⟨fr, p, rfl⟩ := snoc_cases ps
          · exact absurd rfl hpn
          clear hpn
          obtain rfl : m = fr.length + 1 := by rw [hm.out]; simp
          have hwj : wrap64 (fr.length : Int) = (fr.length : Int) := by have := hps5.out; simp at this; unfold wrap64; omega
          have hyes : rdStep N (fr ++ [p], 1) x = some (fr ++ [addF p x 1], 1) := by simp [rdStep, hsgq.out, onLast_snoc, addF, addSide]
          replace hyes := Aside0.mk hyes
          obtain ⟨ad, cap, vk, e1, _, _, _, _⟩ := hI.out.at 1 (by decide) x
          injection e1 with eA _ ec
          subst eA ec
          have hq0 : wrap64 0 = 0 := by unfold wrap64; omega
          have hjj := eq_true (show (fr.length : Int) < (fr.length : Int) + 1 by omega)
          go_wp2_with ((go_at_call 26; refine HMK.out.mono ?_; rintro e w3 ⟨rfl, hb3⟩))
          have hIw := hI.out.keep (below_drew1 hb3)
          have hXw := Kd.C_below HX.out.2.2.2.1 (below_drew1 hb3)
          obtain ⟨_, _, vk, e1, _, hcell, hown, hstep⟩ := hIw.at 1 (by decide) x
          obtain ⟨ak, ck, rfl, _⟩ := own_form hown
          injection e1 with e1 _ ec
          injection e1 with e1
          subst e1 ec
          have hln : (fld p 1).length + x.length ≤ 140737488355328 := by
            have := sz_fld (hsz.out.2 p (List.mem_append_right _ List.mem_cons_self)) 1
            have := hi5; have := HX.out.2.1.2.2; omega
          replace hln := Aside0.mk hln
          have hst_ : ∀ w1 v1, P1 w3.drew (.slice ak (fld p 1).length ck) (fld p 1) x v1 w1 → _ := fun w1 v1 h => hstep w1 v1 h.1 h.2.1 h.2.2
          replace hst_ := Aside0.mk hst_
          replace hown := Aside0.mk hown
          replace hXw := Aside0.mk hXw
          clear hstep hIw
          have E0 := trivial
          refine start_ (n := 18) (S := fun w' => True) (ds := []) #[false, false, false, false, false, false, false, false, false, false, false, false, false, false, false, false, false, false] (by kernel_rfl) rfl rfl trivial (fun hHeld => ?_)
          refine with_tabW mread.tab17 mread.bits17 (fun HT_ HW_ => ?_)
          generalize w3.drew = wd at hcell hown hst_ hXw hHeld ⊢
          refine pure_ (i := 0) (N := some 64) (v := ?_) (a' := ?_) #[true, false, false, false, false, false, false, false, false, false, false, false, false, false, false, false, false, false] rfl rfl (any_of HT_.out (by kernel_rfl)) (fun _ _ _ h => h) (Or.inl ⟨by rfl, ?_⟩) ?_ ?_
          rotate_left
          · intro w'
            go_simp
            with_reducible rfl
          rotate_left
          · simp only [Act.put, List.setIfInBounds_toArray, List.set_cons_zero, List.set_cons_succ, i64_w, i32_w]
            rfl
          refine pure_ (i := 1) (N := some 65) (v := ?_) (a' := ?_) #[true, true, false, false, false, false, false, false, false, false, false, false, false, false, false, false, false, false] rfl rfl (any_of HT_.out (by kernel_rfl)) (fun _ _ _ h => h) (Or.inl ⟨by rfl, ?_⟩) ?_ ?_
          rotate_left
          · intro w'
            go_simp
            with_reducible rfl
          rotate_left
          · simp only [Act.put, List.setIfInBounds_toArray, List.set_cons_zero, List.set_cons_succ, i64_w, i32_w]
            rfl
          refine pure_ (i := 2) (N := some 66) (v := ?_) (a' := ?_) #[true, true, true, false, false, false, false, false, false, false, false, false, false, false, false, false, false, false] rfl rfl (any_of HT_.out (by kernel_rfl)) (fun _ _ _ h => h) (Or.inl ⟨by rfl, ?_⟩) ?_ ?_
          rotate_left
          · intro w'
            go_simp
            with_reducible rfl
          rotate_left
          · simp only [Act.put, List.setIfInBounds_toArray, List.set_cons_zero, List.set_cons_succ, i64_w, i32_w]
            rfl
          refine pure_ (i := 3) (N := some 67) (v := ?_) (a' := ?_) #[true, true, true, true, false, false, false, false, false, false, false, false, false, false, false, false, false, false] rfl rfl (any_of HT_.out (by kernel_rfl)) (fun _ _ _ h => h) (Or.inl ⟨by rfl, ?_⟩) ?_ ?_
          rotate_left
          · intro w'
            go_simp
            with_reducible rfl
          rotate_left
          · simp only [Act.put, List.setIfInBounds_toArray, List.set_cons_zero, List.set_cons_succ, i64_w, i32_w]
            rfl
          refine pure_ (i := 4) (N := some 68) (v := ?_) (a' := ?_) #[true, true, true, true, true, false, false, false, false, false, false, false, false, false, false, false, false, false] rfl rfl (any_of HT_.out (by kernel_rfl)) (fun _ _ _ h => h) (Or.inl ⟨by rfl, ?_⟩) ?_ ?_
          rotate_left
          · intro w'
            go_simp
            with_reducible rfl
          rotate_left
          · simp only [Act.put, List.setIfInBounds_toArray, List.set_cons_zero, List.set_cons_succ, i64_w, i32_w]
            rfl
          refine pure_ (i := 5) (N := some 69) (v := ?_) (a' := ?_) #[true, true, true, true, true, true, false, false, false, false, false, false, false, false, false, false, false, false] rfl rfl (any_of HT_.out (by kernel_rfl)) (fun _ _ _ h => h) (Or.inl ⟨by rfl, ?_⟩) ?_ ?_
          rotate_left
          · intro w'
            go_simp
            with_reducible rfl
          rotate_left
          · simp only [Act.put, List.setIfInBounds_toArray, List.set_cons_zero, List.set_cons_succ, i64_w, i32_w]
            rfl
          refine pure_ (i := 6) (N := some 70) (v := ?_) (a' := ?_) #[true, true, true, true, true, true, true, false, false, false, false, false, false, false, false, false, false, false] rfl rfl (any_of HT_.out (by kernel_rfl)) (fun _ _ _ h => h) (Or.inl ⟨by rfl, ?_⟩) ?_ ?_
          rotate_left
          · intro w'
            go_simp
            with_reducible rfl
          rotate_left
          · simp only [Act.put, List.setIfInBounds_toArray, List.set_cons_zero, List.set_cons_succ, i64_w, i32_w]
            rfl
          refine pure_ (i := 7) (N := some 71) (v := ?_) (a' := ?_) #[true, true, true, true, true, true, true, true, false, false, false, false, false, false, false, false, false, false] rfl rfl (any_of HT_.out (by kernel_rfl)) (fun _ _ _ h => h) (Or.inl ⟨by rfl, ?_⟩) ?_ ?_
          rotate_left
          · intro w'
            go_simp
            with_reducible rfl
          rotate_left
          · simp only [Act.put, List.setIfInBounds_toArray, List.set_cons_zero, List.set_cons_succ, i64_w, i32_w]
            rfl
          refine pure_ (i := 8) (N := some 72) (v := ?_) (a' := ?_) #[true, true, true, true, true, true, true, true, true, false, false, false, false, false, false, false, false, false] rfl rfl (any_of HT_.out (by kernel_rfl)) (fun _ _ _ h => h) (Or.inl ⟨by rfl, ?_⟩) ?_ ?_
          rotate_left
          · intro w'
            go_simp
            with_reducible rfl
          rotate_left
          · simp only [Act.put, List.setIfInBounds_toArray, List.set_cons_zero, List.set_cons_succ, i64_w, i32_w]
            rfl
          refine pure_ (i := 9) (N := some 73) (v := ?_) (a' := ?_) #[true, true, true, true, true, true, true, true, true, true, false, false, false, false, false, false, false, false] rfl rfl (any_of HT_.out (by kernel_rfl)) (fun _ _ _ h => h) (Or.inl ⟨by rfl, ?_⟩) ?_ ?_
          rotate_left
          · intro w'
            go_simp
            with_reducible rfl
          rotate_left
          · simp only [Act.put, List.setIfInBounds_toArray, List.set_cons_zero, List.set_cons_succ, i64_w, i32_w]
            rfl
          refine pure_ (i := 10) (N := some 74) (v := ?_) (a' := ?_) #[true, true, true, true, true, true, true, true, true, true, true, false, false, false, false, false, false, false] rfl rfl (any_of HT_.out (by kernel_rfl)) (fun _ _ _ h => h) (Or.inl ⟨by rfl, ?_⟩) ?_ ?_
          rotate_left
          · intro w'
            go_simp
            with_reducible rfl
          rotate_left
          · simp only [Act.put, List.setIfInBounds_toArray, List.set_cons_zero, List.set_cons_succ, i64_w, i32_w]
            rfl
          refine pure_ (i := 12) (N := some 76) (v := ?_) (a' := ?_) #[true, true, true, true, true, true, true, true, true, true, true, false, true, false, false, false, false, false] rfl rfl (any_of HT_.out (by kernel_rfl)) (fun _ _ _ h => h) (Or.inl ⟨by rfl, ?_⟩) ?_ ?_
          rotate_left
          · intro w'
            go_simp
            with_reducible rfl
          rotate_left
          · simp only [Act.put, List.setIfInBounds_toArray, List.set_cons_zero, List.set_cons_succ, i64_w, i32_w]
            rfl
          refine pure_ (i := 14) (N := some 78) (v := ?_) (a' := ?_) #[true, true, true, true, true, true, true, true, true, true, true, false, true, false, true, false, false, false] rfl rfl (any_of HT_.out (by kernel_rfl)) (fun _ _ _ h => h) (Or.inl ⟨by rfl, ?_⟩) ?_ ?_
          rotate_left
          · intro w'
            go_simp
            with_reducible rfl
          rotate_left
          · simp only [Act.put, List.setIfInBounds_toArray, List.set_cons_zero, List.set_cons_succ, i64_w, i32_w]
            rfl
          refine pure_ (i := 15) (N := some 79) (v := ?_) (a' := ?_) #[true, true, true, true, true, true, true, true, true, true, true, false, true, false, true, true, false, false] rfl rfl (any_of HT_.out (by kernel_rfl)) (fun _ _ _ h => h) (Or.inl ⟨by rfl, ?_⟩) ?_ ?_
          rotate_left
          · intro w'
            go_simp
            with_reducible rfl
          rotate_left
          · simp only [Act.put, List.setIfInBounds_toArray, List.set_cons_zero, List.set_cons_succ, i64_w, i32_w]
            rfl
          refine inv_at [11, 13, 16, 17] (fun a0_ b a w' => ∃ (vv : Value), a = putSel a0_ b [(11, 75, .slice ak (fld p 1).length ck), (13, 77, vv), (16, 80, .pointer (some ⟨(ad.add (fr.length * 5)).block, (ad.add (fr.length * 5)).off + 2, none⟩))] ∧ (b 13 = false → w' = wd) ∧ (b 13 = true → b 17 = false → P1 wd (.slice ak (fld p 1).length ck) (fld p 1) x vv w') ∧ (b 17 = true → P2 wd (.slice ak (fld p 1).length ck) (fld p 1) x ⟨(ad.add (fr.length * 5)).block, (ad.add (fr.length * 5)).off + 2, none⟩ vv w')) HT_.out HW_.out (by kernel_rfl) (by kernel_rfl) ?_ ?_ ?_
          · exact ⟨.bool false, by simp only [putSel, Bool.false_eq_true, if_false], fun _ => rfl, fun h_ => absurd h_ (by decide), fun h_ => absurd h_ (by decide)⟩
          · skip
            clear E0
            refine steps_cons ?_ ?_
            · rintro b a w' ⟨vv, ha, Q_E0, Q_E1, Q_E2⟩ hb_ hon hoff
              refine ⟨_, rfl, fun K hK => ?_⟩
              have e74 : a.tmps[74]? = some (.pointer (some ⟨(ad.add (fr.length * 5)).block, (ad.add (fr.length * 5)).off + 2, none⟩)) := by rw [ha]; exact (putSel_off rfl).trans rfl
              replace ha := Aside0.mk ha
              have E0 := Aside0.mk (Q_E0 (hoff 13 (by kernel_rfl)))
              have hw_ := E0.out
              have hc_ := hcell
              rw [← hw_] at hc_
              refine value_ (w1 := w') (v := .slice ak (fld p 1).length ck) (by rfl) rfl ?_ ?_
              · go_simp
                (try simp only [i64_w])
                try rfl
              refine hK.out _ _ ⟨vv, (by rw [ha.out]; exact putSel_upk 0 hb_ rfl rfl rfl), Q_E0, fun h0_ _ => absurd ((hoff 13 (by kernel_rfl)).symm.trans h0_) (by decide), fun h0_ => absurd ((hoff 17 (by kernel_rfl)).symm.trans h0_) (by decide)⟩
            refine steps_cons ?_ ?_
            · rintro b a w' ⟨vv, ha, Q_E0, Q_E1, Q_E2⟩ hb_ hon hoff
              refine ⟨_, rfl, fun K hK => ?_⟩
              have e75 : a.tmps[75]? = some (.slice ak (fld p 1).length ck) := by rw [ha]; exact putSel_on (e := (11, 75, .slice ak (fld p 1).length ck)) 0 rfl rfl (hon 11 (by kernel_rfl)) rfl
              have e76 : a.tmps[76]? = some (.slice (some ax) x.length cX) := by rw [ha]; exact (putSel_off rfl).trans rfl
              replace ha := Aside0.mk ha
              have E0 := Aside0.mk (Q_E0 hb_)
              have hw_ := E0.out
              refine app_spread_step (by rfl) (.tmp 75) (.tmp 76) rfl Tryd.underlying22 inf5 (.slice ak (fld p 1).length ck) _ (us8 (fld p 1)) x ax cX (eval_of e75) (eval_of e76) (hw_ ▸ hown.out) (hw_ ▸ hXw.out) hln.out ?_
              intro v1 w1 ho hg hat
              have S3_ : P1 wd (.slice ak (fld p 1).length ck) (fld p 1) x v1 w1 := ⟨ho, hw_ ▸ hg, hw_ ▸ hat⟩
              refine hK.out _ _ ⟨v1, (by rw [ha.out]; exact putSel_upk 1 hb_ rfl rfl rfl), fun h0_ => absurd ((up_self b 13).symm.trans h0_) (by decide), fun _ _ => S3_, fun h0_ => absurd ((hoff 17 (by kernel_rfl)).symm.trans h0_) (by decide)⟩
            refine steps_cons ?_ ?_
            · rintro b a w' ⟨vv, ha, Q_E0, Q_E1, Q_E2⟩ hb_ hon hoff
              refine ⟨_, rfl, fun K hK => ?_⟩
              have e79 : a.tmps[79]? = some (.pointer (some ⟨(ad.add (fr.length * 5)).block, (ad.add (fr.length * 5)).off + 2, none⟩)) := by rw [ha]; exact (putSel_off rfl).trans rfl
              have e67 : a.tmps[67]? = some (.int .i64 (wrap64 0)) := by rw [ha]; exact (putSel_off rfl).trans rfl
              replace ha := Aside0.mk ha
              have E1 := Aside0.mk (Q_E1 (hon 13 (by kernel_rfl)) (hoff 17 (by kernel_rfl)))
              refine value_ (w1 := w') (v := .pointer (some ⟨(ad.add (fr.length * 5)).block, (ad.add (fr.length * 5)).off + 2, none⟩)) (by rfl) rfl ?_ ?_
              · go_simp
                (try simp only [i64_w])
                try rfl
              refine hK.out _ _ ⟨vv, (by rw [ha.out]; exact putSel_upk 2 hb_ rfl rfl rfl), fun h0_ => absurd ((hon 13 (by kernel_rfl)).symm.trans h0_) (by decide), Q_E1, fun h0_ => absurd ((hoff 17 (by kernel_rfl)).symm.trans h0_) (by decide)⟩
            refine steps_cons ?_ ?_
            · rintro b a w' ⟨vv, ha, Q_E0, Q_E1, Q_E2⟩ hb_ hon hoff
              refine ⟨_, rfl, fun K hK => ?_⟩
              have e80 : a.tmps[80]? = some (.pointer (some ⟨(ad.add (fr.length * 5)).block, (ad.add (fr.length * 5)).off + 2, none⟩)) := by rw [ha]; exact putSel_on (e := (16, 80, .pointer (some ⟨(ad.add (fr.length * 5)).block, (ad.add (fr.length * 5)).off + 2, none⟩))) 2 rfl rfl (hon 16 (by kernel_rfl)) rfl
              have e77 : a.tmps[77]? = some (vv) := by rw [ha]; exact putSel_on (e := (13, 77, vv)) 1 rfl rfl (hon 13 (by kernel_rfl)) rfl
              replace ha := Aside0.mk ha
              have E1 := Aside0.mk (Q_E1 (hon 13 (by kernel_rfl)) hb_)
              obtain ⟨A_, c_, en_⟩ := E1.out.form
              obtain ⟨hc_, hf_, _⟩ := hst_.out w' vv E1.out
              refine skip_ (w1 := w'.setCell ⟨(ad.add (fr.length * 5)).block, (ad.add (fr.length * 5)).off + 2, none⟩ vv) (by rfl) rfl ?_ ?_
              · rw [en_] at e77 ⊢
                go_simp
                try rfl
              have S3_ := E1.out
              refine hK.out _ _ ⟨vv, (by rw [ha.out]; exact putSel_none (v := undef) rfl), fun h0_ => absurd ((hon 13 (by kernel_rfl)).symm.trans h0_) (by decide), fun _ h1_ => absurd ((up_self b 17).symm.trans h1_) (by decide), fun _ => ⟨w', S3_, rfl⟩⟩
            exact steps_nil
          · rintro b a w' hall ⟨vv, ha, Q_E0, Q_E1, Q_E2⟩
            clear E0
            have hb11_ := hall 11 (by kernel_rfl)
            have hb13_ := hall 13 (by kernel_rfl)
            have hb16_ := hall 16 (by kernel_rfl)
            have hb17_ := hall 17 (by kernel_rfl)
            subst ha
            simp only [putSel, hb11_, hb13_, hb16_, hb17_, if_true, Act.put, List.setIfInBounds_toArray, List.set_cons_zero, List.set_cons_succ]
            clear Q_E0
            clear Q_E1
            have E2 := Aside0.mk (Q_E2 hb17_)
            clear Q_E2
            clear hall hb11_ hb13_ hb16_ hb17_
            obtain ⟨w1_, h1_, rfl⟩ := E2.out
            obtain ⟨_, _, hI5⟩ := hst_.out w1_ vv h1_
            go_wp2
            go_roundg (L.length - (i + 1))
            case rel => exact ⟨_, wrap64 (ii + 1), 1, i + 1, by first | rfl | (simp; done) | (simp [hw1]; done), ⟨by rw [hw1]; have := hii.out; omega⟩, by first | rfl | (simp; done), by simp, by have := hii.out; omega, rfl, Aside0.mk (hnext.out.trans hyes.out), ⟨sz_add hsz.out x HX.out.2.1.2.2 1⟩, ⟨hI5⟩⟩
            case measure => have := hii.out; have := HX.out.2.2.2.2.2; omega
        · skip
          have hpn : ps ≠ [] := rdAll_ne hall.out (fun h => absurd rfl h) (by simp)
          obtain rfl | ⟨fr, p, rfl⟩ := snoc_cases ps
          · exact absurd rfl hpn
          clear hpn
          obtain rfl : m = fr.length + 1 := by rw [hm.out]; simp
          have hwj : wrap64 (fr.length : Int) = (fr.length : Int) := by have := hps5.out; simp at this; unfold wrap64; omega
          have hyes : rdStep N (fr ++ [p], 2) x = some (fr ++ [addF p x 2], 2) := by simp [rdStep, hsgq.out, onLast_snoc, addF, addSide]
          replace hyes := Aside0.mk hyes
          obtain ⟨ad, cap, vk, e1, _, _, _, _⟩ := hI.out.at 2 (by decide) x
          injection e1 with eA _ ec
          subst eA ec
          have hq0 : wrap64 1 = 1 := by unfold wrap64; omega
          have hjj := eq_true (show (fr.length : Int) < (fr.length : Int) + 1 by omega)
          go_wp2_with ((go_at_call 26; refine HMK.out.mono ?_; rintro e w3 ⟨rfl, hb3⟩))
          have hIw := hI.out.keep (below_drew1 hb3)
          have hXw := Kd.C_below HX.out.2.2.2.1 (below_drew1 hb3)
          obtain ⟨_, _, vk, e1, _, hcell, hown, hstep⟩ := hIw.at 2 (by decide) x
          obtain ⟨ak, ck, rfl, _⟩ := own_form hown
          injection e1 with e1 _ ec
          injection e1 with e1
          subst e1 ec
          have hln : (fld p 2).length + x.length ≤ 140737488355328 := by
            have := sz_fld (hsz.out.2 p (List.mem_append_right _ List.mem_cons_self)) 2
            have := hi5; have := HX.out.2.1.2.2; omega
          replace hln := Aside0.mk hln
          have hst_ : ∀ w1 v1, P1 w3.drew (.slice ak (fld p 2).length ck) (fld p 2) x v1 w1 → _ := fun w1 v1 h => hstep w1 v1 h.1 h.2.1 h.2.2
          replace hst_ := Aside0.mk hst_
          replace hown := Aside0.mk hown
          replace hXw := Aside0.mk hXw
          clear hstep hIw
          have E0 := trivial
          refine start_ (n := 18) (S := fun w' => True) (ds := []) #[false, false, false, false, false, false, false, false, false, false, false, false, false, false, false, false, false, false] (by kernel_rfl) rfl rfl trivial (fun hHeld => ?_)
          refine with_tabW mread.tab17 mread.bits17 (fun HT_ HW_ => ?_)
          generalize w3.drew = wd at hcell hown hst_ hXw hHeld ⊢
          refine pure_ (i := 0) (N := some 64) (v := ?_) (a' := ?_) #[true, false, false, false, false, false, false, false, false, false, false, false, false, false, false, false, false, false] rfl rfl (any_of HT_.out (by kernel_rfl)) (fun _ _ _ h => h) (Or.inl ⟨by rfl, ?_⟩) ?_ ?_
          rotate_left
          · intro w'
            go_simp
            with_reducible rfl
          rotate_left
          · simp only [Act.put, List.setIfInBounds_toArray, List.set_cons_zero, List.set_cons_succ, i64_w, i32_w]
            rfl
          refine pure_ (i := 1) (N := some 65) (v := ?_) (a' := ?_) #[true, true, false, false, false, false, false, false, false, false, false, false, false, false, false, false, false, false] rfl rfl (any_of HT_.out (by kernel_rfl)) (fun _ _ _ h => h) (Or.inl ⟨by rfl, ?_⟩) ?_ ?_
          rotate_left
          · intro w'
            go_simp
            with_reducible rfl
          rotate_left
          · simp only [Act.put, List.setIfInBounds_toArray, List.set_cons_zero, List.set_cons_succ, i64_w, i32_w]
            rfl
          refine pure_ (i := 2) (N := some 66) (v := ?_) (a' := ?_) #[true, true, true, false, false, false, false, false, false, false, false, false, false, false, false, false, false, false] rfl rfl (any_of HT_.out (by kernel_rfl)) (fun _ _ _ h => h) (Or.inl ⟨by rfl, ?_⟩) ?_ ?_
          rotate_left
          · intro w'
            go_simp
            with_reducible rfl
          rotate_left
          · simp only [Act.put, List.setIfInBounds_toArray, List.set_cons_zero, List.set_cons_succ, i64_w, i32_w]
            rfl
          refine pure_ (i := 3) (N := some 67) (v := ?_) (a' := ?_) #[true, true, true, true, false, false, false, false, false, false, false, false, false, false, false, false, false, false] rfl rfl (any_of HT_.out (by kernel_rfl)) (fun _ _ _ h => h) (Or.inl ⟨by rfl, ?_⟩) ?_ ?_
          rotate_left
          · intro w'
            go_simp
            with_reducible rfl
          rotate_left
          · simp only [Act.put, List.setIfInBounds_toArray, List.set_cons_zero, List.set_cons_succ, i64_w, i32_w]
            rfl
          refine pure_ (i := 4) (N := some 68) (v := ?_) (a' := ?_) #[true, true, true, true, true, false, false, false, false, false, false, false, false, false, false, false, false, false] rfl rfl (any_of HT_.out (by kernel_rfl)) (fun _ _ _ h => h) (Or.inl ⟨by rfl, ?_⟩) ?_ ?_
          rotate_left
          · intro w'
            go_simp
            with_reducible rfl
          rotate_left
          · simp only [Act.put, List.setIfInBounds_toArray, List.set_cons_zero, List.set_cons_succ, i64_w, i32_w]
            rfl
          refine pure_ (i := 5) (N := some 69) (v := ?_) (a' := ?_) #[true, true, true, true, true, true, false, false, false, false, false, false, false, false, false, false, false, false] rfl rfl (any_of HT_.out (by kernel_rfl)) (fun _ _ _ h => h) (Or.inl ⟨by rfl, ?_⟩) ?_ ?_
          rotate_left
          · intro w'
            go_simp
            with_reducible rfl
          rotate_left
          · simp only [Act.put, List.setIfInBounds_toArray, List.set_cons_zero, List.set_cons_succ, i64_w, i32_w]
            rfl
          refine pure_ (i := 6) (N := some 70) (v := ?_) (a' := ?_) #[true, true, true, true, true, true, true, false, false, false, false, false, false, false, false, false, false, false] rfl rfl (any_of HT_.out (by kernel_rfl)) (fun _ _ _ h => h) (Or.inl ⟨by rfl, ?_⟩) ?_ ?_
          rotate_left
          · intro w'
            go_simp
            with_reducible rfl
          rotate_left
          · simp only [Act.put, List.setIfInBounds_toArray, List.set_cons_zero, List.set_cons_succ, i64_w, i32_w]
            rfl
          refine pure_ (i := 7) (N := some 71) (v := ?_) (a' := ?_) #[true, true, true, true, true, true, true, true, false, false, false, false, false, false, false, false, false, false] rfl rfl (any_of HT_.out (by kernel_rfl)) (fun _ _ _ h => h) (Or.inl ⟨by rfl, ?_⟩) ?_ ?_
          rotate_left
          · intro w'
            go_simp
            with_reducible rfl
          rotate_left
          · simp only [Act.put, List.setIfInBounds_toArray, List.set_cons_zero, List.set_cons_succ, i64_w, i32_w]
            rfl
          refine pure_ (i := 8) (N := some 72) (v := ?_) (a' := ?_) #[true, true, true, true, true, true, true, true, true, false, false, false, false, false, false, false, false, false] rfl rfl (any_of HT_.out (by kernel_rfl)) (fun _ _ _ h => h) (Or.inl ⟨by rfl, ?_⟩) ?_ ?_
          rotate_left
          · intro w'
            go_simp
            with_reducible rfl
          rotate_left
          · simp only [Act.put, List.setIfInBounds_toArray, List.set_cons_zero, List.set_cons_succ, i64_w, i32_w]
            rfl
          refine pure_ (i := 9) (N := some 73) (v := ?_) (a' := ?_) #[true, true, true, true, true, true, true, true, true, true, false, false, false, false, false, false, false, false] rfl rfl (any_of HT_.out (by kernel_rfl)) (fun _ _ _ h => h) (Or.inl ⟨by rfl, ?_⟩) ?_ ?_
          rotate_left
          · intro w'
            go_simp
            with_reducible rfl
          rotate_left
          · simp only [Act.put, List.setIfInBounds_toArray, List.set_cons_zero, List.set_cons_succ, i64_w, i32_w]
            rfl
          refine pure_ (i := 10) (N := some 74) (v := ?_) (a' := ?_) #[true, true, true, true, true, true, true, true, true, true, true, false, false, false, false, false, false, false] rfl rfl (any_of HT_.out (by kernel_rfl)) (fun _ _ _ h => h) (Or.inl ⟨by rfl, ?_⟩) ?_ ?_
          rotate_left
          · intro w'
            go_simp
            with_reducible rfl
          rotate_left
          · simp only [Act.put, List.setIfInBounds_toArray, List.set_cons_zero, List.set_cons_succ, i64_w, i32_w]
            rfl
          refine pure_ (i := 12) (N := some 76) (v := ?_) (a' := ?_) #[true, true, true, true, true, true, true, true, true, true, true, false, true, false, false, false, false, false] rfl rfl (any_of HT_.out (by kernel_rfl)) (fun _ _ _ h => h) (Or.inl ⟨by rfl, ?_⟩) ?_ ?_
          rotate_left
          · intro w'
            go_simp
            with_reducible rfl
          rotate_left
          · simp only [Act.put, List.setIfInBounds_toArray, List.set_cons_zero, List.set_cons_succ, i64_w, i32_w]
            rfl
          refine pure_ (i := 14) (N := some 78) (v := ?_) (a' := ?_) #[true, true, true, true, true, true, true, true, true, true, true, false, true, false, true, false, false, false] rfl rfl (any_of HT_.out (by kernel_rfl)) (fun _ _ _ h => h) (Or.inl ⟨by rfl, ?_⟩) ?_ ?_
          rotate_left
          · intro w'
            go_simp
            with_reducible rfl
          rotate_left
          · simp only [Act.put, List.setIfInBounds_toArray, List.set_cons_zero, List.set_cons_succ, i64_w, i32_w]
            rfl
          refine pure_ (i := 15) (N := some 79) (v := ?_) (a' := ?_) #[true, true, true, true, true, true, true, true, true, true, true, false, true, false, true, true, false, false] rfl rfl (any_of HT_.out (by kernel_rfl)) (fun _ _ _ h => h) (Or.inl ⟨by rfl, ?_⟩) ?_ ?_
          rotate_left
          · intro w'
            go_simp
            with_reducible rfl
          rotate_left
          · simp only [Act.put, List.setIfInBounds_toArray, List.set_cons_zero, List.set_cons_succ, i64_w, i32_w]
            rfl
          refine inv_at [11, 13, 16, 17] (fun a0_ b a w' => ∃ (vv : Value), a = putSel a0_ b [(11, 75, .slice ak (fld p 2).length ck), (13, 77, vv), (16, 80, .pointer (some ⟨(ad.add (fr.length * 5)).block, (ad.add (fr.length * 5)).off + 2 + 1, none⟩))] ∧ (b 13 = false → w' = wd) ∧ (b 13 = true → b 17 = false → P1 wd (.slice ak (fld p 2).length ck) (fld p 2) x vv w') ∧ (b 17 = true → P2 wd (.slice ak (fld p 2).length ck) (fld p 2) x ⟨(ad.add (fr.length * 5)).block, (ad.add (fr.length * 5)).off + 2 + 1, none⟩ vv w')) HT_.out HW_.out (by kernel_rfl) (by kernel_rfl) ?_ ?_ ?_
          · exact ⟨.bool false, by simp only [putSel, Bool.false_eq_true, if_false], fun _ => rfl, fun h_ => absurd h_ (by decide), fun h_ => absurd h_ (by decide)⟩
          · skip
            clear E0
            refine steps_cons ?_ ?_
            · rintro b a w' ⟨vv, ha, Q_E0, Q_E1, Q_E2⟩ hb_ hon hoff
              refine ⟨_, rfl, fun K hK => ?_⟩
              have e74 : a.tmps[74]? = some (.pointer (some ⟨(ad.add (fr.length * 5)).block, (ad.add (fr.length * 5)).off + 2 + 1, none⟩)) := by rw [ha]; exact (putSel_off rfl).trans rfl
              replace ha := Aside0.mk ha
              have E0 := Aside0.mk (Q_E0 (hoff 13 (by kernel_rfl)))
              have hw_ := E0.out
              have hc_ := hcell
              rw [← hw_] at hc_
              refine value_ (w1 := w') (v := .slice ak (fld p 2).length ck) (by rfl) rfl ?_ ?_
              · go_simp
                (try simp only [i64_w])
                try rfl
              refine hK.out _ _ ⟨vv, (by rw [ha.out]; exact putSel_upk 0 hb_ rfl rfl rfl), Q_E0, fun h0_ _ => absurd ((hoff 13 (by kernel_rfl)).symm.trans h0_) (by decide), fun h0_ => absurd ((hoff 17 (by kernel_rfl)).symm.trans h0_) (by decide)⟩
            refine steps_cons ?_ ?_
            · rintro b a w' ⟨vv, ha, Q_E0, Q_E1, Q_E2⟩ hb_ hon hoff
              refine ⟨_, rfl, fun K hK => ?_⟩
              have e75 : a.tmps[75]? = some (.slice ak (fld p 2).length ck) := by rw [ha]; exact putSel_on (e := (11, 75, .slice ak (fld p 2).length ck)) 0 rfl rfl (hon 11 (by kernel_rfl)) rfl
              have e76 : a.tmps[76]? = some (.slice (some ax) x.length cX) := by rw [ha]; exact (putSel_off rfl).trans rfl
              replace ha := Aside0.mk ha
              have E0 := Aside0.mk (Q_E0 hb_)
              have hw_ := E0.out
              refine app_spread_step (by rfl) (.tmp 75) (.tmp 76) rfl Tryd.underlying22 inf5 (.slice ak (fld p 2).length ck) _ (us8 (fld p 2)) x ax cX (eval_of e75) (eval_of e76) (hw_ ▸ hown.out) (hw_ ▸ hXw.out) hln.out ?_
              intro v1 w1 ho hg hat
              have S3_ : P1 wd (.slice ak (fld p 2).length ck) (fld p 2) x v1 w1 := ⟨ho, hw_ ▸ hg, hw_ ▸ hat⟩
              refine hK.out _ _ ⟨v1, (by rw [ha.out]; exact putSel_upk 1 hb_ rfl rfl rfl), fun h0_ => absurd ((up_self b 13).symm.trans h0_) (by decide), fun _ _ => S3_, fun h0_ => absurd ((hoff 17 (by kernel_rfl)).symm.trans h0_) (by decide)⟩
            refine steps_cons ?_ ?_
            · rintro b a w' ⟨vv, ha, Q_E0, Q_E1, Q_E2⟩ hb_ hon hoff
              refine ⟨_, rfl, fun K hK => ?_⟩
              have e79 : a.tmps[79]? = some (.pointer (some ⟨(ad.add (fr.length * 5)).block, (ad.add (fr.length * 5)).off + 2, none⟩)) := by rw [ha]; exact (putSel_off rfl).trans rfl
              have e67 : a.tmps[67]? = some (.int .i64 (wrap64 1)) := by rw [ha]; exact (putSel_off rfl).trans rfl
              replace ha := Aside0.mk ha
              have E1 := Aside0.mk (Q_E1 (hon 13 (by kernel_rfl)) (hoff 17 (by kernel_rfl)))
              refine value_ (w1 := w') (v := .pointer (some ⟨(ad.add (fr.length * 5)).block, (ad.add (fr.length * 5)).off + 2 + 1, none⟩)) (by rfl) rfl ?_ ?_
              · go_simp
                (try simp only [i64_w])
                try rfl
              refine hK.out _ _ ⟨vv, (by rw [ha.out]; exact putSel_upk 2 hb_ rfl rfl rfl), fun h0_ => absurd ((hon 13 (by kernel_rfl)).symm.trans h0_) (by decide), Q_E1, fun h0_ => absurd ((hoff 17 (by kernel_rfl)).symm.trans h0_) (by decide)⟩
            refine steps_cons ?_ ?_
            · rintro b a w' ⟨vv, ha, Q_E0, Q_E1, Q_E2⟩ hb_ hon hoff
              refine ⟨_, rfl, fun K hK => ?_⟩
              have e80 : a.tmps[80]? = some (.pointer (some ⟨(ad.add (fr.length * 5)).block, (ad.add (fr.length * 5)).off + 2 + 1, none⟩)) := by rw [ha]; exact putSel_on (e := (16, 80, .pointer (some ⟨(ad.add (fr.length * 5)).block, (ad.add (fr.length * 5)).off + 2 + 1, none⟩))) 2 rfl rfl (hon 16 (by kernel_rfl)) rfl
              have e77 : a.tmps[77]? = some (vv) := by rw [ha]; exact putSel_on (e := (13, 77, vv)) 1 rfl rfl (hon 13 (by kernel_rfl)) rfl
              replace ha := Aside0.mk ha
              have E1 := Aside0.mk (Q_E1 (hon 13 (by kernel_rfl)) hb_)
              obtain ⟨A_, c_, en_⟩ := E1.out.form
              obtain ⟨hc_, hf_, _⟩ := hst_.out w' vv E1.out
              refine skip_ (w1 := w'.setCell ⟨(ad.add (fr.length * 5)).block, (ad.add (fr.length * 5)).off + 2 + 1, none⟩ vv) (by rfl) rfl ?_ ?_
              · rw [en_] at e77 ⊢
                go_simp
                try rfl
              have S3_ := E1.out
              refine hK.out _ _ ⟨vv, (by rw [ha.out]; exact putSel_none (v := undef) rfl), fun h0_ => absurd ((hon 13 (by kernel_rfl)).symm.trans h0_) (by decide), fun _ h1_ => absurd ((up_self b 17).symm.trans h1_) (by decide), fun _ => ⟨w', S3_, rfl⟩⟩
            exact steps_nil
          · rintro b a w' hall ⟨vv, ha, Q_E0, Q_E1, Q_E2⟩
            clear E0
            have hb11_ := hall 11 (by kernel_rfl)
            have hb13_ := hall 13 (by kernel_rfl)
            have hb16_ := hall 16 (by kernel_rfl)
            have hb17_ := hall 17 (by kernel_rfl)
            subst ha
            simp only [putSel, hb11_, hb13_, hb16_, hb17_, if_true, Act.put, List.setIfInBounds_toArray, List.set_cons_zero, List.set_cons_succ]
            clear Q_E0
            clear Q_E1
            have E2 := Aside0.mk (Q_E2 hb17_)
            clear Q_E2
            clear hall hb11_ hb13_ hb16_ hb17_
            obtain ⟨w1_, h1_, rfl⟩ := E2.out
            obtain ⟨_, _, hI5⟩ := hst_.out w1_ vv h1_
            go_wp2
            go_roundg (L.length - (i + 1))
            case rel => exact ⟨_, wrap64 (ii + 1), 2, i + 1, by first | rfl | (simp; done) | (simp [hw1]; done), ⟨by rw [hw1]; have := hii.out; omega⟩, by first | rfl | (simp; done), by simp, by have := hii.out; omega, rfl, Aside0.mk (hnext.out.trans hyes.out), ⟨sz_add hsz.out x HX.out.2.1.2.2 2⟩, ⟨hI5⟩⟩
            case measure => have := hii.out; have := HX.out.2.2.2.2.2; omega
        · skip
          have hpn : ps ≠ [] := rdAll_ne hall.out (fun h => absurd rfl h) (by simp)
          obtain rfl | ⟨fr, p, rfl⟩ := snoc_cases ps
          · exact absurd rfl hpn
          clear hpn
          obtain rfl : m = fr.length + 1 := by rw [hm.out]; simp
          have hwj : wrap64 (fr.length : Int) = (fr.length : Int) := by have := hps5.out; simp at this; unfold wrap64; omega
          have hyes : rdStep N (fr ++ [p], 3) x = some (fr ++ [addF p x 3], 3) := by simp [rdStep, hsgq.out, onLast_snoc, addF, addSide]
          replace hyes := Aside0.mk hyes
          obtain ⟨ad, cap, vk, e1, _, _, _, _⟩ := hI.out.at 3 (by decide) x
          injection e1 with eA _ ec
          subst eA ec
          have hq0 : wrap64 2 = 2 := by unfold wrap64; omega
          have hjj := eq_true (show (fr.length : Int) < (fr.length : Int) + 1 by omega)
          go_wp2_with ((go_at_call 26; refine HMK.out.mono ?_; rintro e w3 ⟨rfl, hb3⟩))
          have hIw := hI.out.keep (below_drew1 hb3)
          have hXw := Kd.C_below HX.out.2.2.2.1 (below_drew1 hb3)
          obtain ⟨_, _, vk, e1, _, hcell, hown, hstep⟩ := hIw.at 3 (by decide) x
          obtain ⟨ak, ck, rfl, _⟩ := own_form hown
          injection e1 with e1 _ ec
          injection e1 with e1
          subst e1 ec
          have hln : (fld p 3).length + x.length ≤ 140737488355328 := by
            have := sz_fld (hsz.out.2 p (List.mem_append_right _ List.mem_cons_self)) 3
            have := hi5; have := HX.out.2.1.2.2; omega
          replace hln := Aside0.mk hln
          have hst_ : ∀ w1 v1, P1 w3.drew (.slice ak (fld p 3).length ck) (fld p 3) x v1 w1 → _ := fun w1 v1 h => hstep w1 v1 h.1 h.2.1 h.2.2
          replace hst_ := Aside0.mk hst_
          replace hown := Aside0.mk hown
          replace hXw := Aside0.mk hXw
          clear hstep hIw
          have E0 := trivial
          refine start_ (n := 18) (S := fun w' => True) (ds := []) #[false, false, false, false, false, false, false, false, false, false, false, false, false, false, false, false, false, false] (by kernel_rfl) rfl rfl trivial (fun hHeld => ?_)
          refine with_tabW mread.tab17 mread.bits17 (fun HT_ HW_ => ?_)
          generalize w3.drew = wd at hcell hown hst_ hXw hHeld ⊢
          refine pure_ (i := 0) (N := some 64) (v := ?_) (a' := ?_) #[true, false, false, false, false, false, false, false, false, false, false, false, false, false, false, false, false, false] rfl rfl (any_of HT_.out (by kernel_rfl)) (fun _ _ _ h => h) (Or.inl ⟨by rfl, ?_⟩) ?_ ?_
          rotate_left
          · intro w'
            go_simp
            with_reducible rfl
          rotate_left
          · simp only [Act.put, List.setIfInBounds_toArray, List.set_cons_zero, List.set_cons_succ, i64_w, i32_w]
            rfl
          refine pure_ (i := 1) (N := some 65) (v := ?_) (a' := ?_) #[true, true, false, false, false, false, false, false, false, false, false, false, false, false, false, false, false, false] rfl rfl (any_of HT_.out (by kernel_rfl)) (fun _ _ _ h => h) (Or.inl ⟨by rfl, ?_⟩) ?_ ?_
          rotate_left
          · intro w'
            go_simp
            with_reducible rfl
          rotate_left
          · simp only [Act.put, List.setIfInBounds_toArray, List.set_cons_zero, List.set_cons_succ, i64_w, i32_w]
            rfl
          refine pure_ (i := 2) (N := some 66) (v := ?_) (a' := ?_) #[true, true, true, false, false, false, false, false, false, false, false, false, false, false, false, false, false, false] rfl rfl (any_of HT_.out (by kernel_rfl)) (fun _ _ _ h => h) (Or.inl ⟨by rfl, ?_⟩) ?_ ?_
          rotate_left
          · intro w'
            go_simp
            with_reducible rfl
          rotate_left
          · simp only [Act.put, List.setIfInBounds_toArray, List.set_cons_zero, List.set_cons_succ, i64_w, i32_w]
            rfl
          refine pure_ (i := 3) (N := some 67) (v := ?_) (a' := ?_) #[true, true, true, true, false, false, false, false, false, false, false, false, false, false, false, false, false, false] rfl rfl (any_of HT_.out (by kernel_rfl)) (fun _ _ _ h => h) (Or.inl ⟨by rfl, ?_⟩) ?_ ?_
          rotate_left
          · intro w'
            go_simp
            with_reducible rfl
          rotate_left
          · simp only [Act.put, List.setIfInBounds_toArray, List.set_cons_zero, List.set_cons_succ, i64_w, i32_w]
            rfl
          refine pure_ (i := 4) (N := some 68) (v := ?_) (a' := ?_) #[true, true, true, true, true, false, false, false, false, false, false, false, false, false, false, false, false, false] rfl rfl (any_of HT_.out (by kernel_rfl)) (fun _ _ _ h => h) (Or.inl ⟨by rfl, ?_⟩) ?_ ?_
          rotate_left
          · intro w'
            go_simp
            with_reducible rfl
          rotate_left
          · simp only [Act.put, List.setIfInBounds_toArray, List.set_cons_zero, List.set_cons_succ, i64_w, i32_w]
            rfl
          refine pure_ (i := 5) (N := some 69) (v := ?_) (a' := ?_) #[true, true, true, true, true, true, false, false, false, false, false, false, false, false, false, false, false, false] rfl rfl (any_of HT_.out (by kernel_rfl)) (fun _ _ _ h => h) (Or.inl ⟨by rfl, ?_⟩) ?_ ?_
          rotate_left
          · intro w'
            go_simp
            with_reducible rfl
          rotate_left
          · simp only [Act.put, List.setIfInBounds_toArray, List.set_cons_zero, List.set_cons_succ, i64_w, i32_w]
            rfl
          refine pure_ (i := 6) (N := some 70) (v := ?_) (a' := ?_) #[true, true, true, true, true, true, true, false, false, false, false, false, false, false, false, false, false, false] rfl rfl (any_of HT_.out (by kernel_rfl)) (fun _ _ _ h => h) (Or.inl ⟨by rfl, ?_⟩) ?_ ?_
          rotate_left
          · intro w'
            go_simp
            with_reducible rfl
          rotate_left
          · simp only [Act.put, List.setIfInBounds_toArray, List.set_cons_zero, List.set_cons_succ, i64_w, i32_w]
            rfl
          refine pure_ (i := 7) (N := some 71) (v := ?_) (a' := ?_) #[true, true, true, true, true, true, true, true, false, false, false, false, false, false, false, false, false, false] rfl rfl (any_of HT_.out (by kernel_rfl)) (fun _ _ _ h => h) (Or.inl ⟨by rfl, ?_⟩) ?_ ?_
          rotate_left
          · intro w'
            go_simp
            with_reducible rfl
          rotate_left
          · simp only [Act.put, List.setIfInBounds_toArray, List.set_cons_zero, List.set_cons_succ, i64_w, i32_w]
            rfl
          refine pure_ (i := 8) (N := some 72) (v := ?_) (a' := ?_) #[true, true, true, true, true, true, true, true, true, false, false, false, false, false, false, false, false, false] rfl rfl (any_of HT_.out (by kernel_rfl)) (fun _ _ _ h => h) (Or.inl ⟨by rfl, ?_⟩) ?_ ?_
          rotate_left
          · intro w'
            go_simp
            with_reducible rfl
          rotate_left
          · simp only [Act.put, List.setIfInBounds_toArray, List.set_cons_zero, List.set_cons_succ, i64_w, i32_w]
            rfl
          refine pure_ (i := 9) (N := some 73) (v := ?_) (a' := ?_) #[true, true, true, true, true, true, true, true, true, true, false, false, false, false, false, false, false, false] rfl rfl (any_of HT_.out (by kernel_rfl)) (fun _ _ _ h => h) (Or.inl ⟨by rfl, ?_⟩) ?_ ?_
          rotate_left
          · intro w'
            go_simp
            with_reducible rfl
          rotate_left
          · simp only [Act.put, List.setIfInBounds_toArray, List.set_cons_zero, List.set_cons_succ, i64_w, i32_w]
            rfl
          refine pure_ (i := 10) (N := some 74) (v := ?_) (a' := ?_) #[true, true, true, true, true, true, true, true, true, true, true, false, false, false, false, false, false, false] rfl rfl (any_of HT_.out (by kernel_rfl)) (fun _ _ _ h => h) (Or.inl ⟨by rfl, ?_⟩) ?_ ?_
          rotate_left
          · intro w'
            go_simp
            with_reducible rfl
          rotate_left
          · simp only [Act.put, List.setIfInBounds_toArray, List.set_cons_zero, List.set_cons_succ, i64_w, i32_w]
            rfl
          refine pure_ (i := 12) (N := some 76) (v := ?_) (a' := ?_) #[true, true, true, true, true, true, true, true, true, true, true, false, true, false, false, false, false, false] rfl rfl (any_of HT_.out (by kernel_rfl)) (fun _ _ _ h => h) (Or.inl ⟨by rfl, ?_⟩) ?_ ?_
          rotate_left
          · intro w'
            go_simp
            with_reducible rfl
          rotate_left
          · simp only [Act.put, List.setIfInBounds_toArray, List.set_cons_zero, List.set_cons_succ, i64_w, i32_w]
            rfl
          refine pure_ (i := 14) (N := some 78) (v := ?_) (a' := ?_) #[true, true, true, true, true, true, true, true, true, true, true, false, true, false, true, false, false, false] rfl rfl (any_of HT_.out (by kernel_rfl)) (fun _ _ _ h => h) (Or.inl ⟨by rfl, ?_⟩) ?_ ?_
          rotate_left
          · intro w'
            go_simp
            with_reducible rfl
          rotate_left
          · simp only [Act.put, List.setIfInBounds_toArray, List.set_cons_zero, List.set_cons_succ, i64_w, i32_w]
            rfl
          refine pure_ (i := 15) (N := some 79) (v := ?_) (a' := ?_) #[true, true, true, true, true, true, true, true, true, true, true, false, true, false, true, true, false, false] rfl rfl (any_of HT_.out (by kernel_rfl)) (fun _ _ _ h => h) (Or.inl ⟨by rfl, ?_⟩) ?_ ?_
          rotate_left
          · intro w'
            go_simp
            with_reducible rfl
          rotate_left
          · simp only [Act.put, List.setIfInBounds_toArray, List.set_cons_zero, List.set_cons_succ, i64_w, i32_w]
            rfl
          refine inv_at [11, 13, 16, 17] (fun a0_ b a w' => ∃ (vv : Value), a = putSel a0_ b [(11, 75, .slice ak (fld p 3).length ck), (13, 77, vv), (16, 80, .pointer (some ⟨(ad.add (fr.length * 5)).block, (ad.add (fr.length * 5)).off + 2 + 2, none⟩))] ∧ (b 13 = false → w' = wd) ∧ (b 13 = true → b 17 = false → P1 wd (.slice ak (fld p 3).length ck) (fld p 3) x vv w') ∧ (b 17 = true → P2 wd (.slice ak (fld p 3).length ck) (fld p 3) x ⟨(ad.add (fr.length * 5)).block, (ad.add (fr.length * 5)).off + 2 + 2, none⟩ vv w')) HT_.out HW_.out (by kernel_rfl) (by kernel_rfl) ?_ ?_ ?_
          · exact ⟨.bool false, by simp only [putSel, Bool.false_eq_true, if_false], fun _ => rfl, fun h_ => absurd h_ (by decide), fun h_ => absurd h_ (by decide)⟩
          · skip
            clear E0
            refine steps_cons ?_ ?_
            · rintro b a w' ⟨vv, ha, Q_E0, Q_E1, Q_E2⟩ hb_ hon hoff
              refine ⟨_, rfl, fun K hK => ?_⟩
              have e74 : a.tmps[74]? = some (.pointer (some ⟨(ad.add (fr.length * 5)).block, (ad.add (fr.length * 5)).off + 2 + 2, none⟩)) := by rw [ha]; exact (putSel_off rfl).trans rfl
              replace ha := Aside0.mk ha
              have E0 := Aside0.mk (Q_E0 (hoff 13 (by kernel_rfl)))
              have hw_ := E0.out
              have hc_ := hcell
              rw [← hw_] at hc_
              refine value_ (w1 := w') (v := .slice ak (fld p 3).length ck) (by rfl) rfl ?_ ?_
              · go_simp
                (try simp only [i64_w])
                try rfl
              refine hK.out _ _ ⟨vv, (by rw [ha.out]; exact putSel_upk 0 hb_ rfl rfl rfl), Q_E0, fun h0_ _ => absurd ((hoff 13 (by kernel_rfl)).symm.trans h0_) (by decide), fun h0_ => absurd ((hoff 17 (by kernel_rfl)).symm.trans h0_) (by decide)⟩
            refine steps_cons ?_ ?_
            · rintro b a w' ⟨vv, ha, Q_E0, Q_E1, Q_E2⟩ hb_ hon hoff
              refine ⟨_, rfl, fun K hK => ?_⟩
              have e75 : a.tmps[75]? = some (.slice ak (fld p 3).length ck) := by rw [ha]; exact putSel_on (e := (11, 75, .slice ak (fld p 3).length ck)) 0 rfl rfl (hon 11 (by kernel_rfl)) rfl
              have e76 : a.tmps[76]? = some (.slice (some ax) x.length cX) := by rw [ha]; exact (putSel_off rfl).trans rfl
              replace ha := Aside0.mk ha
              have E0 := Aside0.mk (Q_E0 hb_)
              have hw_ := E0.out
              refine app_spread_step (by rfl) (.tmp 75) (.tmp 76) rfl Tryd.underlying22 inf5 (.slice ak (fld p 3).length ck) _ (us8 (fld p 3)) x ax cX (eval_of e75) (eval_of e76) (hw_ ▸ hown.out) (hw_ ▸ hXw.out) hln.out ?_
              intro v1 w1 ho hg hat
              have S3_ : P1 wd (.slice ak (fld p 3).length ck) (fld p 3) x v1 w1 := ⟨ho, hw_ ▸ hg, hw_ ▸ hat⟩
              refine hK.out _ _ ⟨v1, (by rw [ha.out]; exact putSel_upk 1 hb_ rfl rfl rfl), fun h0_ => absurd ((up_self b 13).symm.trans h0_) (by decide), fun _ _ => S3_, fun h0_ => absurd ((hoff 17 (by kernel_rfl)).symm.trans h0_) (by decide)⟩
            refine steps_cons ?_ ?_
            · rintro b a w' ⟨vv, ha, Q_E0, Q_E1, Q_E2⟩ hb_ hon hoff
              refine ⟨_, rfl, fun K hK => ?_⟩
              have e79 : a.tmps[79]? = some (.pointer (some ⟨(ad.add (fr.length * 5)).block, (ad.add (fr.length * 5)).off + 2, none⟩)) := by rw [ha]; exact (putSel_off rfl).trans rfl
              have e67 : a.tmps[67]? = some (.int .i64 (wrap64 2)) := by rw [ha]; exact (putSel_off rfl).trans rfl
              replace ha := Aside0.mk ha
              have E1 := Aside0.mk (Q_E1 (hon 13 (by kernel_rfl)) (hoff 17 (by kernel_rfl)))
              refine value_ (w1 := w') (v := .pointer (some ⟨(ad.add (fr.length * 5)).block, (ad.add (fr.length * 5)).off + 2 + 2, none⟩)) (by rfl) rfl ?_ ?_
              · go_simp
                (try simp only [i64_w])
                try rfl
              refine hK.out _ _ ⟨vv, (by rw [ha.out]; exact putSel_upk 2 hb_ rfl rfl rfl), fun h0_ => absurd ((hon 13 (by kernel_rfl)).symm.trans h0_) (by decide), Q_E1, fun h0_ => absurd ((hoff 17 (by kernel_rfl)).symm.trans h0_) (by decide)⟩
            refine steps_cons ?_ ?_
            · rintro b a w' ⟨vv, ha, Q_E0, Q_E1, Q_E2⟩ hb_ hon hoff
              refine ⟨_, rfl, fun K hK => ?_⟩
              have e80 : a.tmps[80]? = some (.pointer (some ⟨(ad.add (fr.length * 5)).block, (ad.add (fr.length * 5)).off + 2 + 2, none⟩)) := by rw [ha]; exact putSel_on (e := (16, 80, .pointer (some ⟨(ad.add (fr.length * 5)).block, (ad.add (fr.length * 5)).off + 2 + 2, none⟩))) 2 rfl rfl (hon 16 (by kernel_rfl)) rfl
              have e77 : a.tmps[77]? = some (vv) := by rw [ha]; exact putSel_on (e := (13, 77, vv)) 1 rfl rfl (hon 13 (by kernel_rfl)) rfl
              replace ha := Aside0.mk ha
              have E1 := Aside0.mk (Q_E1 (hon 13 (by kernel_rfl)) hb_)
              obtain ⟨A_, c_, en_⟩ := E1.out.form
              obtain ⟨hc_, hf_, _⟩ := hst_.out w' vv E1.out
              refine skip_ (w1 := w'.setCell ⟨(ad.add (fr.length * 5)).block, (ad.add (fr.length * 5)).off + 2 + 2, none⟩ vv) (by rfl) rfl ?_ ?_
              · rw [en_] at e77 ⊢
                go_simp
                try rfl
              have S3_ := E1.out
              refine hK.out _ _ ⟨vv, (by rw [ha.out]; exact putSel_none (v := undef) rfl), fun h0_ => absurd ((hon 13 (by kernel_rfl)).symm.trans h0_) (by decide), fun _ h1_ => absurd ((up_self b 17).symm.trans h1_) (by decide), fun _ => ⟨w', S3_, rfl⟩⟩
            exact steps_nil
          · rintro b a w' hall ⟨vv, ha, Q_E0, Q_E1, Q_E2⟩
            clear E0
            have hb11_ := hall 11 (by kernel_rfl)
            have hb13_ := hall 13 (by kernel_rfl)
            have hb16_ := hall 16 (by kernel_rfl)
            have hb17_ := hall 17 (by kernel_rfl)
            subst ha
            simp only [putSel, hb11_, hb13_, hb16_, hb17_, if_true, Act.put, List.setIfInBounds_toArray, List.set_cons_zero, List.set_cons_succ]
            clear Q_E0
            clear Q_E1
            have E2 := Aside0.mk (Q_E2 hb17_)
            clear Q_E2
            clear hall hb11_ hb13_ hb16_ hb17_
            obtain ⟨w1_, h1_, rfl⟩ := E2.out
            obtain ⟨_, _, hI5⟩ := hst_.out w1_ vv h1_
            go_wp2
            go_roundg (L.length - (i + 1))
            case rel => exact ⟨_, wrap64 (ii + 1), 3, i + 1, by first | rfl | (simp; done) | (simp [hw1]; done), ⟨by rw [hw1]; have := hii.out; omega⟩, by first | rfl | (simp; done), by simp, by have := hii.out; omega, rfl, Aside0.mk (hnext.out.trans hyes.out), ⟨sz_add hsz.out x HX.out.2.1.2.2 3⟩, ⟨hI5⟩⟩
            case measure => have := hii.out; have := HX.out.2.2.2.2.2; omega
      rcases hsg with rfl | hsg
      · rcases hst with rfl | rfl | rfl | rfl
        · skip
          have hyes : rdStep N (ps, 0) x = some (ps ++ [nwPt true], 1) := by simp [rdStep, hsgq.out]
          go_wp2_with (first | ((go_at_call 26; refine HMK.out.mono ?_; rintro e w3 ⟨rfl, hb3⟩); have hI3 := hI.out.keep hb3) | ((with_reducible refine gate_builtin (b := .append) (xs := #[.tmp 88, .tmp 90]) rfl ?_); at_builtin; refine app_push rfl (.tmp 88) (.tmp 90) 104 rfl Tryd.underlying23 inf50 (by decide) hI3 hps5.out _ hm.out.symm true rfl rfl ?_; intro Ao2 co2 w4 hI4))
          go_roundg (L.length - (i + 1))
          case rel => exact ⟨ps ++ [nwPt true], wrap64 (ii + 1), 1, i + 1, by first | rfl | (simp; done) | (simp [hw1]; done), ⟨by rw [hw1]; have := hii.out; omega⟩, by first | rfl | (simp; done), by simp, by have := hii.out; omega, rfl, Aside0.mk (hnext.out.trans hyes), ⟨sz_push hsz.out true⟩, ⟨hI4⟩⟩
          case measure => have := hii.out; have := HX.out.2.2.2.2.2; omega
        · skip
          have hno : rdStep N (ps, 1) x = none := by simp [rdStep, hsgq.out]
          have hR0 : R = ([], 5) := by
            rw [HRES.out, rdAll_none (hnext.out.trans hno)]
          go_wp2_with ((go_at_call 26; refine HMK.out.mono ?_; rintro e w3 ⟨rfl, hb3⟩))
          refine bodyPost_ret (results_tmp2 rfl _ _ _) rfl ?_
          rw [hR0]
          exact ⟨none, 0, rfl, Nat.zero_le _, Kd.C_nil kP _, hB2.out.trans (below_lo (hI.out.below.trans (below_lo hb3 hI.out.below.size)) hB2.out.size)⟩
        · skip
          have hno : rdStep N (ps, 2) x = none := by simp [rdStep, hsgq.out]
          have hR0 : R = ([], 5) := by
            rw [HRES.out, rdAll_none (hnext.out.trans hno)]
          go_wp2_with ((go_at_call 26; refine HMK.out.mono ?_; rintro e w3 ⟨rfl, hb3⟩))
          refine bodyPost_ret (results_tmp2 rfl _ _ _) rfl ?_
          rw [hR0]
          exact ⟨none, 0, rfl, Nat.zero_le _, Kd.C_nil kP _, hB2.out.trans (below_lo (hI.out.below.trans (below_lo hb3 hI.out.below.size)) hB2.out.size)⟩
        · skip
          have hno : rdStep N (ps, 3) x = none := by simp [rdStep, hsgq.out]
          have hR0 : R = ([], 5) := by
            rw [HRES.out, rdAll_none (hnext.out.trans hno)]
          go_wp2_with ((go_at_call 26; refine HMK.out.mono ?_; rintro e w3 ⟨rfl, hb3⟩))
          refine bodyPost_ret (results_tmp2 rfl _ _ _) rfl ?_
          rw [hR0]
          exact ⟨none, 0, rfl, Nat.zero_le _, Kd.C_nil kP _, hB2.out.trans (below_lo (hI.out.below.trans (below_lo hb3 hI.out.below.size)) hB2.out.size)⟩
      rcases hsg with rfl | hsg
      · rcases hst with rfl | rfl | rfl | rfl
        · skip
          have hno : rdStep N (ps, 0) x = none := by simp [rdStep, hsgq.out]
          have hR0 : R = ([], 5) := by
            rw [HRES.out, rdAll_none (hnext.out.trans hno)]
          go_wp2_with ((go_at_call 26; refine HMK.out.mono ?_; rintro e w3 ⟨rfl, hb3⟩))
          refine bodyPost_ret (results_tmp2 rfl _ _ _) rfl ?_
          rw [hR0]
          exact ⟨none, 0, rfl, Nat.zero_le _, Kd.C_nil kP _, hB2.out.trans (below_lo (hI.out.below.trans (below_lo hb3 hI.out.below.size)) hB2.out.size)⟩
        · skip
          have hyes : rdStep N (ps, 1) x = some (ps, 2) := by simp [rdStep, hsgq.out]
          go_wp2_with ((go_at_call 26; refine HMK.out.mono ?_; rintro e w3 ⟨rfl, hb3⟩); have hI3 := hI.out.keep hb3)
          go_roundg (L.length - (i + 1))
          case rel => exact ⟨ps, wrap64 (ii + 1), 2, i + 1, by first | rfl | (simp; done) | (simp [hw1]; done), ⟨by rw [hw1]; have := hii.out; omega⟩, by first | rfl | (simp; done), by simp, by have := hii.out; omega, rfl, Aside0.mk (hnext.out.trans hyes), ⟨sz_mono hsz.out⟩, ⟨hI3⟩⟩
          case measure => have := hii.out; have := HX.out.2.2.2.2.2; omega
        · skip
          have hno : rdStep N (ps, 2) x = none := by simp [rdStep, hsgq.out]
          have hR0 : R = ([], 5) := by
            rw [HRES.out, rdAll_none (hnext.out.trans hno)]
          go_wp2_with ((go_at_call 26; refine HMK.out.mono ?_; rintro e w3 ⟨rfl, hb3⟩))
          refine bodyPost_ret (results_tmp2 rfl _ _ _) rfl ?_
          rw [hR0]
          exact ⟨none, 0, rfl, Nat.zero_le _, Kd.C_nil kP _, hB2.out.trans (below_lo (hI.out.below.trans (below_lo hb3 hI.out.below.size)) hB2.out.size)⟩
        · skip
          have hno : rdStep N (ps, 3) x = none := by simp [rdStep, hsgq.out]
          have hR0 : R = ([], 5) := by
            rw [HRES.out, rdAll_none (hnext.out.trans hno)]
          go_wp2_with ((go_at_call 26; refine HMK.out.mono ?_; rintro e w3 ⟨rfl, hb3⟩))
          refine bodyPost_ret (results_tmp2 rfl _ _ _) rfl ?_
          rw [hR0]
          exact ⟨none, 0, rfl, Nat.zero_le _, Kd.C_nil kP _, hB2.out.trans (below_lo (hI.out.below.trans (below_lo hb3 hI.out.below.size)) hB2.out.size)⟩
      rcases hsg with rfl | hsg
      · rcases hst with rfl | rfl | rfl | rfl
        · skip
          have hno : rdStep N (ps, 0) x = none := by simp [rdStep, hsgq.out]
          have hR0 : R = ([], 5) := by
            rw [HRES.out, rdAll_none (hnext.out.trans hno)]
          go_wp2_with ((go_at_call 26; refine HMK.out.mono ?_; rintro e w3 ⟨rfl, hb3⟩))
          refine bodyPost_ret (results_tmp2 rfl _ _ _) rfl ?_
          rw [hR0]
          exact ⟨none, 0, rfl, Nat.zero_le _, Kd.C_nil kP _, hB2.out.trans (below_lo (hI.out.below.trans (below_lo hb3 hI.out.below.size)) hB2.out.size)⟩
        · skip
          have hno : rdStep N (ps, 1) x = none := by simp [rdStep, hsgq.out]
          have hR0 : R = ([], 5) := by
            rw [HRES.out, rdAll_none (hnext.out.trans hno)]
          go_wp2_with ((go_at_call 26; refine HMK.out.mono ?_; rintro e w3 ⟨rfl, hb3⟩))
          refine bodyPost_ret (results_tmp2 rfl _ _ _) rfl ?_
          rw [hR0]
          exact ⟨none, 0, rfl, Nat.zero_le _, Kd.C_nil kP _, hB2.out.trans (below_lo (hI.out.below.trans (below_lo hb3 hI.out.below.size)) hB2.out.size)⟩
        · skip
          have hyes : rdStep N (ps, 2) x = some (ps, 3) := by simp [rdStep, hsgq.out]
          go_wp2_with ((go_at_call 26; refine HMK.out.mono ?_; rintro e w3 ⟨rfl, hb3⟩); have hI3 := hI.out.keep hb3)
          go_roundg (L.length - (i + 1))
          case rel => exact ⟨ps, wrap64 (ii + 1), 3, i + 1, by first | rfl | (simp; done) | (simp [hw1]; done), ⟨by rw [hw1]; have := hii.out; omega⟩, by first | rfl | (simp; done), by simp, by have := hii.out; omega, rfl, Aside0.mk (hnext.out.trans hyes), ⟨sz_mono hsz.out⟩, ⟨hI3⟩⟩
          case measure => have := hii.out; have := HX.out.2.2.2.2.2; omega
        · skip
          have hno : rdStep N (ps, 3) x = none := by simp [rdStep, hsgq.out]
          have hR0 : R = ([], 5) := by
            rw [HRES.out, rdAll_none (hnext.out.trans hno)]
          go_wp2_with ((go_at_call 26; refine HMK.out.mono ?_; rintro e w3 ⟨rfl, hb3⟩))
          refine bodyPost_ret (results_tmp2 rfl _ _ _) rfl ?_
          rw [hR0]
          exact ⟨none, 0, rfl, Nat.zero_le _, Kd.C_nil kP _, hB2.out.trans (below_lo (hI.out.below.trans (below_lo hb3 hI.out.below.size)) hB2.out.size)⟩
      subst hsg
      rcases hst with rfl | rfl | rfl | rfl
      · skip
        have hno : rdStep N (ps, 0) x = none := by simp [rdStep, hsgq.out]
        have hR0 : R = ([], 5) := by
          rw [HRES.out, rdAll_none (hnext.out.trans hno)]
        go_wp2_with ((go_at_call 26; refine HMK.out.mono ?_; rintro e w3 ⟨rfl, hb3⟩))
        refine bodyPost_ret (results_tmp2 rfl _ _ _) rfl ?_
        rw [hR0]
        exact ⟨none, 0, rfl, Nat.zero_le _, Kd.C_nil kP _, hB2.out.trans (below_lo (hI.out.below.trans (below_lo hb3 hI.out.below.size)) hB2.out.size)⟩
      · skip
        have hno : rdStep N (ps, 1) x = none := by simp [rdStep, hsgq.out]
        have hR0 : R = ([], 5) := by
          rw [HRES.out, rdAll_none (hnext.out.trans hno)]
        go_wp2_with ((go_at_call 26; refine HMK.out.mono ?_; rintro e w3 ⟨rfl, hb3⟩))
        refine bodyPost_ret (results_tmp2 rfl _ _ _) rfl ?_
        rw [hR0]
        exact ⟨none, 0, rfl, Nat.zero_le _, Kd.C_nil kP _, hB2.out.trans (below_lo (hI.out.below.trans (below_lo hb3 hI.out.below.size)) hB2.out.size)⟩
      · skip
        have hno : rdStep N (ps, 2) x = none := by simp [rdStep, hsgq.out]
        have hR0 : R = ([], 5) := by
          rw [HRES.out, rdAll_none (hnext.out.trans hno)]
        go_wp2_with ((go_at_call 26; refine HMK.out.mono ?_; rintro e w3 ⟨rfl, hb3⟩))
        refine bodyPost_ret (results_tmp2 rfl _ _ _) rfl ?_
        rw [hR0]
        exact ⟨none, 0, rfl, Nat.zero_le _, Kd.C_nil kP _, hB2.out.trans (below_lo (hI.out.below.trans (below_lo hb3 hI.out.below.size)) hB2.out.size)⟩
      · skip
        have hyes : rdStep N (ps, 3) x = some (ps, 0) := by simp [rdStep, hsgq.out]
        go_wp2_with ((go_at_call 26; refine HMK.out.mono ?_; rintro e w3 ⟨rfl, hb3⟩); have hI3 := hI.out.keep hb3)
        go_roundg (L.length - (i + 1))
        case rel => exact ⟨ps, wrap64 (ii + 1), 0, i + 1, by first | rfl | (simp; done) | (simp [hw1]; done), ⟨by rw [hw1]; have := hii.out; omega⟩, by first | rfl | (simp; done), by simp, by have := hii.out; omega, rfl, Aside0.mk (hnext.out.trans hyes), ⟨sz_mono hsz.out⟩, ⟨hI3⟩⟩
        case measure => have := hii.out; have := HX.out.2.2.2.2.2; omega
    · have hi' : i = L.length := by have := hii.out; omega
      have hall2 : rdAll N L ([], 0) = some (ps, sti.toNat) := by have := hall.out; rwa [hi', List.take_length] at this
      rcases hst with rfl | rfl | rfl | rfl
      · obtain ⟨Ao, co, rfl, hoc, hC⟩ := hI.out.out
        replace hall2 := Aside0.mk hall2
        clear hi'
        go_wp2
        refine bodyPost_ret (results_tmp2 rfl _ _ _) rfl ?_
        have hR0 : R = (ps, 0) := by rw [HRES.out, hall2.out]; rfl
        rw [hR0]
        exact ⟨Ao, co, rfl, hoc, hC, hB2.out.trans (below_lo hI.out.below hB2.out.size)⟩
      all_goals
        replace hall2 := Aside0.mk hall2
        clear hi'
        go_wp2
        refine bodyPost_ret (results_tmp2 rfl _ _ _) rfl ?_
        have hR0 : R = ([], 5) := by rw [HRES.out, hall2.out]; rfl
        rw [hR0]
        exact ⟨none, 0, rfl, Nat.zero_le _, Kd.C_nil kP _, hB2.out.trans (below_lo hI.out.below hB2.out.size)⟩
 · have hright : mark_right.f n = some false := by
     unfold mark_right.f
     by_cases h : n ≥ 1
     · rw [if_pos h]; have : ¬ n ≤ 16777216 := fun h2 => hn ⟨h, h2⟩; simp [this]
     · rw [if_neg h]
   have hres : readOf n b = ([], 1) := by unfold readOf; rw [if_neg hn]
   rw [hres]
   clear hn hres
   go_enter Tryd.func9, Tryd.ntmps9
   go_wp2_with (go_at_call 24; refine (mark_right.calls _ false _ hright).mono ?_; rintro e w1 ⟨rfl, hb1⟩; replace hb1 := drawn_below hb1)
   refine bodyPost_ret (results_tmp2 rfl _ _ _) rfl ?_
   exact ⟨none, 0, rfl, Nat.zero_le _, Kd.C_nil kP _, hb1⟩
end Go.Proofs.YtnnnbeimehfiiaaDoor.Q

-- Written by a program of this session (wip/gen_few.py) for this claim; Lean checks it.
/-! few: parts of the document's, cut; walked. -/
set_option linter.unusedVariables false
set_option linter.unusedSimpArgs false
namespace Go.Proofs.YtnnnbeimehfiiaaDoor.Q
open Go Go.RowKit Go.Proofs.YtnnnbeimehfiiaaDoorW.PrintWords Go.Proofs.YtnnnbeimehfiiaaDoorW.PrintLast Go.Proofs.YtnnnbeimehfiiaaDoorW.PrintMore Go.Proofs.YtnnnbeimehfiiaaDoorW.SL
attribute [local go_sem] max2_int min2_int max_two min_two max_three min_three max_four min_four
def mfew.T7 : Bool × List (List Nat × List Nat) := (true, [([], []), ([], []), ([0, 1], [0, 1]), ([2], [2]), ([3], [3]), ([], []), ([], []), ([], []), ([6, 7], [6, 7]), ([8], [8]), ([9], [9]), ([5, 10], [5, 10]), ([], []), ([], []), ([], []), ([13, 14], [13, 14]), ([15], [15]), ([16], [16]), ([17], [17]), ([12, 18, 11], [12, 18]), ([], []), ([], []), ([], []), ([21, 22], [21, 22]), ([23], [23]), ([24], [24]), ([25], [25]), ([20, 26, 19], [20, 26]), ([], []), ([], []), ([], []), ([29, 30], [29, 30]), ([31], [31]), ([32], [32]), ([33], [33]), ([28, 34, 27], [28, 34]), ([19, 27, 35], [19, 27, 35]), ([4, 11, 36], [4, 11, 36]), ([], []), ([38, 37, 35, 0, 1, 2, 3, 4, 5, 6, 7, 8, 9, 10, 11, 12, 13, 14, 15, 16, 17, 18, 19, 20, 21, 22, 23, 24, 25, 26, 27, 28, 29, 30, 31, 32, 33, 34, 35, 36, 37, 38], [37, 38])])
def mfew.B7 : List Nat := [0, 0, 3, 7, 15, 0, 0, 0, 192, 448, 960, 2016, 0, 0, 0, 24576, 57344, 122880, 253952, 524256, 0, 0, 0, 6291456, 14680064, 31457280, 65011712, 134217696, 0, 0, 0, 1610612736, 3758096384, 8053063680, 16642998272, 34359738336, 68719476704, 137438953471, 0, 549755813887]
theorem mfew.tab7 : rtab .any (opsOf Tryd.f18 7) = mfew.T7 := by kernel_rfl
theorem mfew.bits7 : waitsOk mfew.T7.2 mfew.B7 = true := by kernel_rfl
def cutPt (p : Pt) : Pt := ⟨p.region, p.text.take 500, p.s0.take 500, p.s1.take 500, p.s2.take 500⟩
def fewOf (l : List Pt) : List Pt := (l.take 20).map cutPt
theorem fewOf_len (l : List Pt) : (fewOf l).length = min 20 l.length := by simp [fewOf]
theorem fewOf_small (l : List Pt) : ∀ p ∈ fewOf l, p.text.length ≤ 500 ∧ p.s0.length ≤ 500 ∧ p.s1.length ≤ 500 ∧ p.s2.length ≤ 500 := by
  intro p hp
  obtain ⟨q, _, rfl⟩ := List.mem_map.1 hp
  simp only [cutPt, List.length_take]; omega
theorem few_take {l : List Pt} {i : Nat} {x : Pt} (h : l[i]? = some x) (hi : i < 20) : (fewOf l).take (i + 1) = (fewOf l).take i ++ [cutPt x] := by
  rw [List.take_add_one]
  simp [fewOf, hi, h]
theorem F_cut {w : World} {ok : Nat → Prop} {A : Option Addr} {c : Nat} {x : List Int} (h : x.length ≤ c ∧ Kd.F B8 w ok A x.length x) : (x.take 500).length ≤ c ∧ Kd.F B8 w ok A (x.take 500).length (x.take 500) := by
  by_cases h5 : 500 ≤ x.length
  · have := Kd.F_take h.2 (m := 500) h5
    have e : (x.take 500).length = 500 := by simp [h5]
    rw [e] at this ⊢; exact ⟨by omega, this⟩
  · rw [List.take_of_length_le (by omega)]; exact h
theorem goesT_ {P : Program} {ops : Array Oper} {Q : Exit → Act → World → Prop} {oi : Oper} {N : Option Tmp} {a : Act} {w : World} {K : Act → World → Prop} {f : FuncId} {fn : Func} {op : Operand} {xs : Array Operand} {ts : Array TypeId} (hf : P.funcs[f]? = some fn) (hname : (fn.name == "runtime.NumGoroutine") = false) (hb : fn.body.isSome = true) (args : Array Value)
    (hw : Region.wanted oi (yielded ops a.tmps) = true) (hN : oi.dst = N) (hop : oi.op = .call { callee := .value op, args := xs, argTypes := ts }) (hv : a.eval op = .func (.func f) #[] #[]) (hargs : xs.map a.eval = args)
    (h : Calls P f args w fun e w' => ∃ v, e = .returned v ∧ K (a.put N v) w') : if Region.wanted oi (yielded ops a.tmps) = true then Oper.wp P oi a w K Q else K (a.put N undef) w := by
  refine call_ f args hw hN ?_ h
  have he := enters_ hf hname hb args w
  unfold execOp
  simp [hop, resolve, Deferred.ofValue, invoke, hv, hargs, he]
set_option maxHeartbeats 16000000 in
set_option maxRecDepth 100000 in
theorem cut_calls (A : Option Addr) (c : Nat) (l : List Int) (w : World) (hc : l.length ≤ c) :
    Calls Tryd.prog 33 #[.slice A l.length c] w fun e w' => e = .returned (.slice A (l.take 500).length c) ∧ w = w' := by
  have hmn : (if (500 : Int) < (l.length : Int) then 500 else (l.length : Int)) = ((l.take 500).length : Int) := by rw [List.length_take]; split <;> omega
  have hl : (l.take 500).length ≤ l.length := by rw [List.length_take]; omega
  have htk := take_at A c l ((l.take 500).length : Int) (by omega) (by omega) hc
  rw [Int.toNat_natCast] at htk
  have hz := eq_true (show (0 : Int) ≤ ((l.take 500).length : Int) by omega)
  have hy := eq_true (show ((l.take 500).length : Int) ≤ (l.length : Int) by omega)
  generalize (l.take 500).length = m at *
  go_enter Tryd.func33, Tryd.ntmps33
  go_wp2
  go_ret
  exact ⟨rfl, rfl⟩
/-- A box of cells, from B on. -/
def BxT (t B : Nat) (vp : Value) (cs : Array Value) (W : World) : Prop := ∃ gp, vp = .pointer (some ⟨gp, 0, none⟩) ∧ W.heap[gp]? = some (.cells cs t (0, 0)) ∧ B ≤ gp
theorem BxT.fill {t B : Nat} {gp : Nat} {c0 c1 c2 c3 c4 : Value} {W : World} (h : W.heap[gp]? = some (.cells #[c0, c1, c2, c3, c4] t (0, 0))) (hB : B ≤ gp) (u0 u1 u2 u3 u4 : Value) :
    BxT t B (.pointer (some ⟨gp, 0, none⟩)) #[u0, u1, u2, u3, u4] (((((W.setCell ⟨gp, 0, none⟩ u0).setCell ⟨gp, 1, none⟩ u1).setCell ⟨gp, 2, none⟩ u2).setCell ⟨gp, 3, none⟩ u3).setCell ⟨gp, 4, none⟩ u4) ∧
      (∀ w0, Below B w0 W → Below B w0 (((((W.setCell ⟨gp, 0, none⟩ u0).setCell ⟨gp, 1, none⟩ u1).setCell ⟨gp, 2, none⟩ u2).setCell ⟨gp, 3, none⟩ u3).setCell ⟨gp, 4, none⟩ u4)) ∧
      (((((W.setCell ⟨gp, 0, none⟩ u0).setCell ⟨gp, 1, none⟩ u1).setCell ⟨gp, 2, none⟩ u2).setCell ⟨gp, 3, none⟩ u3).setCell ⟨gp, 4, none⟩ u4).heap.size = W.heap.size := by
  have h1 := blk_set h 0 u0
  have h2 := blk_set h1 1 u1
  have h3 := blk_set h2 2 u2
  have h4 := blk_set h3 3 u3
  have h5 := blk_set h4 4 u4
  exact ⟨⟨gp, rfl, h5, hB⟩, fun w0 hb => ((((hb.setCell (p := ⟨gp, 0, none⟩) hB _).setCell (p := ⟨gp, 1, none⟩) hB _).setCell (p := ⟨gp, 2, none⟩) hB _).setCell (p := ⟨gp, 3, none⟩) hB _).setCell (p := ⟨gp, 4, none⟩) hB _, by simp [World.setCell]⟩
set_option maxHeartbeats 16000000 in
set_option maxRecDepth 100000 in
theorem few_calls (A : Option Addr) (c : Nat) (ps : List Pt) (w : World) (hr : Kd.C kP w A ps.length ps) (hc : ps.length ≤ c) :
    Calls Tryd.prog 18 #[.slice A ps.length c] w fun e w' => ∃ (A1 : Option Addr) (c1 : Nat) (A2 : Option Addr) (c2 : Nat), e = .returned (.tuple #[.slice A1 (fewOf ps).length c1, .slice A2 (fewOf ps).length c2]) ∧ (fewOf ps).length ≤ c1 ∧ Kd.C kP w' A1 (fewOf ps).length (fewOf ps) ∧ (fewOf ps).length ≤ c2 ∧ Kd.C kP w' A2 (fewOf ps).length (fewOf ps) ∧ Below w.heap.size w w' := by
  have hF0 : ∀ a ∈ [rdV kP A c ps], a.P w (fun k => k < w.heap.size) := by
    intro a ha; rw [List.mem_singleton] at ha; subst ha
    exact ⟨hc, Kd.C_F kP_heap hr⟩
  have HS : Aside0 (∃ cells, Stt w (fun k => k < w.heap.size) [rwP (.slice none 0 0) 44 0 cells, rwP (.slice none 0 0) 50 0 cells] [kpF ((fewOf ps).take 0) cells, rdV kP A c ps] w) := ⟨[], ((Stt.start w hF0).with ((Stt.start w hF0).st.row_nil 50 5)).with (((Stt.start w hF0).with ((Stt.start w hF0).st.row_nil 50 5)).st.row_nil 44 5) |>.add ⟨rfl, fun j p h => by simp at h⟩⟩
  clear hF0 hr hc
  obtain ⟨qs, hqs⟩ : ∃ qs, fewOf ps = qs := ⟨_, rfl⟩
  have hql := fewOf_len ps
  rw [hqs] at HS ⊢ hql
  replace hqs := Aside0.mk hqs
  replace hql := Aside0.mk hql
  go_enter Tryd.func18, Tryd.ntmps18
  go_wp2
  go_loopg [4, 5, 7] 20 (fun kq v4 v5 v7 W => ∃ (ii : Int) (i : Nat), v7 = .int .i64 ii ∧ Aside0 (ii = (i : Int)) ∧ i ≤ qs.length ∧ kq = 20 - i ∧ Aside0 (∃ cells, Stt w (fun k => k < w.heap.size) [rwP v5 44 i cells, rwP v4 50 i cells] [kpF (qs.take i) cells, rdV kP A c ps] W))
  case atStart => exact ⟨0, 0, rfl, ⟨rfl⟩, Nat.zero_le _, rfl, HS⟩
  case round =>
    obtain ⟨ii, i, rfl, hii, hi, hgk, hI⟩ := hrel
    obtain ⟨wb, rfl⟩ : ∃ q, q = wr := ⟨_, rfl⟩
    by_cases hin : ii < (ps.length : Int)
    · by_cases hin2 : ii < 20
      · have p0 : 0 ≤ ii := by have := hii.out; omega
        have e0 : ii.toNat = i := by have := hii.out; omega
        have hi20 : i < 20 := by have := hii.out; omega
        have hw1 : wrap64 (ii + 1) = ii + 1 := by have := hii.out; unfold wrap64; omega
        obtain ⟨cells, Sb⟩ := hI.out
        have S := Sb.keep (below_drew1 (Below.refl wb.heap.size wb))
        obtain ⟨ad, x, A1, c1, A2, c2, A3, c3, A4, c4, rfl, hxi, hok, hx0, hx1, hx2, hx3, hx4, g1, g2, g3, g4⟩ := at_Pt (S.rd 1 rfl).2 ii p0 hin
        rw [e0] at hxi
        have htk := few_take hxi hi20
        rw [hqs.out] at htk
        have hk := S.fr _ (List.mem_cons_self)
        have hk2 := kpF_snoc hk (cs := [.bool x.region, .slice A1 (x.text.take 500).length c1, .slice A2 (x.s0.take 500).length c2, .slice A3 (x.s1.take 500).length c3, .slice A4 (x.s2.take 500).length c4]) rfl (kP_mkF wb.drew _ (cutPt x) (F_cut g1) (F_cut g2) (F_cut g3) (F_cut g4))
        rw [← htk] at hk2
        have HF := Aside0.mk (S.add hk2)
        have hc0 := (⟨g1.1, g2.1, g3.1, g4.1⟩ : _ ∧ _ ∧ _ ∧ _)
        obtain ⟨rg, T, S0, S1, S2⟩ := x
        simp only at hx0 hx1 hx2 hx3 hx4 HF
        have HC : Aside0 (T.length ≤ c1 ∧ S0.length ≤ c2 ∧ S1.length ≤ c3 ∧ S2.length ≤ c4) := ⟨hc0⟩
        obtain ⟨T', hT'⟩ : ∃ m, (T.take 500).length = m := ⟨_, rfl⟩
        obtain ⟨S0', hS0'⟩ : ∃ m, (S0.take 500).length = m := ⟨_, rfl⟩
        obtain ⟨S1', hS1'⟩ : ∃ m, (S1.take 500).length = m := ⟨_, rfl⟩
        obtain ⟨S2', hS2'⟩ : ∃ m, (S2.take 500).length = m := ⟨_, rfl⟩
        have hcT := fun w => cut_calls A1 c1 T w HC.out.1
        have hcS0 := fun w => cut_calls A2 c2 S0 w HC.out.2.1
        have hcS1 := fun w => cut_calls A3 c3 S1 w HC.out.2.2.1
        have hcS2 := fun w => cut_calls A4 c4 S2 w HC.out.2.2.2
        rw [hT', hS0', hS1', hS2'] at HF
        simp only [hT'] at hcT
        simp only [hS0'] at hcS0
        simp only [hS1'] at hcS1
        simp only [hS2'] at hcS2
        have HCC := Aside0.mk (⟨hcT, hcS0, hcS1, hcS2⟩ : _ ∧ _ ∧ _ ∧ _)
        have HI := Aside0.mk (⟨hi, hgk, hi20⟩ : _ ∧ _ ∧ _)
        have hinb := eq_true hin
        have hinb2 := eq_true hin2
        have p0b := eq_true p0
        replace e0 := Aside0.mk e0
        clear hk hk2 htk hxi hok g1 g2 g3 g4 S Sb hI hc0 hT' hS0' hS1' hS2' hcT hcS0 hcS1 hcS2 hi hgk hi20
        go_wp2
        have E := trivial
        refine start_ (n := 40) (S := fun w' => True) (ds := []) #[false, false, false, false, false, false, false, false, false, false, false, false, false, false, false, false, false, false, false, false, false, false, false, false, false, false, false, false, false, false, false, false, false, false, false, false, false, false, false, false] (by kernel_rfl) rfl rfl trivial (fun hHeld => ?_)
        refine with_tabW mfew.tab7 mfew.bits7 (fun HT_ HW_ => ?_)
        have E := trivial
        generalize wb.drew = wd at hx0 hx1 hx2 hx3 hx4 HF hHeld ⊢
        refine pure_ (i := 0) (N := some 19) (v := ?_) (a' := ?_) #[true, false, false, false, false, false, false, false, false, false, false, false, false, false, false, false, false, false, false, false, false, false, false, false, false, false, false, false, false, false, false, false, false, false, false, false, false, false, false, false] rfl rfl (any_of HT_.out (by kernel_rfl)) (fun _ _ _ h => h) (Or.inl ⟨by rfl, ?_⟩) ?_ ?_
        rotate_left
        · intro w'
          go_simp
          with_reducible rfl
        rotate_left
        · simp only [Act.put, List.setIfInBounds_toArray, List.set_cons_zero, List.set_cons_succ, i64_w, i32_w]
          rfl
        refine pure_ (i := 1) (N := some 20) (v := ?_) (a' := ?_) #[true, true, false, false, false, false, false, false, false, false, false, false, false, false, false, false, false, false, false, false, false, false, false, false, false, false, false, false, false, false, false, false, false, false, false, false, false, false, false, false] rfl rfl (any_of HT_.out (by kernel_rfl)) (fun _ _ _ h => h) (Or.inl ⟨by rfl, ?_⟩) ?_ ?_
        rotate_left
        · intro w'
          go_simp
          with_reducible rfl
        rotate_left
        · simp only [Act.put, List.setIfInBounds_toArray, List.set_cons_zero, List.set_cons_succ, i64_w, i32_w]
          rfl
        refine pure_ (i := 2) (N := some 21) (v := ?_) (a' := ?_) #[true, true, true, false, false, false, false, false, false, false, false, false, false, false, false, false, false, false, false, false, false, false, false, false, false, false, false, false, false, false, false, false, false, false, false, false, false, false, false, false] rfl rfl (any_of HT_.out (by kernel_rfl)) (fun _ _ _ h => h) (Or.inl ⟨by rfl, ?_⟩) ?_ ?_
        rotate_left
        · intro w'
          go_simp
          with_reducible rfl
        rotate_left
        · simp only [Act.put, List.setIfInBounds_toArray, List.set_cons_zero, List.set_cons_succ, i64_w, i32_w]
          rfl
        refine pure_ (i := 3) (N := some 22) (v := ?_) (a' := ?_) #[true, true, true, true, false, false, false, false, false, false, false, false, false, false, false, false, false, false, false, false, false, false, false, false, false, false, false, false, false, false, false, false, false, false, false, false, false, false, false, false] rfl rfl (any_of HT_.out (by kernel_rfl)) (fun _ _ _ h => h) (Or.inl ⟨by rfl, ?_⟩) ?_ ?_
        rotate_left
        · intro w'
          go_simp
          with_reducible rfl
        rotate_left
        · simp only [Act.put, List.setIfInBounds_toArray, List.set_cons_zero, List.set_cons_succ, i64_w, i32_w]
          rfl
        refine pure_ (i := 5) (N := some 24) (v := ?_) (a' := ?_) #[true, true, true, true, false, true, false, false, false, false, false, false, false, false, false, false, false, false, false, false, false, false, false, false, false, false, false, false, false, false, false, false, false, false, false, false, false, false, false, false] rfl rfl (any_of HT_.out (by kernel_rfl)) (fun _ _ _ h => h) (Or.inl ⟨by rfl, ?_⟩) ?_ ?_
        rotate_left
        · intro w'
          go_simp
          with_reducible rfl
        rotate_left
        · simp only [Act.put, List.setIfInBounds_toArray, List.set_cons_zero, List.set_cons_succ, i64_w, i32_w]
          rfl
        refine pure_ (i := 6) (N := some 25) (v := ?_) (a' := ?_) #[true, true, true, true, false, true, true, false, false, false, false, false, false, false, false, false, false, false, false, false, false, false, false, false, false, false, false, false, false, false, false, false, false, false, false, false, false, false, false, false] rfl rfl (any_of HT_.out (by kernel_rfl)) (fun _ _ _ h => h) (Or.inl ⟨by rfl, ?_⟩) ?_ ?_
        rotate_left
        · intro w'
          go_simp
          with_reducible rfl
        rotate_left
        · simp only [Act.put, List.setIfInBounds_toArray, List.set_cons_zero, List.set_cons_succ, i64_w, i32_w]
          rfl
        refine pure_ (i := 7) (N := some 26) (v := ?_) (a' := ?_) #[true, true, true, true, false, true, true, true, false, false, false, false, false, false, false, false, false, false, false, false, false, false, false, false, false, false, false, false, false, false, false, false, false, false, false, false, false, false, false, false] rfl rfl (any_of HT_.out (by kernel_rfl)) (fun _ _ _ h => h) (Or.inl ⟨by rfl, ?_⟩) ?_ ?_
        rotate_left
        · intro w'
          go_simp
          with_reducible rfl
        rotate_left
        · simp only [Act.put, List.setIfInBounds_toArray, List.set_cons_zero, List.set_cons_succ, i64_w, i32_w]
          rfl
        refine pure_ (i := 8) (N := some 27) (v := ?_) (a' := ?_) #[true, true, true, true, false, true, true, true, true, false, false, false, false, false, false, false, false, false, false, false, false, false, false, false, false, false, false, false, false, false, false, false, false, false, false, false, false, false, false, false] rfl rfl (any_of HT_.out (by kernel_rfl)) (fun _ _ _ h => h) (Or.inl ⟨by rfl, ?_⟩) ?_ ?_
        rotate_left
        · intro w'
          go_simp
          with_reducible rfl
        rotate_left
        · simp only [Act.put, List.setIfInBounds_toArray, List.set_cons_zero, List.set_cons_succ, i64_w, i32_w]
          rfl
        refine pure_ (i := 9) (N := some 28) (v := ?_) (a' := ?_) #[true, true, true, true, false, true, true, true, true, true, false, false, false, false, false, false, false, false, false, false, false, false, false, false, false, false, false, false, false, false, false, false, false, false, false, false, false, false, false, false] rfl rfl (any_of HT_.out (by kernel_rfl)) (fun _ _ _ h => h) (Or.inl ⟨by rfl, ?_⟩) ?_ ?_
        rotate_left
        · intro w'
          go_simp
          with_reducible rfl
        rotate_left
        · simp only [Act.put, List.setIfInBounds_toArray, List.set_cons_zero, List.set_cons_succ, i64_w, i32_w]
          rfl
        refine pure_ (i := 12) (N := some 31) (v := ?_) (a' := ?_) #[true, true, true, true, false, true, true, true, true, true, false, false, true, false, false, false, false, false, false, false, false, false, false, false, false, false, false, false, false, false, false, false, false, false, false, false, false, false, false, false] rfl rfl (any_of HT_.out (by kernel_rfl)) (fun _ _ _ h => h) (Or.inl ⟨by rfl, ?_⟩) ?_ ?_
        rotate_left
        · intro w'
          go_simp
          with_reducible rfl
        rotate_left
        · simp only [Act.put, List.setIfInBounds_toArray, List.set_cons_zero, List.set_cons_succ, i64_w, i32_w]
          rfl
        refine pure_ (i := 13) (N := some 32) (v := ?_) (a' := ?_) #[true, true, true, true, false, true, true, true, true, true, false, false, true, true, false, false, false, false, false, false, false, false, false, false, false, false, false, false, false, false, false, false, false, false, false, false, false, false, false, false] rfl rfl (any_of HT_.out (by kernel_rfl)) (fun _ _ _ h => h) (Or.inl ⟨by rfl, ?_⟩) ?_ ?_
        rotate_left
        · intro w'
          go_simp
          with_reducible rfl
        rotate_left
        · simp only [Act.put, List.setIfInBounds_toArray, List.set_cons_zero, List.set_cons_succ, i64_w, i32_w]
          rfl
        refine pure_ (i := 14) (N := some 33) (v := ?_) (a' := ?_) #[true, true, true, true, false, true, true, true, true, true, false, false, true, true, true, false, false, false, false, false, false, false, false, false, false, false, false, false, false, false, false, false, false, false, false, false, false, false, false, false] rfl rfl (any_of HT_.out (by kernel_rfl)) (fun _ _ _ h => h) (Or.inl ⟨by rfl, ?_⟩) ?_ ?_
        rotate_left
        · intro w'
          go_simp
          with_reducible rfl
        rotate_left
        · simp only [Act.put, List.setIfInBounds_toArray, List.set_cons_zero, List.set_cons_succ, i64_w, i32_w]
          rfl
        refine pure_ (i := 15) (N := some 34) (v := ?_) (a' := ?_) #[true, true, true, true, false, true, true, true, true, true, false, false, true, true, true, true, false, false, false, false, false, false, false, false, false, false, false, false, false, false, false, false, false, false, false, false, false, false, false, false] rfl rfl (any_of HT_.out (by kernel_rfl)) (fun _ _ _ h => h) (Or.inl ⟨by rfl, ?_⟩) ?_ ?_
        rotate_left
        · intro w'
          go_simp
          with_reducible rfl
        rotate_left
        · simp only [Act.put, List.setIfInBounds_toArray, List.set_cons_zero, List.set_cons_succ, i64_w, i32_w]
          rfl
        refine pure_ (i := 16) (N := some 35) (v := ?_) (a' := ?_) #[true, true, true, true, false, true, true, true, true, true, false, false, true, true, true, true, true, false, false, false, false, false, false, false, false, false, false, false, false, false, false, false, false, false, false, false, false, false, false, false] rfl rfl (any_of HT_.out (by kernel_rfl)) (fun _ _ _ h => h) (Or.inl ⟨by rfl, ?_⟩) ?_ ?_
        rotate_left
        · intro w'
          go_simp
          with_reducible rfl
        rotate_left
        · simp only [Act.put, List.setIfInBounds_toArray, List.set_cons_zero, List.set_cons_succ, i64_w, i32_w]
          rfl
        refine pure_ (i := 17) (N := some 36) (v := ?_) (a' := ?_) #[true, true, true, true, false, true, true, true, true, true, false, false, true, true, true, true, true, true, false, false, false, false, false, false, false, false, false, false, false, false, false, false, false, false, false, false, false, false, false, false] rfl rfl (any_of HT_.out (by kernel_rfl)) (fun _ _ _ h => h) (Or.inl ⟨by rfl, ?_⟩) ?_ ?_
        rotate_left
        · intro w'
          go_simp
          with_reducible rfl
        rotate_left
        · simp only [Act.put, List.setIfInBounds_toArray, List.set_cons_zero, List.set_cons_succ, i64_w, i32_w]
          rfl
        refine pure_ (i := 20) (N := some 39) (v := ?_) (a' := ?_) #[true, true, true, true, false, true, true, true, true, true, false, false, true, true, true, true, true, true, false, false, true, false, false, false, false, false, false, false, false, false, false, false, false, false, false, false, false, false, false, false] rfl rfl (any_of HT_.out (by kernel_rfl)) (fun _ _ _ h => h) (Or.inl ⟨by rfl, ?_⟩) ?_ ?_
        rotate_left
        · intro w'
          go_simp
          with_reducible rfl
        rotate_left
        · simp only [Act.put, List.setIfInBounds_toArray, List.set_cons_zero, List.set_cons_succ, i64_w, i32_w]
          rfl
        refine pure_ (i := 21) (N := some 40) (v := ?_) (a' := ?_) #[true, true, true, true, false, true, true, true, true, true, false, false, true, true, true, true, true, true, false, false, true, true, false, false, false, false, false, false, false, false, false, false, false, false, false, false, false, false, false, false] rfl rfl (any_of HT_.out (by kernel_rfl)) (fun _ _ _ h => h) (Or.inl ⟨by rfl, ?_⟩) ?_ ?_
        rotate_left
        · intro w'
          go_simp
          with_reducible rfl
        rotate_left
        · simp only [Act.put, List.setIfInBounds_toArray, List.set_cons_zero, List.set_cons_succ, i64_w, i32_w]
          rfl
        refine pure_ (i := 22) (N := some 41) (v := ?_) (a' := ?_) #[true, true, true, true, false, true, true, true, true, true, false, false, true, true, true, true, true, true, false, false, true, true, true, false, false, false, false, false, false, false, false, false, false, false, false, false, false, false, false, false] rfl rfl (any_of HT_.out (by kernel_rfl)) (fun _ _ _ h => h) (Or.inl ⟨by rfl, ?_⟩) ?_ ?_
        rotate_left
        · intro w'
          go_simp
          with_reducible rfl
        rotate_left
        · simp only [Act.put, List.setIfInBounds_toArray, List.set_cons_zero, List.set_cons_succ, i64_w, i32_w]
          rfl
        refine pure_ (i := 23) (N := some 42) (v := ?_) (a' := ?_) #[true, true, true, true, false, true, true, true, true, true, false, false, true, true, true, true, true, true, false, false, true, true, true, true, false, false, false, false, false, false, false, false, false, false, false, false, false, false, false, false] rfl rfl (any_of HT_.out (by kernel_rfl)) (fun _ _ _ h => h) (Or.inl ⟨by rfl, ?_⟩) ?_ ?_
        rotate_left
        · intro w'
          go_simp
          with_reducible rfl
        rotate_left
        · simp only [Act.put, List.setIfInBounds_toArray, List.set_cons_zero, List.set_cons_succ, i64_w, i32_w]
          rfl
        refine pure_ (i := 24) (N := some 43) (v := ?_) (a' := ?_) #[true, true, true, true, false, true, true, true, true, true, false, false, true, true, true, true, true, true, false, false, true, true, true, true, true, false, false, false, false, false, false, false, false, false, false, false, false, false, false, false] rfl rfl (any_of HT_.out (by kernel_rfl)) (fun _ _ _ h => h) (Or.inl ⟨by rfl, ?_⟩) ?_ ?_
        rotate_left
        · intro w'
          go_simp
          with_reducible rfl
        rotate_left
        · simp only [Act.put, List.setIfInBounds_toArray, List.set_cons_zero, List.set_cons_succ, i64_w, i32_w]
          rfl
        refine pure_ (i := 25) (N := some 44) (v := ?_) (a' := ?_) #[true, true, true, true, false, true, true, true, true, true, false, false, true, true, true, true, true, true, false, false, true, true, true, true, true, true, false, false, false, false, false, false, false, false, false, false, false, false, false, false] rfl rfl (any_of HT_.out (by kernel_rfl)) (fun _ _ _ h => h) (Or.inl ⟨by rfl, ?_⟩) ?_ ?_
        rotate_left
        · intro w'
          go_simp
          with_reducible rfl
        rotate_left
        · simp only [Act.put, List.setIfInBounds_toArray, List.set_cons_zero, List.set_cons_succ, i64_w, i32_w]
          rfl
        refine pure_ (i := 28) (N := some 47) (v := ?_) (a' := ?_) #[true, true, true, true, false, true, true, true, true, true, false, false, true, true, true, true, true, true, false, false, true, true, true, true, true, true, false, false, true, false, false, false, false, false, false, false, false, false, false, false] rfl rfl (any_of HT_.out (by kernel_rfl)) (fun _ _ _ h => h) (Or.inl ⟨by rfl, ?_⟩) ?_ ?_
        rotate_left
        · intro w'
          go_simp
          with_reducible rfl
        rotate_left
        · simp only [Act.put, List.setIfInBounds_toArray, List.set_cons_zero, List.set_cons_succ, i64_w, i32_w]
          rfl
        refine pure_ (i := 29) (N := some 48) (v := ?_) (a' := ?_) #[true, true, true, true, false, true, true, true, true, true, false, false, true, true, true, true, true, true, false, false, true, true, true, true, true, true, false, false, true, true, false, false, false, false, false, false, false, false, false, false] rfl rfl (any_of HT_.out (by kernel_rfl)) (fun _ _ _ h => h) (Or.inl ⟨by rfl, ?_⟩) ?_ ?_
        rotate_left
        · intro w'
          go_simp
          with_reducible rfl
        rotate_left
        · simp only [Act.put, List.setIfInBounds_toArray, List.set_cons_zero, List.set_cons_succ, i64_w, i32_w]
          rfl
        refine pure_ (i := 30) (N := some 49) (v := ?_) (a' := ?_) #[true, true, true, true, false, true, true, true, true, true, false, false, true, true, true, true, true, true, false, false, true, true, true, true, true, true, false, false, true, true, true, false, false, false, false, false, false, false, false, false] rfl rfl (any_of HT_.out (by kernel_rfl)) (fun _ _ _ h => h) (Or.inl ⟨by rfl, ?_⟩) ?_ ?_
        rotate_left
        · intro w'
          go_simp
          with_reducible rfl
        rotate_left
        · simp only [Act.put, List.setIfInBounds_toArray, List.set_cons_zero, List.set_cons_succ, i64_w, i32_w]
          rfl
        refine pure_ (i := 31) (N := some 50) (v := ?_) (a' := ?_) #[true, true, true, true, false, true, true, true, true, true, false, false, true, true, true, true, true, true, false, false, true, true, true, true, true, true, false, false, true, true, true, true, false, false, false, false, false, false, false, false] rfl rfl (any_of HT_.out (by kernel_rfl)) (fun _ _ _ h => h) (Or.inl ⟨by rfl, ?_⟩) ?_ ?_
        rotate_left
        · intro w'
          go_simp
          with_reducible rfl
        rotate_left
        · simp only [Act.put, List.setIfInBounds_toArray, List.set_cons_zero, List.set_cons_succ, i64_w, i32_w]
          rfl
        refine pure_ (i := 32) (N := some 51) (v := ?_) (a' := ?_) #[true, true, true, true, false, true, true, true, true, true, false, false, true, true, true, true, true, true, false, false, true, true, true, true, true, true, false, false, true, true, true, true, true, false, false, false, false, false, false, false] rfl rfl (any_of HT_.out (by kernel_rfl)) (fun _ _ _ h => h) (Or.inl ⟨by rfl, ?_⟩) ?_ ?_
        rotate_left
        · intro w'
          go_simp
          with_reducible rfl
        rotate_left
        · simp only [Act.put, List.setIfInBounds_toArray, List.set_cons_zero, List.set_cons_succ, i64_w, i32_w]
          rfl
        refine pure_ (i := 33) (N := some 52) (v := ?_) (a' := ?_) #[true, true, true, true, false, true, true, true, true, true, false, false, true, true, true, true, true, true, false, false, true, true, true, true, true, true, false, false, true, true, true, true, true, true, false, false, false, false, false, false] rfl rfl (any_of HT_.out (by kernel_rfl)) (fun _ _ _ h => h) (Or.inl ⟨by rfl, ?_⟩) ?_ ?_
        rotate_left
        · intro w'
          go_simp
          with_reducible rfl
        rotate_left
        · simp only [Act.put, List.setIfInBounds_toArray, List.set_cons_zero, List.set_cons_succ, i64_w, i32_w]
          rfl
        refine inv_at [4, 10, 11, 18, 19, 26, 27, 34, 35, 36, 37, 38, 39] (fun a0_ b a w' => ∃ (vp : Value), a = putSel a0_ b [(4, 23, .bool rg), (10, 29, .slice A1 T.length c1), (11, 30, .slice A1 T' c1), (18, 37, .slice A2 S0.length c2), (19, 38, .slice A2 S0' c2), (26, 45, .slice A3 S1.length c3), (27, 46, .slice A3 S1' c3), (34, 53, .slice A4 S2.length c4), (35, 54, .slice A4 S2' c4), (36, 55, .agg #[.slice A2 S0' c2, .slice A3 S1' c3, .slice A4 S2' c4]), (37, 56, .agg #[.bool rg, .slice A1 T' c1, .slice A2 S0' c2, .slice A3 S1' c3, .slice A4 S2' c4]), (38, 8, vp)] ∧ (Below wd.heap.size wd w' ∧ wd.heap.size ≤ w'.heap.size) ∧ (b 38 = true → b 39 = false → BxT 44 wd.heap.size vp #[.bool false, .slice none 0 0, .slice none 0 0, .slice none 0 0, .slice none 0 0] w') ∧ (b 39 = true → BxT 44 wd.heap.size vp #[.bool rg, .slice A1 T' c1, .slice A2 S0' c2, .slice A3 S1' c3, .slice A4 S2' c4] w')) HT_.out HW_.out (by kernel_rfl) (by kernel_rfl) ?_ ?_ ?_
        · exact ⟨.bool false, by simp only [putSel, Bool.false_eq_true, if_false], ⟨Below.refl _ _, Nat.le_refl _⟩, fun h_ => absurd h_ (by decide), fun h_ => absurd h_ (by decide)⟩
        · skip
          clear E
          refine steps_cons ?_ ?_
          · rintro b a w' ⟨vp, ha, Q_E, Q_Eg, Q_Ef⟩ hb_ hon hoff
            refine ⟨_, rfl, fun K hK => ?_⟩
            have e22 : a.tmps[22]? = some (.pointer (some (ad.add (ii.toNat * 5)))) := by rw [ha]; exact (putSel_off rfl).trans rfl
            replace ha := Aside0.mk ha
            have E := Aside0.mk Q_E
            have hc_ := (E.out.1.cell (World.block_lt_of_cell? _ _ hx0)).trans hx0
            refine value_ (w1 := w') (v := .bool rg) (by rfl) rfl ?_ ?_
            · go_simp
              (try simp only [i64_w])
              try rfl
            refine hK.out _ _ ⟨vp, (by rw [ha.out]; exact putSel_upk 0 hb_ rfl rfl rfl), Q_E, Q_Eg, fun h0_ => absurd ((hoff 39 (by kernel_rfl)).symm.trans h0_) (by decide)⟩
          refine steps_cons ?_ ?_
          · rintro b a w' ⟨vp, ha, Q_E, Q_Eg, Q_Ef⟩ hb_ hon hoff
            refine ⟨_, rfl, fun K hK => ?_⟩
            have e28 : a.tmps[28]? = some (.pointer (some ⟨(ad.add (ii.toNat * 5)).block, (ad.add (ii.toNat * 5)).off + 1, none⟩)) := by rw [ha]; exact (putSel_off rfl).trans rfl
            replace ha := Aside0.mk ha
            have E := Aside0.mk Q_E
            have hc_ := (E.out.1.cell (World.block_lt_of_cell? _ _ hx1)).trans hx1
            refine value_ (w1 := w') (v := .slice A1 T.length c1) (by rfl) rfl ?_ ?_
            · go_simp
              (try simp only [i64_w])
              try rfl
            refine hK.out _ _ ⟨vp, (by rw [ha.out]; exact putSel_upk 1 hb_ rfl rfl rfl), Q_E, Q_Eg, fun h0_ => absurd ((hoff 39 (by kernel_rfl)).symm.trans h0_) (by decide)⟩
          refine steps_cons ?_ ?_
          · rintro b a w' ⟨vp, ha, Q_E, Q_Eg, Q_Ef⟩ hb_ hon hoff
            refine ⟨_, rfl, fun K hK => ?_⟩
            have e24 : a.tmps[24]? = some (.func (.func 33) #[] #[]) := by rw [ha]; exact (putSel_off rfl).trans rfl
            have e29 : a.tmps[29]? = some (.slice A1 T.length c1) := by rw [ha]; exact putSel_on (e := (10, 29, .slice A1 T.length c1)) 1 rfl rfl (hon 10 (by kernel_rfl)) rfl
            replace ha := Aside0.mk ha
            have E := Aside0.mk Q_E
            refine goesT_ Tryd.func33 (by kernel_rfl) rfl #[.slice A1 T.length c1] (by rfl) rfl rfl (eval_of e24) (by first | (simp only [List.map_toArray, List.map_cons, List.map_nil, Act.eval, Array.getD_eq_getD_getElem?, Option.getD_some, e24, e29]; done) | (simp only [List.map_toArray, List.map_cons, List.map_nil, Act.eval, Array.getD_eq_getD_getElem?, Option.getD_some, e24, e29]; rfl)) ?_
            refine (HCC.out.1 _).mono ?_
            rintro e w20 ⟨rfl, hw_⟩
            subst hw_
            refine ⟨_, rfl, ?_⟩
            refine hK.out _ _ ⟨vp, (by rw [ha.out]; exact putSel_upk 2 hb_ rfl rfl rfl), E.out, fun h0_ h1_ => (Q_Eg h0_ h1_), fun h0_ => absurd ((hoff 39 (by kernel_rfl)).symm.trans h0_) (by decide)⟩
          refine steps_cons ?_ ?_
          · rintro b a w' ⟨vp, ha, Q_E, Q_Eg, Q_Ef⟩ hb_ hon hoff
            refine ⟨_, rfl, fun K hK => ?_⟩
            have e36 : a.tmps[36]? = some (.pointer (some ⟨(ad.add (ii.toNat * 5)).block, (ad.add (ii.toNat * 5)).off + 2, none⟩)) := by rw [ha]; exact (putSel_off rfl).trans rfl
            replace ha := Aside0.mk ha
            have E := Aside0.mk Q_E
            have hc_ := (E.out.1.cell (World.block_lt_of_cell? _ _ hx2)).trans hx2
            refine value_ (w1 := w') (v := .slice A2 S0.length c2) (by rfl) rfl ?_ ?_
            · go_simp
              (try simp only [i64_w])
              try rfl
            refine hK.out _ _ ⟨vp, (by rw [ha.out]; exact putSel_upk 3 hb_ rfl rfl rfl), Q_E, Q_Eg, fun h0_ => absurd ((hoff 39 (by kernel_rfl)).symm.trans h0_) (by decide)⟩
          refine steps_cons ?_ ?_
          · rintro b a w' ⟨vp, ha, Q_E, Q_Eg, Q_Ef⟩ hb_ hon hoff
            refine ⟨_, rfl, fun K hK => ?_⟩
            have e31 : a.tmps[31]? = some (.func (.func 33) #[] #[]) := by rw [ha]; exact (putSel_off rfl).trans rfl
            have e37 : a.tmps[37]? = some (.slice A2 S0.length c2) := by rw [ha]; exact putSel_on (e := (18, 37, .slice A2 S0.length c2)) 3 rfl rfl (hon 18 (by kernel_rfl)) rfl
            replace ha := Aside0.mk ha
            have E := Aside0.mk Q_E
            refine goesT_ Tryd.func33 (by kernel_rfl) rfl #[.slice A2 S0.length c2] (by rfl) rfl rfl (eval_of e31) (by first | (simp only [List.map_toArray, List.map_cons, List.map_nil, Act.eval, Array.getD_eq_getD_getElem?, Option.getD_some, e31, e37]; done) | (simp only [List.map_toArray, List.map_cons, List.map_nil, Act.eval, Array.getD_eq_getD_getElem?, Option.getD_some, e31, e37]; rfl)) ?_
            refine (HCC.out.2.1 _).mono ?_
            rintro e w20 ⟨rfl, hw_⟩
            subst hw_
            refine ⟨_, rfl, ?_⟩
            refine hK.out _ _ ⟨vp, (by rw [ha.out]; exact putSel_upk 4 hb_ rfl rfl rfl), E.out, fun h0_ h1_ => (Q_Eg h0_ h1_), fun h0_ => absurd ((hoff 39 (by kernel_rfl)).symm.trans h0_) (by decide)⟩
          refine steps_cons ?_ ?_
          · rintro b a w' ⟨vp, ha, Q_E, Q_Eg, Q_Ef⟩ hb_ hon hoff
            refine ⟨_, rfl, fun K hK => ?_⟩
            have e44 : a.tmps[44]? = some (.pointer (some ⟨(ad.add (ii.toNat * 5)).block, (ad.add (ii.toNat * 5)).off + 3, none⟩)) := by rw [ha]; exact (putSel_off rfl).trans rfl
            replace ha := Aside0.mk ha
            have E := Aside0.mk Q_E
            have hc_ := (E.out.1.cell (World.block_lt_of_cell? _ _ hx3)).trans hx3
            refine value_ (w1 := w') (v := .slice A3 S1.length c3) (by rfl) rfl ?_ ?_
            · go_simp
              (try simp only [i64_w])
              try rfl
            refine hK.out _ _ ⟨vp, (by rw [ha.out]; exact putSel_upk 5 hb_ rfl rfl rfl), Q_E, Q_Eg, fun h0_ => absurd ((hoff 39 (by kernel_rfl)).symm.trans h0_) (by decide)⟩
          refine steps_cons ?_ ?_
          · rintro b a w' ⟨vp, ha, Q_E, Q_Eg, Q_Ef⟩ hb_ hon hoff
            refine ⟨_, rfl, fun K hK => ?_⟩
            have e39 : a.tmps[39]? = some (.func (.func 33) #[] #[]) := by rw [ha]; exact (putSel_off rfl).trans rfl
            have e45 : a.tmps[45]? = some (.slice A3 S1.length c3) := by rw [ha]; exact putSel_on (e := (26, 45, .slice A3 S1.length c3)) 5 rfl rfl (hon 26 (by kernel_rfl)) rfl
            replace ha := Aside0.mk ha
            have E := Aside0.mk Q_E
            refine goesT_ Tryd.func33 (by kernel_rfl) rfl #[.slice A3 S1.length c3] (by rfl) rfl rfl (eval_of e39) (by first | (simp only [List.map_toArray, List.map_cons, List.map_nil, Act.eval, Array.getD_eq_getD_getElem?, Option.getD_some, e39, e45]; done) | (simp only [List.map_toArray, List.map_cons, List.map_nil, Act.eval, Array.getD_eq_getD_getElem?, Option.getD_some, e39, e45]; rfl)) ?_
            refine (HCC.out.2.2.1 _).mono ?_
            rintro e w20 ⟨rfl, hw_⟩
            subst hw_
            refine ⟨_, rfl, ?_⟩
            refine hK.out _ _ ⟨vp, (by rw [ha.out]; exact putSel_upk 6 hb_ rfl rfl rfl), E.out, fun h0_ h1_ => (Q_Eg h0_ h1_), fun h0_ => absurd ((hoff 39 (by kernel_rfl)).symm.trans h0_) (by decide)⟩
          refine steps_cons ?_ ?_
          · rintro b a w' ⟨vp, ha, Q_E, Q_Eg, Q_Ef⟩ hb_ hon hoff
            refine ⟨_, rfl, fun K hK => ?_⟩
            have e52 : a.tmps[52]? = some (.pointer (some ⟨(ad.add (ii.toNat * 5)).block, (ad.add (ii.toNat * 5)).off + 4, none⟩)) := by rw [ha]; exact (putSel_off rfl).trans rfl
            replace ha := Aside0.mk ha
            have E := Aside0.mk Q_E
            have hc_ := (E.out.1.cell (World.block_lt_of_cell? _ _ hx4)).trans hx4
            refine value_ (w1 := w') (v := .slice A4 S2.length c4) (by rfl) rfl ?_ ?_
            · go_simp
              (try simp only [i64_w])
              try rfl
            refine hK.out _ _ ⟨vp, (by rw [ha.out]; exact putSel_upk 7 hb_ rfl rfl rfl), Q_E, Q_Eg, fun h0_ => absurd ((hoff 39 (by kernel_rfl)).symm.trans h0_) (by decide)⟩
          refine steps_cons ?_ ?_
          · rintro b a w' ⟨vp, ha, Q_E, Q_Eg, Q_Ef⟩ hb_ hon hoff
            refine ⟨_, rfl, fun K hK => ?_⟩
            have e47 : a.tmps[47]? = some (.func (.func 33) #[] #[]) := by rw [ha]; exact (putSel_off rfl).trans rfl
            have e53 : a.tmps[53]? = some (.slice A4 S2.length c4) := by rw [ha]; exact putSel_on (e := (34, 53, .slice A4 S2.length c4)) 7 rfl rfl (hon 34 (by kernel_rfl)) rfl
            replace ha := Aside0.mk ha
            have E := Aside0.mk Q_E
            refine goesT_ Tryd.func33 (by kernel_rfl) rfl #[.slice A4 S2.length c4] (by rfl) rfl rfl (eval_of e47) (by first | (simp only [List.map_toArray, List.map_cons, List.map_nil, Act.eval, Array.getD_eq_getD_getElem?, Option.getD_some, e47, e53]; done) | (simp only [List.map_toArray, List.map_cons, List.map_nil, Act.eval, Array.getD_eq_getD_getElem?, Option.getD_some, e47, e53]; rfl)) ?_
            refine (HCC.out.2.2.2 _).mono ?_
            rintro e w20 ⟨rfl, hw_⟩
            subst hw_
            refine ⟨_, rfl, ?_⟩
            refine hK.out _ _ ⟨vp, (by rw [ha.out]; exact putSel_upk 8 hb_ rfl rfl rfl), E.out, fun h0_ h1_ => (Q_Eg h0_ h1_), fun h0_ => absurd ((hoff 39 (by kernel_rfl)).symm.trans h0_) (by decide)⟩
          refine steps_cons ?_ ?_
          · rintro b a w' ⟨vp, ha, Q_E, Q_Eg, Q_Ef⟩ hb_ hon hoff
            refine ⟨_, rfl, fun K hK => ?_⟩
            have e38 : a.tmps[38]? = some (.slice A2 S0' c2) := by rw [ha]; exact putSel_on (e := (19, 38, .slice A2 S0' c2)) 4 rfl rfl (hon 19 (by kernel_rfl)) rfl
            have e46 : a.tmps[46]? = some (.slice A3 S1' c3) := by rw [ha]; exact putSel_on (e := (27, 46, .slice A3 S1' c3)) 6 rfl rfl (hon 27 (by kernel_rfl)) rfl
            have e54 : a.tmps[54]? = some (.slice A4 S2' c4) := by rw [ha]; exact putSel_on (e := (35, 54, .slice A4 S2' c4)) 8 rfl rfl (hon 35 (by kernel_rfl)) rfl
            replace ha := Aside0.mk ha
            have E := Aside0.mk Q_E
            refine value_ (w1 := w') (v := .agg #[.slice A2 S0' c2, .slice A3 S1' c3, .slice A4 S2' c4]) (by rfl) rfl ?_ ?_
            · go_simp
              (try simp only [i64_w])
              try rfl
            refine hK.out _ _ ⟨vp, (by rw [ha.out]; exact putSel_upk 9 hb_ rfl rfl rfl), Q_E, Q_Eg, fun h0_ => absurd ((hoff 39 (by kernel_rfl)).symm.trans h0_) (by decide)⟩
          refine steps_cons ?_ ?_
          · rintro b a w' ⟨vp, ha, Q_E, Q_Eg, Q_Ef⟩ hb_ hon hoff
            refine ⟨_, rfl, fun K hK => ?_⟩
            have e23 : a.tmps[23]? = some (.bool rg) := by rw [ha]; exact putSel_on (e := (4, 23, .bool rg)) 0 rfl rfl (hon 4 (by kernel_rfl)) rfl
            have e30 : a.tmps[30]? = some (.slice A1 T' c1) := by rw [ha]; exact putSel_on (e := (11, 30, .slice A1 T' c1)) 2 rfl rfl (hon 11 (by kernel_rfl)) rfl
            have e55 : a.tmps[55]? = some (.agg #[.slice A2 S0' c2, .slice A3 S1' c3, .slice A4 S2' c4]) := by rw [ha]; exact putSel_on (e := (36, 55, .agg #[.slice A2 S0' c2, .slice A3 S1' c3, .slice A4 S2' c4])) 9 rfl rfl (hon 36 (by kernel_rfl)) rfl
            replace ha := Aside0.mk ha
            have E := Aside0.mk Q_E
            refine value_ (w1 := w') (v := .agg #[.bool rg, .slice A1 T' c1, .slice A2 S0' c2, .slice A3 S1' c3, .slice A4 S2' c4]) (by rfl) rfl ?_ ?_
            · go_simp
              (try simp only [i64_w])
              try rfl
            refine hK.out _ _ ⟨vp, (by rw [ha.out]; exact putSel_upk 10 hb_ rfl rfl rfl), Q_E, Q_Eg, fun h0_ => absurd ((hoff 39 (by kernel_rfl)).symm.trans h0_) (by decide)⟩
          refine steps_cons ?_ ?_
          · rintro b a w' ⟨vp, ha, Q_E, Q_Eg, Q_Ef⟩ hb_ hon hoff
            refine ⟨_, rfl, fun K hK => ?_⟩
            replace ha := Aside0.mk ha
            have E := Aside0.mk Q_E
            refine value_ (w1 := w'.alloc (.cells #[.bool false, .slice none 0 0, .slice none 0 0, .slice none 0 0, .slice none 0 0] 44)) (v := .pointer (some ⟨w'.heap.size, 0, none⟩)) (by rfl) rfl ?_ ?_
            · go_simp
              try rfl
            refine hK.out _ _ ⟨(.pointer (some ⟨w'.heap.size, 0, none⟩)), (by rw [ha.out]; exact putSel_upk 11 hb_ rfl rfl rfl), ⟨E.out.1.trans (below_lo (below_alloc (Below.refl w'.heap.size w') _) E.out.2), Nat.le_trans E.out.2 (by simp)⟩, fun _ _ => ⟨_, rfl, heap_alloc_new w' _, E.out.2⟩, fun h0_ => absurd ((hoff 39 (by kernel_rfl)).symm.trans h0_) (by decide)⟩
          refine steps_cons ?_ ?_
          · rintro b a w' ⟨vp, ha, Q_E, Q_Eg, Q_Ef⟩ hb_ hon hoff
            refine ⟨_, rfl, fun K hK => ?_⟩
            have e8 : a.tmps[8]? = some (vp) := by rw [ha]; exact putSel_on (e := (38, 8, vp)) 11 rfl rfl (hon 38 (by kernel_rfl)) rfl
            have e56 : a.tmps[56]? = some (.agg #[.bool rg, .slice A1 T' c1, .slice A2 S0' c2, .slice A3 S1' c3, .slice A4 S2' c4]) := by rw [ha]; exact putSel_on (e := (37, 56, .agg #[.bool rg, .slice A1 T' c1, .slice A2 S0' c2, .slice A3 S1' c3, .slice A4 S2' c4])) 10 rfl rfl (hon 37 (by kernel_rfl)) rfl
            replace ha := Aside0.mk ha
            have E := Aside0.mk Q_E
            have Eg := Aside0.mk (Q_Eg (hon 38 (by kernel_rfl)) hb_)
            obtain ⟨gp_, evp_, hgp_, hBg_⟩ := Eg.out
            rw [evp_] at e8
            have hk0_ := (blk_cell hgp_ 0).trans rfl
            have hk1_ := (blk_cell hgp_ 1).trans rfl
            have hk2_ := (blk_cell hgp_ 2).trans rfl
            have hk3_ := (blk_cell hgp_ 3).trans rfl
            have hk4_ := (blk_cell hgp_ 4).trans rfl
            have hf0_ := blk_frozen hgp_ 0
            have hf1_ := blk_frozen hgp_ 1
            have hf2_ := blk_frozen hgp_ 2
            have hf3_ := blk_frozen hgp_ 3
            have hf4_ := blk_frozen hgp_ 4
            have S3_ := BxT.fill hgp_ hBg_ (.bool rg) (.slice A1 T' c1) (.slice A2 S0' c2) (.slice A3 S1' c3) (.slice A4 S2' c4)
            refine skip_ (w1 := ((((w'.setCell ⟨gp_, 0, none⟩ (.bool rg)).setCell ⟨gp_, 1, none⟩ (.slice A1 T' c1)).setCell ⟨gp_, 2, none⟩ (.slice A2 S0' c2)).setCell ⟨gp_, 3, none⟩ (.slice A3 S1' c3)).setCell ⟨gp_, 4, none⟩ (.slice A4 S2' c4)) (by rfl) rfl ?_ ?_
            · go_simp
              try rfl
            refine hK.out _ _ ⟨vp, (by rw [ha.out]; exact putSel_none (v := undef) rfl), ⟨S3_.2.1 _ E.out.1, by rw [S3_.2.2]; exact E.out.2⟩, fun _ h1_ => absurd ((up_self b 39).symm.trans h1_) (by decide), fun _ => (by rw [evp_]; exact S3_.1)⟩
          exact steps_nil
        · rintro b a w' hall ⟨vp, ha, Q_E, Q_Eg, Q_Ef⟩
          clear E
          have hb4_ := hall 4 (by kernel_rfl)
          have hb10_ := hall 10 (by kernel_rfl)
          have hb11_ := hall 11 (by kernel_rfl)
          have hb18_ := hall 18 (by kernel_rfl)
          have hb19_ := hall 19 (by kernel_rfl)
          have hb26_ := hall 26 (by kernel_rfl)
          have hb27_ := hall 27 (by kernel_rfl)
          have hb34_ := hall 34 (by kernel_rfl)
          have hb35_ := hall 35 (by kernel_rfl)
          have hb36_ := hall 36 (by kernel_rfl)
          have hb37_ := hall 37 (by kernel_rfl)
          have hb38_ := hall 38 (by kernel_rfl)
          have hb39_ := hall 39 (by kernel_rfl)
          subst ha
          simp only [putSel, hb4_, hb10_, hb11_, hb18_, hb19_, hb26_, hb27_, hb34_, hb35_, hb36_, hb37_, hb38_, hb39_, if_true, Act.put, List.setIfInBounds_toArray, List.set_cons_zero, List.set_cons_succ]
          have E := Aside0.mk Q_E
          clear Q_E
          clear Q_Eg
          have Ef := Aside0.mk (Q_Ef hb39_)
          clear Q_Ef
          clear hall hb4_ hb10_ hb11_ hb18_ hb19_ hb26_ hb27_ hb34_ hb35_ hb36_ hb37_ hb38_ hb39_
          obtain ⟨gp, evp, hgp, hBg⟩ := Ef.out
          subst evp
          have S := Aside0.mk (HF.out.more E.out.1 (a := blk gp 44 #[.bool rg, .slice A1 T' c1, .slice A2 S0' c2, .slice A3 S1' c3, .slice A4 S2' c4]) (f := fun k => k = gp) ⟨fun k => Iff.rfl, hgp⟩ (fun k hk => hk ▸ hBg))
          clear HF E Ef hgp hBg hx0 hx1 hx2 hx3 hx4 HCC
          obtain ⟨fb0, fb1, fb2, fb3, fb4⟩ := box5 (S.out.at_blk 0 rfl)
          go_wp2_with (first | ((with_reducible refine gate_builtin (b := .append) (xs := #[.tmp 57, .tmp 59]) rfl ?_); at_builtin; refine wpl rfl (fun K hK => st_push (by rfl) (.tmp 57) (.tmp 59) 27 44 (.agg #[.bool false, .slice none 0 0, .slice none 0 0, .slice none 0 0, .slice none 0 0]) rfl Tryd.underlying27 inf44 rfl 1 rfl rfl (S.out.lit0 44 5 [Value.bool rg, Value.slice A1 T' c1, Value.slice A2 S0' c2, Value.slice A3 S1' c3, Value.slice A4 S2' c4] rfl) rfl (by simp [Value.oneCell']) (by have := HI.out.2.2; omega) ?_); intro v_ w_ S_; refine hK _ _ ?_; simp only [List.set_cons_succ, List.set_cons_zero] at S_; replace S := Aside0.mk S_; clear S_; clear fb0 fb1 fb2 fb3 fb4; obtain ⟨fb0, fb1, fb2, fb3, fb4⟩ := box5 (S.out.at_blk 0 rfl)) | ((with_reducible refine gate_builtin (b := .append) (xs := #[.tmp 61, .tmp 69]) rfl ?_); at_builtin; refine wpl rfl (fun K hK => st_push (by rfl) (.tmp 61) (.tmp 69) 23 50 (.agg #[.bool false, .slice none 0 0, .slice none 0 0, .slice none 0 0, .slice none 0 0]) rfl Tryd.underlying23 inf50 rfl 2 rfl rfl (S.out.lit0 50 5 [Value.bool rg, Value.slice A1 T' c1, Value.slice A2 S0' c2, Value.slice A3 S1' c3, Value.slice A4 S2' c4] rfl) rfl (by simp [Value.oneCell']) (by have := HI.out.2.2; omega) ?_); intro v_ w_ S_; refine hK _ _ ?_; simp only [List.set_cons_succ, List.set_cons_zero] at S_; replace S := Aside0.mk S_; clear S_; clear fb0 fb1 fb2 fb3 fb4; obtain ⟨fb0, fb1, fb2, fb3, fb4⟩ := box5 (S.out.at_blk 0 rfl)))
          have hiq : i < qs.length := by have := hql.out; have := hii.out; have := HI.out.2.2; omega
          go_roundg (20 - (i + 1))
          case rel => exact ⟨wrap64 (ii + 1), i + 1, by first | rfl | (simp; done) | (simp [hw1]; done), ⟨by rw [hw1]; have := hii.out; omega⟩, hiq, rfl, ⟨_, ⟨S.out.drop.st, fun a ha => S.out.fr a (by simp only [List.mem_cons, List.not_mem_nil, or_false] at ha ⊢; rcases ha with h | h <;> simp [h]), S.out.old⟩⟩⟩
          case measure => have := HI.out.2.2; have := HI.out.2.1; omega
      · have hi' : i = qs.length := by have := hii.out; have := hql.out; omega
        have h1b := eq_true hin
        have h2b := eq_false hin2
        subst hi'
        obtain ⟨cells, S⟩ := hI.out
        have hk := S.fr _ (List.mem_cons_self)
        rw [List.take_of_length_le (Nat.le_refl _)] at hk
        obtain ⟨A5, c5, e5, hc5, hC5⟩ := rowP_C (S.rowAt 0 rfl) hk
        obtain ⟨A4, c4, e4, hc4, hC4⟩ := rowP_C (S.rowAt 1 rfl) hk
        have HH := Aside0.mk (⟨hc4, hC4, hc5, hC5, S.below⟩ : _ ∧ _ ∧ _ ∧ _ ∧ _)
        subst e4 e5
        clear hI S hk hc4 hC4 hc5 hC5
        go_wp2
        refine bodyPost_ret (results_tmp2 rfl _ _ _) rfl ?_
        exact ⟨A4, c4, A5, c5, rfl, HH.out⟩
    · have hi' : i = qs.length := by have := hii.out; have := hql.out; omega
      have h1b := eq_false hin
      subst hi'
      obtain ⟨cells, S⟩ := hI.out
      have hk := S.fr _ (List.mem_cons_self)
      rw [List.take_of_length_le (Nat.le_refl _)] at hk
      obtain ⟨A5, c5, e5, hc5, hC5⟩ := rowP_C (S.rowAt 0 rfl) hk
      obtain ⟨A4, c4, e4, hc4, hC4⟩ := rowP_C (S.rowAt 1 rfl) hk
      have HH := Aside0.mk (⟨hc4, hC4, hc5, hC5, S.below⟩ : _ ∧ _ ∧ _ ∧ _ ∧ _)
      subst e4 e5
      clear hI S hk hc4 hC4 hc5 hC5
      go_wp2
      refine bodyPost_ret (results_tmp2 rfl _ _ _) rfl ?_
      exact ⟨A4, c4, A5, c5, rfl, HH.out⟩
end Go.Proofs.YtnnnbeimehfiiaaDoor.Q

-- Written by a program of this session (wip/gen_mw.py, lablib.py) for this claim; Lean checks it.
/-! The labels that the laws cut. -/
set_option linter.unusedVariables false
set_option linter.unusedSimpArgs false
namespace Go.Proofs.YtnnnbeimehfiiaaDoor.Q
open Go Go.RowKit Go.Proofs.YtnnnbeimehfiiaaDoorW.PrintWords Go.Proofs.YtnnnbeimehfiiaaDoorW.PrintLast Go.Proofs.YtnnnbeimehfiiaaDoorW.PrintMore Go.Proofs.YtnnnbeimehfiiaaDoorW.SL
/-- Three labels, the first i of them cut. -/
def lab3 (s0 s1 s2 t0 t1 t2 : ByteArray) : Nat → Array Value
  | 0 => #[.string s0, .string s1, .string s2]
  | 1 => #[.string t0, .string s1, .string s2]
  | 2 => #[.string t0, .string t1, .string s2]
  | _ => #[.string t0, .string t1, .string t2]
def cutL (s : ByteArray) : ByteArray := s.extract 0 (min s.size 1000)
theorem cutL_size (s : ByteArray) : (cutL s).size ≤ 1000 := by unfold cutL; simp; omega
theorem set0S {w0 w : World} {Z : Nat → Prop} {l : List Asr} {F : List FA} {g t : Nat} {cs : Array Value} (S : Stt w0 Z (blk g t cs :: l) F w) (o : Nat) (u : Value) : Stt w0 Z (blk g t (cs.setIfInBounds o u) :: l) F (w.setCell ⟨g, o, none⟩ u) := S.of (S.st.set (i := 0) rfl o u)
theorem mn1000 (s : ByteArray) : (if (1000 : Int) < (s.size : Int) then 1000 else (s.size : Int)) = ((min s.size 1000 : Nat) : Int) := by split <;> omega
end Go.Proofs.YtnnnbeimehfiiaaDoor.Q

-- Written by a program of this session (wip/gen_same.py) for this claim; Lean checks it.
/-! scarfref18.Same at two slices that hold the same parts: true. -/
set_option linter.unusedVariables false
set_option linter.unusedSimpArgs false
namespace Go.Proofs.YtnnnbeimehfiiaaDoor.Q
open Go Go.RowKit Go.BigFrame Go.Proofs.YtnnnbeimehfiiaaDoorW.PrintWords Go.Proofs.YtnnnbeimehfiiaaDoorW.PrintLast Go.Proofs.YtnnnbeimehfiiaaDoorW.PrintMore Go.Proofs.YtnnnbeimehfiiaaDoorW.SL
set_option maxHeartbeats 16000000 in
set_option maxRecDepth 100000 in
theorem same_calls (A B : Option Addr) (c d : Nat) (xs : List Pt) (w : World) (hx : Kd.C kP w A xs.length xs) (hy : Kd.C kP w B xs.length xs) :
    Calls Tryd.prog 12 #[.slice A xs.length c, .slice B xs.length d] w fun e w' => e = .returned (.bool true) ∧ Below w.heap.size w w' := by
  have HX := Aside0.mk (Kd.C_F kP_heap hx)
  have HY := Aside0.mk (Kd.C_F kP_heap hy)
  clear hx hy
  go_enter Tryd.func12, Tryd.ntmps12
  go_wp2
  go_loopg [5] xs.length (fun kq v5 w'' => ∃ (ii : Int) (i : Nat), v5 = .int .i64 ii ∧ Aside0 (ii = (i : Int)) ∧ i ≤ xs.length ∧ kq = xs.length - i ∧ Below w.heap.size w w'')
  case atStart => exact ⟨0, 0, rfl, ⟨rfl⟩, Nat.zero_le _, rfl, Below.refl _ _⟩
  case round =>
    obtain ⟨ii, i, rfl, hii, hi, hgk, hb⟩ := hrel
    obtain ⟨wb, rfl⟩ : ∃ q, q = wr := ⟨_, rfl⟩
    by_cases hin : ii < (xs.length : Int)
    · have p0 : 0 ≤ ii := by have := hii.out; omega
      have HB := Aside0.mk hb
      obtain ⟨ad, x, A1, c1, A2, c2, A3, c3, A4, c4, rfl, hxi, hok, hx0, hx1, hx2, hx3, hx4, g1, g2, g3, g4⟩ := at_Pt (Kd.F_step HX.out (fun k hk _ => hb.block k hk)) ii p0 hin
      obtain ⟨bd, y, B1, d1, B2, d2, B3, d3, B4, d4, rfl, hyi, hok2, hy0, hy1, hy2, hy3, hy4, k1, k2, k3, k4⟩ := at_Pt (Kd.F_step HY.out (fun k hk _ => hb.block k hk)) ii p0 hin
      have exy : y = x := by rw [hxi] at hyi; exact (Option.some.inj hyi).symm
      subst exy
      have HXY := Aside0.mk (⟨hxi, hi, hgk⟩ : _ ∧ _ ∧ _)
      clear hxi hyi hi hgk hok hok2 hb
      have hcx1 := fun n => Kd.C_string (P := Tryd.prog) (w := wb.drewN n) (A := A1) (c := c1) Tryd.underlying22 Tryd.underlying5 Tryd.underlying9 (Kd.F_now (Kd.F_drewN g1.2 n))
      have hcy1 := fun n => Kd.C_string (P := Tryd.prog) (w := wb.drewN n) (A := B1) (c := d1) Tryd.underlying22 Tryd.underlying5 Tryd.underlying9 (Kd.F_now (Kd.F_drewN k1.2 n))
      have hcx2 := fun n => Kd.C_string (P := Tryd.prog) (w := wb.drewN n) (A := A2) (c := c2) Tryd.underlying22 Tryd.underlying5 Tryd.underlying9 (Kd.F_now (Kd.F_drewN g2.2 n))
      have hcy2 := fun n => Kd.C_string (P := Tryd.prog) (w := wb.drewN n) (A := B2) (c := d2) Tryd.underlying22 Tryd.underlying5 Tryd.underlying9 (Kd.F_now (Kd.F_drewN k2.2 n))
      have hcx3 := fun n => Kd.C_string (P := Tryd.prog) (w := wb.drewN n) (A := A3) (c := c3) Tryd.underlying22 Tryd.underlying5 Tryd.underlying9 (Kd.F_now (Kd.F_drewN g3.2 n))
      have hcy3 := fun n => Kd.C_string (P := Tryd.prog) (w := wb.drewN n) (A := B3) (c := d3) Tryd.underlying22 Tryd.underlying5 Tryd.underlying9 (Kd.F_now (Kd.F_drewN k3.2 n))
      have hcx4 := fun n => Kd.C_string (P := Tryd.prog) (w := wb.drewN n) (A := A4) (c := c4) Tryd.underlying22 Tryd.underlying5 Tryd.underlying9 (Kd.F_now (Kd.F_drewN g4.2 n))
      have hcy4 := fun n => Kd.C_string (P := Tryd.prog) (w := wb.drewN n) (A := B4) (c := d4) Tryd.underlying22 Tryd.underlying5 Tryd.underlying9 (Kd.F_now (Kd.F_drewN k4.2 n))
      obtain ⟨rx, hrx⟩ : ∃ q, y.region = q := ⟨_, rfl⟩
      rw [hrx] at hx0 hy0
      replace hrx := Aside0.mk hrx
      clear g1 g2 g3 g4 k1 k2 k3 k4
      have hin2 := eq_true hin
      have p02 := eq_true p0
      go_upto_region 6 with (fail)
      simp only [List.append_eq, List.cons_append, List.nil_append]
      go_big_quiet (fail)
      have hbq : Below w.heap.size w (wb.drewN nq) := HB.out.trans (pw_below_drewN (Below.refl _ _) nq)
      obtain ⟨wq, hwq⟩ : ∃ q, wb.drewN nq = q := ⟨_, rfl⟩
      rw [hwq] at hbq ⊢
      obtain ⟨_, hi, hgk⟩ := HXY.out
      have hw1 : wrap64 (ii + 1) = ii + 1 := by have := Kd.F_max HX.out; unfold wrap64; omega
      go_wp2
      go_roundg (xs.length - (i + 1))
      case rel => exact ⟨wrap64 (ii + 1), i + 1, by first | rfl | (simp; done) | (simp [hw1]; done), ⟨by rw [hw1]; have := hii.out; omega⟩, by have := hii.out; omega, rfl, hbq⟩
      case measure => have := hii.out; omega
    · have hi' : i = xs.length := by have := hii.out; omega
      go_wp2
      go_ret
      exact ⟨rfl, hb⟩
end Go.Proofs.YtnnnbeimehfiiaaDoor.Q

-- Written by a program of this session (wip/gen_write.py) for this claim; Lean checks it.
/-! mark.Write, walked. -/
set_option linter.unusedVariables false
set_option linter.unusedSimpArgs false
namespace Go.Proofs.YtnnnbeimehfiiaaDoor.Q
open Go Go.RowKit Go.Proofs.YtnnnbeimehfiiaaDoorW.PrintWords Go.Proofs.YtnnnbeimehfiiaaDoorW.PrintLast Go.Proofs.YtnnnbeimehfiiaaDoorW.PrintMore Go.Proofs.YtnnnbeimehfiiaaDoorW.SL
attribute [local go_sem] max2_int min2_int max_two min_two max_three min_three max_four min_four
set_option maxHeartbeats 16000000 in
set_option maxRecDepth 100000 in
theorem Write_calls (n : Int) (s0 s1 s2 : ByteArray) (A : Option Addr) (c : Nat) (ps : List Pt) (w : World) (hr : Kd.C kP w A ps.length ps) (hc : ps.length ≤ c) (hps : ps.length ≤ 1000) (hf : ∀ p ∈ ps, p.text.length ≤ 5000000 ∧ p.s0.length ≤ 5000000 ∧ p.s1.length ≤ 5000000 ∧ p.s2.length ≤ 5000000)
    (hs0 : s0.size ≤ 9223372036854775807) (hs1 : s1.size ≤ 9223372036854775807) (hs2 : s2.size ≤ 9223372036854775807) :
    Calls Tryd.prog 19 #[.int .i64 n, .agg #[.string s0, .string s1, .string s2], .slice A ps.length c] w fun e w' => ∃ (A' : Option Addr) (c' : Nat), e = .returned (.tuple #[.slice A' (writeOf n s0 s1 s2 ps).1.length c', .int .i64 (writeOf n s0 s1 s2 ps).2]) ∧ (writeOf n s0 s1 s2 ps).1.length ≤ c' ∧ Kd.C B8 w' A' (writeOf n s0 s1 s2 ps).1.length (writeOf n s0 s1 s2 ps).1 ∧ Below w.heap.size w w' := by
 have HX := Aside0.mk (Kd.C_F kP_heap hr)
 have HC := Aside0.mk hc; have HPS := Aside0.mk hps; have HF := Aside0.mk hf; have HS0 := Aside0.mk hs0; have HS1 := Aside0.mk hs1; have HS2 := Aside0.mk hs2
 clear hr hc hps hf hs0 hs1 hs2
 by_cases hn : n ≥ 1 ∧ n ≤ 16777216
 · have hright : mark_right.f n = some true := by unfold mark_right.f; rw [if_pos hn.1]; simp [hn.2]
   obtain ⟨N, hN⟩ := Int.eq_ofNat_of_zero_le (by omega : 0 ≤ n)
   have hN1 : 1 ≤ N := by omega
   have hN2 : N ≤ 16777216 := by omega
   have hres : writeOf n s0 s1 s2 ps = (wrAll N s0 s1 s2 ps [], 0) := by unfold writeOf; rw [if_pos hn, hN]; rfl
   obtain ⟨R, hR⟩ : ∃ R, wrAll N s0 s1 s2 ps [] = R := ⟨_, rfl⟩
   rw [hres, hR]
   have HRT := Aside0.mk hright
   clear hres hn hright
   subst hN
   replace hR := Aside0.mk hR
   replace hN1 := Aside0.mk hN1
   replace hN2 := Aside0.mk hN2
   go_enter Tryd.func19, Tryd.ntmps19
   go_wp2_with (go_at_call 24; refine (mark_right.calls _ true _ HRT.out).mono ?_; rintro e w2 ⟨rfl, hb1⟩; replace hb1 := drawn_below hb1)
   have hlt2 : w.heap.size < w2.heap.size := by have := hb1.size; simp at this; omega
   have hbA0 : Below w.heap.size w w2 := (below_alloc (Below.refl _ _) _).trans (below_lo hb1 (by simp))
   have hlb : w2.heap[w.heap.size]? = some (.cells #[.string s0, .string s1, .string s2] 39 (0, 0)) := (hb1.block _ (by simp)).trans (heap_alloc_new w _)
   obtain ⟨pb, hpb⟩ : ∃ pb, pb = w2.heap.size := ⟨_, rfl⟩
   obtain ⟨lb, hlb0⟩ : ∃ lb, lb = w.heap.size := ⟨_, rfl⟩
   obtain ⟨wA, hwA⟩ : ∃ wA, wA = w2.alloc (Obj.cells #[Value.slice none 0 0, Value.int IntKind.i64 0, Value.int IntKind.i8 0] 73) := ⟨_, rfl⟩
   have hPg0 : Pg pb pb [] wA := LibA.zero_isBuffer (Nat.le_refl _) (LibA.three_whole (by rw [hwA, hpb]; exact heap_alloc_new w2 _))
   have hbA : Below w.heap.size w wA := by rw [hwA]; exact hbA0.trans (below_lo (below_alloc (Below.refl _ _) _) hbA0.size)
   have hlbA : wA.heap[lb]? = some (.cells #[.string s0, .string s1, .string s2] 39 (0, 0)) := by rw [hwA, hlb0]; exact ((below_alloc (Below.refl w2.heap.size w2) _).block _ hlt2).trans hlb
   have hsA : pb < wA.heap.size := by rw [hwA, hpb]; simp
   have hpw : w.heap.size ≤ pb ∧ lb < pb := by omega
   rw [← hpb, ← hwA, ← hlb0]
   have HA := Aside0.mk (⟨hPg0, hbA, hlbA, hsA, hpw⟩ : _ ∧ _ ∧ _ ∧ _ ∧ _)
   clear hlt2 hbA0 hlb hPg0 hbA hlbA hsA hpw hwA hpb hb1 hlb0
   go_loopg [16] ps.length (fun kq v16 W => ∃ (ii : Int) (i : Nat) (acc : List Int), v16 = .int .i64 ii ∧ Aside0 (ii = (i : Int)) ∧ i ≤ ps.length ∧ kq = ps.length - i ∧ Aside0 (wrAll N s0 s1 s2 (ps.drop i) acc = R) ∧ Aside0 (acc.length ≤ i * 200000000) ∧ Aside0 (Pg pb pb acc W ∧ Below pb wA W))
   case atStart => exact ⟨0, 0, [], rfl, ⟨rfl⟩, Nat.zero_le _, rfl, hR, ⟨Nat.le_refl _⟩, ⟨HA.out.1, Below.refl _ _⟩⟩
   case round =>
    obtain ⟨ii, i, acc, rfl, hii, hi, hgk, hall, hal, hI⟩ := hrel
    obtain ⟨wb, rfl⟩ : ∃ q, q = wr := ⟨_, rfl⟩
    by_cases hin : ii < (ps.length : Int)
    · have p0 : 0 ≤ ii := by have := hii.out; omega
      have hbw : Below w.heap.size w wb := HA.out.2.1.trans (below_lo hI.out.2 HA.out.2.2.2.2.1)
      obtain ⟨ad, x, A1, c1, A2, c2, A3, c3, A4, c4, rfl, hxi, hok, hx0, hx1, hx2, hx3, hx4, g1, g2, g3, g4⟩ := at_Pt (Kd.F_step HX.out (fun k hk _ => hbw.block k hk)) ii p0 hin
      have e0 : ii.toNat = i := by have := hii.out; omega
      rw [e0] at hxi
      have hxm := HF.out x (List.mem_of_getElem? hxi)
      have hsz : wA.heap.size ≤ wb.heap.size := hI.out.2.size
      have hg : pb < wb.heap.size := Nat.lt_of_lt_of_le HA.out.2.2.2.1 hsz
      have hw1 : wrap64 (ii + 1) = ii + 1 := by have := hii.out; have := HPS.out; unfold wrap64; omega
      have hw2 : wrap64 ((ps.length : Int) - 1) = (ps.length : Int) - 1 := by have := HPS.out; unfold wrap64; omega
      have G := Aside0.mk (⟨g1, g2, g3, g4, hxi, hxm, hg, hi, hgk⟩ : _ ∧ _ ∧ _ ∧ _ ∧ _ ∧ _ ∧ _ ∧ _ ∧ _)
      have hinb := eq_true hin
      have p0b := eq_true p0
      obtain ⟨rg, T, S0, S1, S2⟩ := x
      simp only at hx0 hx1 hx2 hx3 hx4
      replace e0 := Aside0.mk e0
      have hbw' := Aside0.mk hbw
      clear g1 g2 g3 g4 hxi hok hxm hsz hg hbw hi hgk
      cases rg with
      | false =>
        by_cases hlast : i + 1 = ps.length
        · have hcl := eq_false (show ¬ ii < (ps.length : Int) - 1 by have := hii.out; omega)
          have hcl2 := eq_true (show (ps.length : Int) - 1 ≤ ii by have := hii.out; omega)
          have hnext : wrAll N s0 s1 s2 (ps.drop (i + 1)) (acc ++ T) = R := by
            have := wrAll_next hall.out G.out.2.2.2.2.1
            simpa [wrPart, hlast] using this
          replace hnext := Aside0.mk hnext
          go_upto_region 7 with (fail)
          have FACT := Aside0.mk (Rd3.of (w := w) (wA := wA) (lb := lb) (g := wb.heap.size) (p := ⟨false, T, S0, S1, S2⟩) HA.out.2.2.1 HA.out.2.2.2.2.2 (heap_alloc_new wb _) (by have := G.out.2.2.2.2.2.2.1; omega) HA.out.2.2.2.2.1 (hI.out.2.trans (below_lo (below_alloc (Below.refl _ _) (Obj.cells #[Value.bool false, Value.slice A1 T.length c1, Value.slice A2 S0.length c2, Value.slice A3 S1.length c3, Value.slice A4 S2.length c4] 50)) (by have := G.out.2.2.2.2.2.2.1; omega)))
            (Kd.F_step G.out.1.2 (fun k hk hl => (below_alloc (Below.refl wb.heap.size wb) _).block k hl)) (Kd.F_step G.out.2.1.2 (fun k hk hl => (below_alloc (Below.refl wb.heap.size wb) _).block k hl)) (Kd.F_step G.out.2.2.1.2 (fun k hk hl => (below_alloc (Below.refl wb.heap.size wb) _).block k hl)) (Kd.F_step G.out.2.2.2.1.2 (fun k hk hl => (below_alloc (Below.refl wb.heap.size wb) _).block k hl)))
          have P : Aside0 (Pq pb (i * 200000000) acc (wb.alloc (Obj.cells #[Value.bool false, Value.slice A1 T.length c1, Value.slice A2 S0.length c2, Value.slice A3 S1.length c3, Value.slice A4 S2.length c4] 50))) := ⟨hI.out.1.below (below_alloc (Below.refl _ _) _), by have := G.out.2.2.2.2.2.2.1; simp; omega, hal.out⟩
          have hi3 : i ≤ 1000 := Nat.le_trans G.out.2.2.2.2.2.2.2.1 HPS.out
          generalize wb.alloc (Obj.cells #[Value.bool false, Value.slice A1 T.length c1, Value.slice A2 S0.length c2, Value.slice A3 S1.length c3, Value.slice A4 S2.length c4] 50) = w1 at FACT P ⊢
          have K := Aside0.mk (Pk.refl pb pb w1)
          have FX := Aside0.mk (FACT.out _ K.out)
          have fl0 := FX.out.l0
          have fl1 := FX.out.l1
          have fl2 := FX.out.l2
          have fb0 := FX.out.b0
          have fb1 := FX.out.b1
          have fb2 := FX.out.b2
          have fb3 := FX.out.b3
          have fb4 := FX.out.b4
          simp only at fb0 fb1 fb2 fb3 fb4
          clear hx0 hx1 hx2 hx3 hx4
          go_wp2_with (first | (go_at_call 36; refine (marker_st P.out _ N _ hN2.out (by first | exact HS0.out | exact HS1.out | exact HS2.out | decide) (by omega)).mono ?_; rintro e wN ⟨rfl, hp, hk⟩; replace K := Aside0.mk (K.out.trans hk); replace P := Aside0.mk hp; replace FX := Aside0.mk (FACT.out _ K.out); clear hp hk; clear fl0 fl1 fl2 fb0 fb1 fb2 fb3 fb4; have fl0 := FX.out.l0; have fl1 := FX.out.l1; have fl2 := FX.out.l2; have fb0 := FX.out.b0; have fb1 := FX.out.b1; have fb2 := FX.out.b2; have fb3 := FX.out.b3; have fb4 := FX.out.b4; simp only at fb0 fb1 fb2 fb3 fb4) | (go_at_call 37; refine (lines_st P.out _ _ _ (by first | exact FX.out.h2 | exact FX.out.h3 | exact FX.out.h4) (by first | exact row_apart G.out.2.1.2 HA.out.2.2.2.2.1 | exact row_apart G.out.2.2.1.2 HA.out.2.2.2.2.1 | exact row_apart G.out.2.2.2.1.2 HA.out.2.2.2.2.1) (by have := G.out.2.2.2.2.2.1; first | exact this.2.1 | exact this.2.2.1 | exact this.2.2.2) (by omega)).mono ?_; rintro e wN ⟨rfl, hp, hk⟩; replace K := Aside0.mk (K.out.trans hk); replace P := Aside0.mk hp; replace FX := Aside0.mk (FACT.out _ K.out); clear hp hk; clear fl0 fl1 fl2 fb0 fb1 fb2 fb3 fb4; have fl0 := FX.out.l0; have fl1 := FX.out.l1; have fl2 := FX.out.l2; have fb0 := FX.out.b0; have fb1 := FX.out.b1; have fb2 := FX.out.b2; have fb3 := FX.out.b3; have fb4 := FX.out.b4; simp only at fb0 fb1 fb2 fb3 fb4) | (go_at_call 34; refine (write_st P.out _ _ _ FX.out.h1 (row_apart G.out.1.2 HA.out.2.2.2.2.1) G.out.2.2.2.2.2.1.1 (by omega)).mono ?_; rintro e wN ⟨rfl, hp, hk⟩; replace K := Aside0.mk (K.out.trans hk); replace P := Aside0.mk hp; replace FX := Aside0.mk (FACT.out _ K.out); clear hp hk; clear fl0 fl1 fl2 fb0 fb1 fb2 fb3 fb4; have fl0 := FX.out.l0; have fl1 := FX.out.l1; have fl2 := FX.out.l2; have fb0 := FX.out.b0; have fb1 := FX.out.b1; have fb2 := FX.out.b2; have fb3 := FX.out.b3; have fb4 := FX.out.b4; simp only at fb0 fb1 fb2 fb3 fb4) | (go_at_call 35; refine (shut_st P.out (by omega)).mono ?_; rintro e wN ⟨rfl, hp, hk⟩; replace K := Aside0.mk (K.out.trans hk); replace P := Aside0.mk hp; replace FX := Aside0.mk (FACT.out _ K.out); clear hp hk; clear fl0 fl1 fl2 fb0 fb1 fb2 fb3 fb4; have fl0 := FX.out.l0; have fl1 := FX.out.l1; have fl2 := FX.out.l2; have fb0 := FX.out.b0; have fb1 := FX.out.b1; have fb2 := FX.out.b2; have fb3 := FX.out.b3; have fb4 := FX.out.b4; simp only at fb0 fb1 fb2 fb3 fb4))
          go_roundg (ps.length - (i + 1))
          case rel => exact ⟨wrap64 (ii + 1), i + 1, _, by first | rfl | (simp; done) | (simp [hw1]; done), ⟨by rw [hw1]; have := hii.out; omega⟩, by have := hii.out; omega, rfl, Aside0.mk hnext.out, ⟨Nat.le_trans P.out.2.2 (by omega)⟩, ⟨P.out.1, FX.out.bA⟩⟩
          case measure => have := hii.out; have := G.out.2.2.2.2.2.2.2.2; omega
        · have hcl := eq_true (show ii < (ps.length : Int) - 1 by have := hii.out; omega)
          have hnext : wrAll N s0 s1 s2 (ps.drop (i + 1)) (endNl (acc ++ T)) = R := by
            have := wrAll_next hall.out G.out.2.2.2.2.1
            simpa [wrPart, hlast] using this
          replace hnext := Aside0.mk hnext
          go_upto_region 7 with (fail)
          have FACT := Aside0.mk (Rd3.of (w := w) (wA := wA) (lb := lb) (g := wb.heap.size) (p := ⟨false, T, S0, S1, S2⟩) HA.out.2.2.1 HA.out.2.2.2.2.2 (heap_alloc_new wb _) (by have := G.out.2.2.2.2.2.2.1; omega) HA.out.2.2.2.2.1 (hI.out.2.trans (below_lo (below_alloc (Below.refl _ _) (Obj.cells #[Value.bool false, Value.slice A1 T.length c1, Value.slice A2 S0.length c2, Value.slice A3 S1.length c3, Value.slice A4 S2.length c4] 50)) (by have := G.out.2.2.2.2.2.2.1; omega)))
            (Kd.F_step G.out.1.2 (fun k hk hl => (below_alloc (Below.refl wb.heap.size wb) _).block k hl)) (Kd.F_step G.out.2.1.2 (fun k hk hl => (below_alloc (Below.refl wb.heap.size wb) _).block k hl)) (Kd.F_step G.out.2.2.1.2 (fun k hk hl => (below_alloc (Below.refl wb.heap.size wb) _).block k hl)) (Kd.F_step G.out.2.2.2.1.2 (fun k hk hl => (below_alloc (Below.refl wb.heap.size wb) _).block k hl)))
          have P : Aside0 (Pq pb (i * 200000000) acc (wb.alloc (Obj.cells #[Value.bool false, Value.slice A1 T.length c1, Value.slice A2 S0.length c2, Value.slice A3 S1.length c3, Value.slice A4 S2.length c4] 50))) := ⟨hI.out.1.below (below_alloc (Below.refl _ _) _), by have := G.out.2.2.2.2.2.2.1; simp; omega, hal.out⟩
          have hi3 : i ≤ 1000 := Nat.le_trans G.out.2.2.2.2.2.2.2.1 HPS.out
          generalize wb.alloc (Obj.cells #[Value.bool false, Value.slice A1 T.length c1, Value.slice A2 S0.length c2, Value.slice A3 S1.length c3, Value.slice A4 S2.length c4] 50) = w1 at FACT P ⊢
          have K := Aside0.mk (Pk.refl pb pb w1)
          have FX := Aside0.mk (FACT.out _ K.out)
          have fl0 := FX.out.l0
          have fl1 := FX.out.l1
          have fl2 := FX.out.l2
          have fb0 := FX.out.b0
          have fb1 := FX.out.b1
          have fb2 := FX.out.b2
          have fb3 := FX.out.b3
          have fb4 := FX.out.b4
          simp only at fb0 fb1 fb2 fb3 fb4
          clear hx0 hx1 hx2 hx3 hx4
          go_wp2_with (first | (go_at_call 36; refine (marker_st P.out _ N _ hN2.out (by first | exact HS0.out | exact HS1.out | exact HS2.out | decide) (by omega)).mono ?_; rintro e wN ⟨rfl, hp, hk⟩; replace K := Aside0.mk (K.out.trans hk); replace P := Aside0.mk hp; replace FX := Aside0.mk (FACT.out _ K.out); clear hp hk; clear fl0 fl1 fl2 fb0 fb1 fb2 fb3 fb4; have fl0 := FX.out.l0; have fl1 := FX.out.l1; have fl2 := FX.out.l2; have fb0 := FX.out.b0; have fb1 := FX.out.b1; have fb2 := FX.out.b2; have fb3 := FX.out.b3; have fb4 := FX.out.b4; simp only at fb0 fb1 fb2 fb3 fb4) | (go_at_call 37; refine (lines_st P.out _ _ _ (by first | exact FX.out.h2 | exact FX.out.h3 | exact FX.out.h4) (by first | exact row_apart G.out.2.1.2 HA.out.2.2.2.2.1 | exact row_apart G.out.2.2.1.2 HA.out.2.2.2.2.1 | exact row_apart G.out.2.2.2.1.2 HA.out.2.2.2.2.1) (by have := G.out.2.2.2.2.2.1; first | exact this.2.1 | exact this.2.2.1 | exact this.2.2.2) (by omega)).mono ?_; rintro e wN ⟨rfl, hp, hk⟩; replace K := Aside0.mk (K.out.trans hk); replace P := Aside0.mk hp; replace FX := Aside0.mk (FACT.out _ K.out); clear hp hk; clear fl0 fl1 fl2 fb0 fb1 fb2 fb3 fb4; have fl0 := FX.out.l0; have fl1 := FX.out.l1; have fl2 := FX.out.l2; have fb0 := FX.out.b0; have fb1 := FX.out.b1; have fb2 := FX.out.b2; have fb3 := FX.out.b3; have fb4 := FX.out.b4; simp only at fb0 fb1 fb2 fb3 fb4) | (go_at_call 34; refine (write_st P.out _ _ _ FX.out.h1 (row_apart G.out.1.2 HA.out.2.2.2.2.1) G.out.2.2.2.2.2.1.1 (by omega)).mono ?_; rintro e wN ⟨rfl, hp, hk⟩; replace K := Aside0.mk (K.out.trans hk); replace P := Aside0.mk hp; replace FX := Aside0.mk (FACT.out _ K.out); clear hp hk; clear fl0 fl1 fl2 fb0 fb1 fb2 fb3 fb4; have fl0 := FX.out.l0; have fl1 := FX.out.l1; have fl2 := FX.out.l2; have fb0 := FX.out.b0; have fb1 := FX.out.b1; have fb2 := FX.out.b2; have fb3 := FX.out.b3; have fb4 := FX.out.b4; simp only at fb0 fb1 fb2 fb3 fb4) | (go_at_call 35; refine (shut_st P.out (by omega)).mono ?_; rintro e wN ⟨rfl, hp, hk⟩; replace K := Aside0.mk (K.out.trans hk); replace P := Aside0.mk hp; replace FX := Aside0.mk (FACT.out _ K.out); clear hp hk; clear fl0 fl1 fl2 fb0 fb1 fb2 fb3 fb4; have fl0 := FX.out.l0; have fl1 := FX.out.l1; have fl2 := FX.out.l2; have fb0 := FX.out.b0; have fb1 := FX.out.b1; have fb2 := FX.out.b2; have fb3 := FX.out.b3; have fb4 := FX.out.b4; simp only at fb0 fb1 fb2 fb3 fb4))
          go_roundg (ps.length - (i + 1))
          case rel => exact ⟨wrap64 (ii + 1), i + 1, _, by first | rfl | (simp; done) | (simp [hw1]; done), ⟨by rw [hw1]; have := hii.out; omega⟩, by have := hii.out; omega, rfl, Aside0.mk hnext.out, ⟨Nat.le_trans P.out.2.2 (by omega)⟩, ⟨P.out.1, FX.out.bA⟩⟩
          case measure => have := hii.out; have := G.out.2.2.2.2.2.2.2.2; omega
      | true =>
        have hnext : wrAll N s0 s1 s2 (ps.drop (i + 1)) (wrReg N s0 s1 s2 acc ⟨true, T, S0, S1, S2⟩) = R := by
          have := wrAll_next hall.out G.out.2.2.2.2.1
          simpa [wrPart] using this
        replace hnext := Aside0.mk hnext
        unfold wrReg at hnext
        go_upto_region 7 with (fail)
        have FACT := Aside0.mk (Rd3.of (w := w) (wA := wA) (lb := lb) (g := wb.heap.size) (p := ⟨true, T, S0, S1, S2⟩) HA.out.2.2.1 HA.out.2.2.2.2.2 (heap_alloc_new wb _) (by have := G.out.2.2.2.2.2.2.1; omega) HA.out.2.2.2.2.1 (hI.out.2.trans (below_lo (below_alloc (Below.refl _ _) (Obj.cells #[Value.bool true, Value.slice A1 T.length c1, Value.slice A2 S0.length c2, Value.slice A3 S1.length c3, Value.slice A4 S2.length c4] 50)) (by have := G.out.2.2.2.2.2.2.1; omega)))
          (Kd.F_step G.out.1.2 (fun k hk hl => (below_alloc (Below.refl wb.heap.size wb) _).block k hl)) (Kd.F_step G.out.2.1.2 (fun k hk hl => (below_alloc (Below.refl wb.heap.size wb) _).block k hl)) (Kd.F_step G.out.2.2.1.2 (fun k hk hl => (below_alloc (Below.refl wb.heap.size wb) _).block k hl)) (Kd.F_step G.out.2.2.2.1.2 (fun k hk hl => (below_alloc (Below.refl wb.heap.size wb) _).block k hl)))
        have P : Aside0 (Pq pb (i * 200000000) acc (wb.alloc (Obj.cells #[Value.bool true, Value.slice A1 T.length c1, Value.slice A2 S0.length c2, Value.slice A3 S1.length c3, Value.slice A4 S2.length c4] 50))) := ⟨hI.out.1.below (below_alloc (Below.refl _ _) _), by have := G.out.2.2.2.2.2.2.1; simp; omega, hal.out⟩
        have hi3 : i ≤ 1000 := Nat.le_trans G.out.2.2.2.2.2.2.2.1 HPS.out
        generalize wb.alloc (Obj.cells #[Value.bool true, Value.slice A1 T.length c1, Value.slice A2 S0.length c2, Value.slice A3 S1.length c3, Value.slice A4 S2.length c4] 50) = w1 at FACT P ⊢
        have K := Aside0.mk (Pk.refl pb pb w1)
        have FX := Aside0.mk (FACT.out _ K.out)
        have fl0 := FX.out.l0
        have fl1 := FX.out.l1
        have fl2 := FX.out.l2
        have fb0 := FX.out.b0
        have fb1 := FX.out.b1
        have fb2 := FX.out.b2
        have fb3 := FX.out.b3
        have fb4 := FX.out.b4
        simp only at fb0 fb1 fb2 fb3 fb4
        clear hx0 hx1 hx2 hx3 hx4
        go_wp2_with (first | (go_at_call 36; refine (marker_st P.out _ N _ hN2.out (by first | exact HS0.out | exact HS1.out | exact HS2.out | decide) (by omega)).mono ?_; rintro e wN ⟨rfl, hp, hk⟩; replace K := Aside0.mk (K.out.trans hk); replace P := Aside0.mk hp; replace FX := Aside0.mk (FACT.out _ K.out); clear hp hk; clear fl0 fl1 fl2 fb0 fb1 fb2 fb3 fb4; have fl0 := FX.out.l0; have fl1 := FX.out.l1; have fl2 := FX.out.l2; have fb0 := FX.out.b0; have fb1 := FX.out.b1; have fb2 := FX.out.b2; have fb3 := FX.out.b3; have fb4 := FX.out.b4; simp only at fb0 fb1 fb2 fb3 fb4) | (go_at_call 37; refine (lines_st P.out _ _ _ (by first | exact FX.out.h2 | exact FX.out.h3 | exact FX.out.h4) (by first | exact row_apart G.out.2.1.2 HA.out.2.2.2.2.1 | exact row_apart G.out.2.2.1.2 HA.out.2.2.2.2.1 | exact row_apart G.out.2.2.2.1.2 HA.out.2.2.2.2.1) (by have := G.out.2.2.2.2.2.1; first | exact this.2.1 | exact this.2.2.1 | exact this.2.2.2) (by omega)).mono ?_; rintro e wN ⟨rfl, hp, hk⟩; replace K := Aside0.mk (K.out.trans hk); replace P := Aside0.mk hp; replace FX := Aside0.mk (FACT.out _ K.out); clear hp hk; clear fl0 fl1 fl2 fb0 fb1 fb2 fb3 fb4; have fl0 := FX.out.l0; have fl1 := FX.out.l1; have fl2 := FX.out.l2; have fb0 := FX.out.b0; have fb1 := FX.out.b1; have fb2 := FX.out.b2; have fb3 := FX.out.b3; have fb4 := FX.out.b4; simp only at fb0 fb1 fb2 fb3 fb4) | (go_at_call 34; refine (write_st P.out _ _ _ FX.out.h1 (row_apart G.out.1.2 HA.out.2.2.2.2.1) G.out.2.2.2.2.2.1.1 (by omega)).mono ?_; rintro e wN ⟨rfl, hp, hk⟩; replace K := Aside0.mk (K.out.trans hk); replace P := Aside0.mk hp; replace FX := Aside0.mk (FACT.out _ K.out); clear hp hk; clear fl0 fl1 fl2 fb0 fb1 fb2 fb3 fb4; have fl0 := FX.out.l0; have fl1 := FX.out.l1; have fl2 := FX.out.l2; have fb0 := FX.out.b0; have fb1 := FX.out.b1; have fb2 := FX.out.b2; have fb3 := FX.out.b3; have fb4 := FX.out.b4; simp only at fb0 fb1 fb2 fb3 fb4) | (go_at_call 35; refine (shut_st P.out (by omega)).mono ?_; rintro e wN ⟨rfl, hp, hk⟩; replace K := Aside0.mk (K.out.trans hk); replace P := Aside0.mk hp; replace FX := Aside0.mk (FACT.out _ K.out); clear hp hk; clear fl0 fl1 fl2 fb0 fb1 fb2 fb3 fb4; have fl0 := FX.out.l0; have fl1 := FX.out.l1; have fl2 := FX.out.l2; have fb0 := FX.out.b0; have fb1 := FX.out.b1; have fb2 := FX.out.b2; have fb3 := FX.out.b3; have fb4 := FX.out.b4; simp only at fb0 fb1 fb2 fb3 fb4))
        go_roundg (ps.length - (i + 1))
        case rel => exact ⟨wrap64 (ii + 1), i + 1, _, by first | rfl | (simp; done) | (simp [hw1]; done), ⟨by rw [hw1]; have := hii.out; omega⟩, by have := hii.out; omega, rfl, Aside0.mk hnext.out, ⟨Nat.le_trans P.out.2.2 (by omega)⟩, ⟨P.out.1, FX.out.bA⟩⟩
        case measure => have := hii.out; have := G.out.2.2.2.2.2.2.2.2; omega
    · have hi' : i = ps.length := by have := hii.out; omega
      have hacc : acc = R := by have := hall.out; rw [hi', List.drop_of_length_le (Nat.le_refl _)] at this; exact this
      subst hacc
      have hlen : acc.length ≤ 140737488355328 := by have := hal.out; have := HPS.out; omega
      replace hlen := Aside0.mk hlen
      clear hi'
      go_wp2_with (go_at_call 38; refine (out_calls pb pb acc wb hI.out.1 hlen.out).mono ?_; rintro e w5 ⟨A5, c5, rfl, hc5, hC5, hb5⟩; have HH := Aside0.mk (⟨hc5, hC5, hb5⟩ : _ ∧ _ ∧ _); clear hc5 hC5 hb5)
      refine bodyPost_ret (results_tmp2 rfl _ _ _) rfl ?_
      refine ⟨A5, c5, rfl, HH.out.1, HH.out.2.1, ?_⟩
      have hbw : Below w.heap.size w wb := HA.out.2.1.trans (below_lo hI.out.2 HA.out.2.2.2.2.1)
      exact hbw.trans (below_lo HH.out.2.2 hbw.size)
 · have hright : mark_right.f n = some false := by
     unfold mark_right.f
     by_cases h : n ≥ 1
     · rw [if_pos h]; have : ¬ n ≤ 16777216 := fun h2 => hn ⟨h, h2⟩; simp [this]
     · rw [if_neg h]
   have hres : writeOf n s0 s1 s2 ps = ([], 1) := by unfold writeOf; rw [if_neg hn]
   rw [hres]
   clear hn hres
   go_enter Tryd.func19, Tryd.ntmps19
   go_wp2_with (go_at_call 24; refine (mark_right.calls _ false _ hright).mono ?_; rintro e w1 ⟨rfl, hb1⟩; replace hb1 := drawn_below hb1)
   refine bodyPost_ret (results_tmp2 rfl _ _ _) rfl ?_
   exact ⟨none, 0, rfl, Nat.zero_le _, Kd.C_nil B8 _, (below_alloc (Below.refl _ _) _).trans (below_lo hb1 (by simp))⟩
end Go.Proofs.YtnnnbeimehfiiaaDoor.Q

/-! The chapter's example in plain Lean. -/
set_option linter.unusedVariables false
namespace Go.Proofs.YtnnnbeimehfiiaaDoor.Q
open Go Go.RowKit Go.Proofs.YtnnnbeimehfiiaaDoorW.PrintWords Go.Proofs.YtnnnbeimehfiiaaDoorW.SL
def knP : Pt := ⟨true, [], [120], [121], [122]⟩
def knT : List Int := [60, 60, 60, 60, 60, 60, 60, 32, 97, 10, 120, 10, 124, 124, 124, 124, 124, 124, 124, 32, 98, 10, 121, 10, 61, 61, 61, 61, 61, 61, 61, 10, 122, 10, 62, 62, 62, 62, 62, 62, 62, 32, 99, 10]
def knQ : Pt := ⟨true, [], [120, 10], [121, 10], [122, 10]⟩
theorem kn_w : writeOf 7 ⟨#[97]⟩ ⟨#[98]⟩ ⟨#[99]⟩ [knP] = (knT, 0) := by kernel_rfl
theorem kn_r : readOf 7 knT = ([knQ], 0) := by kernel_rfl
theorem kn_e : readOf 7 [60, 60, 60, 60, 60, 60, 60, 10] = ([], 5) := by kernel_rfl
end Go.Proofs.YtnnnbeimehfiiaaDoor.Q

-- Written by a program of this session (wip/gen_kn.py) for this claim; Lean checks it.
/-! known, walked. -/
set_option linter.unusedVariables false
set_option linter.unusedSimpArgs false
namespace Go.Proofs.YtnnnbeimehfiiaaDoor.Q
open Go Go.RowKit Go.Proofs.YtnnnbeimehfiiaaDoorW.PrintWords Go.Proofs.YtnnnbeimehfiiaaDoorW.PrintLast Go.Proofs.YtnnnbeimehfiiaaDoorW.PrintMore Go.Proofs.YtnnnbeimehfiiaaDoorW.SL
attribute [local go_sem] max2_int min2_int max_two min_two max_three min_three max_four min_four
theorem kn_b : ∀ x ∈ knT, byte x := by intro x hx; simp only [knT, List.mem_cons, List.not_mem_nil, or_false] at hx; unfold byte; omega
theorem kn_b2 : ∀ x ∈ ([60, 60, 60, 60, 60, 60, 60, 10] : List Int), byte x := by intro x hx; simp only [List.mem_cons, List.not_mem_nil, or_false] at hx; unfold byte; omega
theorem kn_s : strOfNums knT = (⟨#[60, 60, 60, 60, 60, 60, 60, 32, 97, 10, 120, 10, 124, 124, 124, 124, 124, 124, 124, 32, 98, 10, 121, 10, 61, 61, 61, 61, 61, 61, 61, 10, 122, 10, 62, 62, 62, 62, 62, 62, 62, 32, 99, 10]⟩ : ByteArray) := by kernel_rfl
theorem kn_s2 : strOfNums [122, 10] = (⟨#[122, 10]⟩ : ByteArray) := by kernel_rfl
theorem five_at (w : World) (o1 o2 o3 o4 o5 : Obj) : (((((w.alloc o1).alloc o2).alloc o3).alloc o4).alloc o5).heap[w.heap.size]? = some o1 ∧ (((((w.alloc o1).alloc o2).alloc o3).alloc o4).alloc o5).heap[w.heap.size + 1]? = some o2 ∧ (((((w.alloc o1).alloc o2).alloc o3).alloc o4).alloc o5).heap[w.heap.size + 1 + 1]? = some o3 ∧ (((((w.alloc o1).alloc o2).alloc o3).alloc o4).alloc o5).heap[w.heap.size + 1 + 1 + 1 + 1]? = some o5 ∧ Below w.heap.size w (((((w.alloc o1).alloc o2).alloc o3).alloc o4).alloc o5) ∧ w.heap.size ≤ (((((w.alloc o1).alloc o2).alloc o3).alloc o4).alloc o5).heap.size := by
  have z1 : (w.alloc o1).heap.size = w.heap.size + 1 := by simp
  obtain ⟨w1, h1⟩ : ∃ w1, w.alloc o1 = w1 := ⟨_, rfl⟩
  have e1 : w1.heap[w.heap.size]? = some o1 := by rw [← h1]; exact heap_alloc_new w o1
  have b1 : Below w.heap.size w w1 := by rw [← h1]; exact below_alloc (Below.refl _ _) _
  rw [h1] at z1 ⊢
  have z2 : (w1.alloc o2).heap.size = w.heap.size + 1 + 1 := by simp [z1]
  obtain ⟨w2, h2⟩ : ∃ w2, w1.alloc o2 = w2 := ⟨_, rfl⟩
  have e2 : w2.heap[w.heap.size + 1]? = some o2 := by rw [← h2, ← z1]; exact heap_alloc_new w1 o2
  have b2 : Below w1.heap.size w1 w2 := by rw [← h2]; exact below_alloc (Below.refl _ _) _
  rw [h2] at z2 ⊢
  have z3 : (w2.alloc o3).heap.size = w.heap.size + 1 + 1 + 1 := by simp [z2]
  obtain ⟨w3, h3⟩ : ∃ w3, w2.alloc o3 = w3 := ⟨_, rfl⟩
  have e3 : w3.heap[w.heap.size + 1 + 1]? = some o3 := by rw [← h3, ← z2]; exact heap_alloc_new w2 o3
  have b3 : Below w2.heap.size w2 w3 := by rw [← h3]; exact below_alloc (Below.refl _ _) _
  rw [h3] at z3 ⊢
  have z4 : (w3.alloc o4).heap.size = w.heap.size + 1 + 1 + 1 + 1 := by simp [z3]
  obtain ⟨w4, h4⟩ : ∃ w4, w3.alloc o4 = w4 := ⟨_, rfl⟩
  have b4 : Below w3.heap.size w3 w4 := by rw [← h4]; exact below_alloc (Below.refl _ _) _
  rw [h4] at z4 ⊢
  obtain ⟨w5, h5⟩ : ∃ w5, w4.alloc o5 = w5 := ⟨_, rfl⟩
  have e5 : w5.heap[w.heap.size + 1 + 1 + 1 + 1]? = some o5 := by rw [← h5, ← z4]; exact heap_alloc_new w4 o5
  have b5 : Below w4.heap.size w4 w5 := by rw [← h5]; exact below_alloc (Below.refl _ _) _
  rw [h5]
  have s5 := b5.size
  refine ⟨?_, ?_, ?_, e5, ?_, by omega⟩
  · rw [b5.block _ (by omega), b4.block _ (by omega), b3.block _ (by omega), b2.block _ (by omega)]; exact e1
  · rw [b5.block _ (by omega), b4.block _ (by omega), b3.block _ (by omega)]; exact e2
  · rw [b5.block _ (by omega), b4.block _ (by omega)]; exact e3
  · exact (((b1.trans (below_lo b2 (by omega))).trans (below_lo b3 (by omega))).trans (below_lo b4 (by omega))).trans (below_lo b5 (by omega))
theorem kn_C {W : World} {g a1 a2 a3 t : Nat} (h : W.heap[g]? = some (.cells #[.bool true, .slice none 0 0, .slice (some ⟨a1, 0, none⟩) 1 1, .slice (some ⟨a2, 0, none⟩) 1 1, .slice (some ⟨a3, 0, none⟩) 1 1] t (0, 0))) (h1 : W.heap[a1]? = some (.cells #[.int .u8 120] 5 (1, 2))) (h2 : W.heap[a2]? = some (.cells #[.int .u8 121] 5 (1, 2))) (h3 : W.heap[a3]? = some (.cells #[.int .u8 122] 5 (1, 2))) :
    Kd.C kP W (some ⟨g, 0, none⟩) [knP].length [knP] := by
  refine ⟨rfl, by decide, fun _ => ⟨_, rfl, fun j x hj => ?_⟩⟩
  cases j with
  | zero =>
    simp only [List.getElem?_cons_zero, Option.some.injEq] at hj
    subst hj
    refine ⟨_, by rfl, kP_mk W knP (A1 := none) (c1 := 0) (A2 := some ⟨a1, 0, none⟩) (c2 := 1) (A3 := some ⟨a2, 0, none⟩) (c3 := 1) (A4 := some ⟨a3, 0, none⟩) (c4 := 1) ⟨Nat.le_refl _, Kd.C_nil B8 _⟩ ⟨Nat.le_refl _, lit_C (cs := [120]) h1 (by decide)⟩ ⟨Nat.le_refl _, lit_C (cs := [121]) h2 (by decide)⟩ ⟨Nat.le_refl _, lit_C (cs := [122]) h3 (by decide)⟩, fun i u hi => ?_⟩
    rw [base_add, blk_cell h]
    rw [← Array.getElem?_toList]
    refine Eq.trans ?_ hi
    simp [knP]
  | succ j => simp at hj
set_option maxHeartbeats 16000000 in
set_option maxRecDepth 100000 in
theorem known_walk (w : World) : Calls Tryd.prog 11 #[] w fun e w' => e = .returned (.bool true) ∧ Below w.heap.size w w' := by
  obtain ⟨wa, hwa⟩ : ∃ wa, wa = w.alloc (.cells #[.int .u8 120] 5 (1, 2)) := ⟨_, rfl⟩
  obtain ⟨wb, hwb⟩ : ∃ wb, wb = wa.alloc (.cells #[.int .u8 121] 5 (1, 2)) := ⟨_, rfl⟩
  have hca := Go.Joins.run_convert_bytes_const_at (P := Tryd.prog) w 22 5 #[.int .u8 120] 1 1 w.heap.size rfl Tryd.underlying22 Tryd.underlying5
  have hcb := Go.Joins.run_convert_bytes_const_at (P := Tryd.prog) wa 22 5 #[.int .u8 121] 1 1 (w.heap.size + 1) (by rw [hwa]; simp) Tryd.underlying22 Tryd.underlying5
  have hcc := Go.Joins.run_convert_bytes_const_at (P := Tryd.prog) wb 22 5 #[.int .u8 122] 1 1 (w.heap.size + 1 + 1) (by rw [hwb, hwa]; simp) Tryd.underlying22 Tryd.underlying5
  rw [hwb, hwa] at hcc
  rw [hwa] at hcb
  clear hwa hwb
  go_enter Tryd.func11, Tryd.ntmps11
  go_wp2_with (first | (go_at_call 19; refine (Write_calls 7 ⟨#[97]⟩ ⟨#[98]⟩ ⟨#[99]⟩ (some ⟨w.heap.size + 1 + 1 + 1 + 1, 0, none⟩) 1 [knP] _ (kn_C (t := 50) (a1 := w.heap.size) (a2 := w.heap.size + 1) (a3 := w.heap.size + 1 + 1) (five_at w _ _ _ _ _).2.2.2.1 (five_at w _ _ _ _ _).1 (five_at w _ _ _ _ _).2.1 (five_at w _ _ _ _ _).2.2.1) (Nat.le_refl _) (by decide) (by intro p hp; rw [List.mem_singleton] at hp; subst hp; decide) (by decide) (by decide) (by decide)).mono ?_; rw [kn_w]; rintro e w1 ⟨A1, c1, rfl, hc1, hC1, hb1⟩; have HB1 : Aside0 (Below w.heap.size w w1) := ⟨(five_at w _ _ _ _ _).2.2.2.2.1.trans (below_lo hb1 (five_at w _ _ _ _ _).2.2.2.2.2)⟩; replace hC1 := Aside0.mk hC1; replace hc1 := Aside0.mk hc1; clear hb1) | (go_at_call 9; refine (read_calls 7 A1 c1 knT w1 hC1.out hc1.out kn_b (by decide)).mono ?_; rw [kn_r]; rintro e w2 ⟨A2, c2, rfl, hc2, hC2, hb2⟩; have HB2 := Aside0.mk (HB1.out.trans (below_lo hb2 HB1.out.size)); replace hC1 := Aside0.mk (Kd.C_below hC1.out hb2); replace hC2 := Aside0.mk hC2; have hcd := Go.Joins.run_convert_bytes_const_at (P := Tryd.prog) w2 22 5 #[.int .u8 60, .int .u8 60, .int .u8 60, .int .u8 60, .int .u8 60, .int .u8 60, .int .u8 60, .int .u8 10] 8 8 w2.heap.size rfl Tryd.underlying22 Tryd.underlying5; clear hb2) | (go_at_call 9; refine (read_calls 7 (some ⟨w2.heap.size, 0, none⟩) 8 [60, 60, 60, 60, 60, 60, 60, 10] _ (lit_C (cs := [60, 60, 60, 60, 60, 60, 60, 10]) (heap_alloc_new w2 _) (by decide)) (Nat.le_refl _) kn_b2 (by decide)).mono ?_; rw [kn_e]; rintro e w3 ⟨A3, c3, rfl, _, _, hb3⟩; have hb3_ := (below_alloc (Below.refl _ _) _).trans (below_lo hb3 (by simp)); have HB3 := Aside0.mk (HB2.out.trans (below_lo hb3_ HB2.out.size)); replace hC1 := Kd.C_below hC1.out hb3_; replace hC2 := Kd.C_below hC2.out hb3_; clear hb3 hb3_; have hst1 := Kd.C_string (P := Tryd.prog) (c := c1) Tryd.underlying22 Tryd.underlying5 Tryd.underlying9 hC1; rw [kn_s] at hst1; obtain ⟨a2, x2, B1, d1, B2, d2, B3, d3, B4, d4, rfl, hx2, _, q0, q1, q2, q3, q4, k1, k2, k3, k4⟩ := at_Pt (Kd.C_F kP_heap hC2) 0 (Int.le_refl _) (by decide); obtain rfl : knQ = x2 := Option.some.inj hx2; have hst2 := Kd.C_string (P := Tryd.prog) (c := d4) Tryd.underlying22 Tryd.underlying5 Tryd.underlying9 (Kd.F_now k4.2); rw [show knQ.s2 = [122, 10] from rfl, kn_s2] at hst2; have e0_ : a2.add ((0 : Int).toNat * 5) = a2 := (by simp [Addr.add]); rw [e0_] at q0 q4; replace q0 : w3.cell? a2 = some (.bool true) := q0; replace q4 : w3.cell? ⟨a2.block, a2.off + 4, none⟩ = some (.slice B4 2 d4) := q4; replace hst2 : (convert 22 9 (.slice B4 2 d4)).run Tryd.prog w3 = .ok (.string ⟨#[122, 10]⟩) w3 := hst2; clear e0_ q1 q2 q3; replace hC1 := Aside0.mk hC1; replace hC2 := Aside0.mk hC2; clear k1 k2 k3 k4 hx2))
  go_ret
  exact ⟨rfl, HB3.out⟩
end Go.Proofs.YtnnnbeimehfiiaaDoor.Q
