/- The texts of this claim that lie below its row, in their order: KRw KRead KFw KLab3 KSame KWr KKn0 KKn KMovL KBkL. -/
import Derived.Test.YtnnnbeimehfiiaaDoorZB2
-- Written by a program of this session (wip/gen_refw.py) for this claim; Lean checks it.
/-! The reference's Pick and Write: in plain Lean, and walked. -/
set_option linter.unusedVariables false
set_option linter.unusedSimpArgs false
namespace Go.Proofs.YtnnnbeimehfiiaaDoor.Q
open Go Go.RowKit Go.Proofs.YtnnnbeimehfiiaaDoorW.PrintWords Go.Proofs.YtnnnbeimehfiiaaDoorW.PrintLast Go.Proofs.YtnnnbeimehfiiaaDoorW.PrintMore Go.Proofs.YtnnnbeimehfiiaaDoorW.SL
attribute [local go_sem] max2_int min2_int max_two min_two max_three min_three max_four min_four
theorem endNl_app {a s : List Int} (h : endNl a = a) : endNl (a ++ s) = a ++ endNl s := by
  rcases List.eq_nil_or_concat s with rfl | ⟨r, x, hs⟩
  · rw [List.append_nil, endNl_nil, List.append_nil, h]
  · have h2 : s = r ++ [x] := by simpa using hs
    subst h2
    rw [← List.append_assoc, endNl_snoc, endNl_snoc]
    split <;> simp
theorem endNl_idem (a : List Int) : endNl (endNl a) = endNl a := by
  rcases List.eq_nil_or_concat a with rfl | ⟨r, x, hs⟩
  · rfl
  · have h2 : a = r ++ [x] := by simpa using hs
    subst h2
    rw [endNl_snoc]
    split
    · rename_i hx; rw [endNl_snoc, if_pos hx]
    · rw [endNl_snoc]; simp
theorem endNl_line (a : List Int) (x : UInt8) (n : Nat) (s : ByteArray) : endNl (a ++ mkLine x n s) = a ++ mkLine x n s := by
  unfold mkLine
  rw [← List.append_assoc, endNl_snoc, if_pos rfl]
theorem box5 {w : World} {g t : Nat} {c0 c1 c2 c3 c4 : Value} (h : w.heap[g]? = some (.cells #[c0, c1, c2, c3, c4] t (0, 0))) : w.cell? ⟨g, 0, none⟩ = some c0 ∧ w.cell? ⟨g, 1, none⟩ = some c1 ∧ w.cell? ⟨g, 2, none⟩ = some c2 ∧ w.cell? ⟨g, 3, none⟩ = some c3 ∧ w.cell? ⟨g, 4, none⟩ = some c4 :=
  ⟨(blk_cell h 0).trans rfl, (blk_cell h 1).trans rfl, (blk_cell h 2).trans rfl, (blk_cell h 3).trans rfl, (blk_cell h 4).trans rfl⟩
theorem box3 {w : World} {g t : Nat} {c0 c1 c2 : Value} (h : w.heap[g]? = some (.cells #[c0, c1, c2] t (0, 0))) : w.cell? ⟨g, 0, none⟩ = some c0 ∧ w.cell? ⟨g, 1, none⟩ = some c1 ∧ w.cell? ⟨g, 2, none⟩ = some c2 :=
  ⟨(blk_cell h 0).trans rfl, (blk_cell h 1).trans rfl, (blk_cell h 2).trans rfl⟩
end Go.Proofs.YtnnnbeimehfiiaaDoor.Q
-- Written by a program of this session (wip/gen_read.py) for this claim; Lean checks it.
/-! mark.Read, walked. -/
set_option linter.unusedVariables false
set_option linter.unusedSimpArgs false
namespace Go.Proofs.YtnnnbeimehfiiaaDoor.Q
open Go Go.RowKit Go.Proofs.YtnnnbeimehfiiaaDoorW.PrintWords Go.Proofs.YtnnnbeimehfiiaaDoorW.PrintLast Go.Proofs.YtnnnbeimehfiiaaDoorW.PrintMore Go.Proofs.YtnnnbeimehfiiaaDoorW.SL
attribute [local go_sem] max2_int min2_int max_two min_two max_three min_three max_four min_four
def mread.T17 : Bool × List (List Nat × List Nat) := (true, [([], []), ([], []), ([], []), ([2], [2]), ([], []), ([], []), ([], []), ([6], [6]), ([4, 5], [4, 5]), ([8], [8]), ([9, 7], [7, 9]), ([10], [10]), ([], []), ([11, 12], [11, 12]), ([0, 1], [0, 1]), ([14], [14]), ([15, 3, 0, 1, 2, 3, 4, 5, 6, 7, 8, 9, 10, 11, 12, 13], [3, 15]), ([16, 13, 13, 0, 1, 2, 3, 4, 5, 6, 7, 8, 9, 10, 11, 12, 13], [13, 16])])
def mread.B17 : List Nat := [0, 0, 0, 4, 0, 0, 0, 64, 48, 304, 1008, 2032, 0, 8176, 3, 16387, 65535, 131071]
theorem mread.tab17 : rtab .any (opsOf Tryd.f9 17) = mread.T17 := by kernel_rfl
theorem mread.bits17 : waitsOk mread.T17.2 mread.B17 = true := by kernel_rfl
theorem inf50 : (Tryd.prog.info? 50).map (fun i => (i.zero, i.size, i.bytes)) = some (some (.agg #[.bool false, .slice none 0 0, .slice none 0 0, .slice none 0 0, .slice none 0 0]), 5, 104) := by kernel_rfl
set_option maxHeartbeats 16000000 in
set_option maxRecDepth 100000 in
theorem read_calls (n : Int) (A : Option Addr) (c : Nat) (b : List Int) (w : World) (hr : Kd.C B8 w A b.length b) (hc : b.length ≤ c) (hb : ∀ x ∈ b, byte x) (hlen : b.length ≤ 5000000) :
  Calls Tryd.prog 9 #[.int .i64 n, .slice A b.length c] w fun e w' => ∃ (A' : Option Addr) (c' : Nat), e = .returned (.tuple #[.slice A' (readOf n b).1.length c', .int .i64 (readOf n b).2]) ∧ (readOf n b).1.length ≤ c' ∧ Kd.C kP w' A' (readOf n b).1.length (readOf n b).1 ∧ Below w.heap.size w w' := by
 have HR := Aside0.mk hr; have HC := Aside0.mk hc; have HB := Aside0.mk hb; have HLEN := Aside0.mk hlen
 clear hr hc hb hlen
 by_cases hn : n ≥ 1 ∧ n ≤ 16777216
 · have hright : mark_right.f n = some true := by unfold mark_right.f; rw [if_pos hn.1]; simp [hn.2]
   obtain ⟨N, hN⟩ := Int.eq_ofNat_of_zero_le (by omega : 0 ≤ n)
   have hN1 : 1 ≤ N := by omega
   have hres : readOf n b = match rdAll N (linesOf b) ([], 0) with | some (ps, st) => if st = 0 then (ps, 0) else ([], 5) | none => ([], 5) := by
     unfold readOf; rw [if_pos hn, hN]; rfl
   obtain ⟨R, hR⟩ : ∃ R, readOf n b = R := ⟨_, rfl⟩
   rw [hR] at hres ⊢
   have HRES := Aside0.mk hres; have HRT := Aside0.mk hright
   clear hres hR hn hright
   subst hN
   obtain ⟨L, hL⟩ : ∃ L, linesOf b = L := ⟨_, rfl⟩
   rw [hL] at HRES
   have HLN := Aside0.mk (show L.length ≤ 5000000 by rw [← hL]; exact Nat.le_trans (linesOf_len b) HLEN.out)
   have HLX := Aside0.mk (show ∀ x ∈ L, x ≠ [] ∧ (∀ y ∈ x, byte y) ∧ x.length ≤ 5000000 by rw [← hL]; exact fun x hx => ⟨linesOf_ne b x hx, linesOf_all byte b x HB.out hx, Nat.le_trans (linesOf_mem b x hx) HLEN.out⟩)
   replace hL := Aside0.mk hL
   go_enter Tryd.func9, Tryd.ntmps9
   go_wp2_with (first | (go_at_call 24; refine (mark_right.calls _ true _ HRT.out).mono ?_; rintro e w1 ⟨rfl, hb1⟩; replace hb1 := drawn_below hb1) | (go_at_call 25; refine (split_calls A c b _ (Kd.C_below HR.out hb1) HC.out HB.out (by have := HLEN.out; omega)).mono ?_; rintro e w2 ⟨vl, rfl, hR, hb2⟩; rw [hL.out] at hR; obtain ⟨AL, cL, rfl, hrd⟩ := rd_R hR; replace hR := Aside0.mk hR))
   have hF0 : ∀ a ∈ [rdV kB AL cL L], a.P w2 (fun k => k < w2.heap.size) := by
     intro a ha; rw [List.mem_singleton] at ha; subst ha
     exact FA.step _ hrd (fun _ _ _ => rfl) (fun k hk => hk.2)
   have HS := Aside0.mk (RdI.start (Stt.start w2 hF0))
   have hB2 := Aside0.mk (hb1.trans (below_lo hb2 hb1.size))
   clear hF0 hrd hb1 hb2
   go_loopg [6, 7, 18] L.length (fun kq v6 v7 v18 w'' => ∃ (ps : List Pt) (ii sti : Int) (i : Nat), v18 = .int .i64 ii ∧ Aside0 (ii = (i : Int)) ∧ v7 = .int .i64 sti ∧ (sti = 0 ∨ sti = 1 ∨ sti = 2 ∨ sti = 3) ∧ i ≤ L.length ∧ kq = L.length - i ∧ Aside0 (rdAll N (L.take i) ([], 0) = some (ps, sti.toNat)) ∧ Aside0 (Sz ps i) ∧ Aside0 (RdI w2 [rdV kB AL cL L] ps v6 w''))
   case atStart => exact ⟨[], 0, 0, 0, rfl, ⟨rfl⟩, rfl, .inl rfl, Nat.zero_le _, rfl, ⟨rfl⟩, ⟨sz_nil⟩, HS⟩
   case round =>
    obtain ⟨ps, ii, sti, i, rfl, hii, rfl, hst, hi, hgk, hall, hsz, hI⟩ := hrel
    obtain ⟨wb, rfl⟩ : ∃ q, q = wr := ⟨_, rfl⟩
    by_cases hin : ii < (L.length : Int)
    · have p0 : 0 ≤ ii := by have := hii.out; omega
      obtain ⟨Z, hZ⟩ := hI.out.fr
      have hrd : (rdV kB AL cL L).P wb Z := hZ _ (by simp)
      obtain ⟨al, cs, eA, hcl, hFK, hcc, _⟩ := Kd.F_get hrd.2 [] ii p0 hin
      subst eA
      obtain ⟨x, hx⟩ : ∃ x, x = L.getD ii.toNat [] := ⟨_, rfl⟩
      rw [← hx] at hFK
      have hxi : L[i]? = some x := by
        rw [hx, hii.out]; have : i < L.length := by have := hii.out; omega
        simp [List.getD_eq_getElem?_getD, List.getElem?_eq_getElem this]
      have hxm := HLX.out x (List.mem_of_getElem? hxi)
      obtain ⟨AX, cX, rfl, hxc, hxC⟩ := Kd.FK_now hFK
      obtain ⟨ax, rfl, _⟩ := hxC.2.2 (by have := hxm.1; cases x with | nil => exact absurd rfl this | cons _ _ => simp)
      have hx0 : wb.cell? (al.add (ii.toNat * 1)) = some (.slice (some ax) x.length cX) := hcc 0 _ rfl
      have hx0' : wb.cell? (al.add ii.toNat) = some (.slice (some ax) x.length cX) := by simpa using hx0
      have HX := Aside0.mk (⟨hxi, hxm, hxc, hxC, hi, hgk⟩ : _ ∧ _ ∧ _ ∧ _ ∧ _ ∧ _)
      have HMK := Aside0.mk (markerOf_calls N hN1 (some ax) cX x wb hxC hxc hxm.2.1 (by have := hxm.2.2; omega))
      have hnext := Aside0.mk (rdAll_next hall.out hxi)
      have hsg := mkOf_cases hN1 x
      have hi5_ : i ≤ 5000000 := by have := HLN.out; omega
      obtain ⟨Ao, co, evo, hoc, _⟩ := hI.out.out
      obtain ⟨m, hm⟩ : ∃ m, m = ps.length := ⟨_, rfl⟩
      rw [← hm] at evo
      subst evo
      replace hm := Aside0.mk hm
      have hw1 : wrap64 (ii + 1) = ii + 1 := by have := hii.out; unfold wrap64; omega
      have hinb := eq_true hin
      have p0b := eq_true p0
      have hi5 : i ≤ 5000000 := by have := HLN.out; omega
      have hps5 := Aside0.mk (Nat.le_trans hsz.out.1 hi5)
      clear hZ hrd hcl hFK hcc hx hxi hxm hxc hxC hi hgk hoc
      obtain ⟨sg, hsgq⟩ : ∃ sg, mkOf N x = sg := ⟨_, rfl⟩
      rw [hsgq] at hsg HMK
      replace hsgq := Aside0.mk hsgq
      rcases hsg with rfl | hsg
      · rcases hst with rfl | rfl | rfl | rfl
        · skip
          have hx1_ : wb.cell? (al.add i) = some (.slice (some ax) x.length cX) := by have := hx0'; rwa [show ii.toNat = i by have := hii.out; omega] at this
          have HIX := Aside0.mk (hI.out.wider (rdV B8 (some ax) cX x) (fun Z hZ => row_kept (hZ _ List.mem_cons_self) HX.out.1 hx1_))
          clear hx1_
          obtain rfl | ⟨fr, ⟨rg, T, S0, S1, S2⟩, rfl⟩ := snoc_cases ps
          · obtain rfl : m = 0 := hm.out
            have hyes : rdStep N ([], 0) x = some ([] ++ [addF (nwPt false) x 0], 0) := by simp [rdStep, hsgq.out, addF]
            go_wp2_with (first | ((go_at_call 26; refine HMK.out.mono ?_; rintro e w3 ⟨rfl, hb3⟩); have hI3 := HIX.out.keep hb3) | ((with_reducible refine gate_builtin (b := .append) (xs := #[.tmp 44, .tmp 46]) rfl ?_); at_builtin; refine app_push rfl (.tmp 44) (.tmp 46) 104 rfl Tryd.underlying23 inf50 (by decide) hI3 hps5.out _ rfl false rfl rfl ?_; intro Ao2 co2 w4 hI4; obtain ⟨Zx, hZx⟩ := hI4.fr; have hxC4 := Kd.F_now (hZx (rdV B8 (some ax) cX x) (by simp)).2; obtain ⟨ad4, _, vk_, e1, hreg, hcell, hown, hstep⟩ := hI4.at0 0 (by decide) x; obtain ⟨ak_, ck_, rfl, _⟩ := own_form hown; injection e1 with e1 _ ec; subst e1 ec) | ((with_reducible refine gate_builtin (b := .append) (xs := #[.tmp 56, .tmp 57]) rfl ?_); at_builtin; refine app_spread rfl (.tmp 56) (.tmp 57) rfl Tryd.underlying22 inf5 _ _ _ x ax cX rfl rfl hown (hxC4) ?hl ?_; (case hl => simp [fld]; have := HX.out.2.1.2.2; omega); intro v5_ w5 ho5 hg5 hat5; obtain ⟨A5, c5, rfl, _⟩ := own_form ho5; obtain ⟨hk1, hk2, hI5⟩ := hstep w5 _ ho5 hg5 hat5))
            go_roundg (L.length - (i + 1))
            case rel => exact ⟨[] ++ [addF (nwPt false) x 0], wrap64 (ii + 1), 0, i + 1, by first | rfl | (simp; done) | (simp [hw1]; done), ⟨by rw [hw1]; have := hii.out; omega⟩, by first | rfl | (simp; done), by simp, by have := hii.out; omega, rfl, Aside0.mk (hnext.out.trans hyes), ⟨sz_app hsz.out false HX.out.2.1.2.2 0⟩, ⟨hI5.less⟩⟩
            case measure => have := hii.out; have := HX.out.2.2.2.2.2; omega
          · obtain rfl : m = fr.length + 1 := by rw [hm.out]; simp
            have hwj : wrap64 (fr.length : Int) = (fr.length : Int) := by have := hps5.out; simp at this; unfold wrap64; omega
            cases rg with
            | false =>
              have hyes : rdStep N (fr ++ [⟨false, T, S0, S1, S2⟩], 0) x = some (fr ++ [addF ⟨false, T, S0, S1, S2⟩ x 0], 0) := by simp [rdStep, hsgq.out, onLast_snoc, addF, addText]
              obtain ⟨ad, cap, vk, e1, hreg, hcell, hown, _⟩ := hI.out.at 0 (by decide) x
              obtain ⟨ak, ck, rfl, _⟩ := own_form hown
              injection e1 with eA _ ec
              subst eA ec
              have hreg0 := Aside0.mk hreg
              have hcell0 := Aside0.mk hcell
              clear hreg hcell hown
              go_wp2_with (first | ((go_at_call 26; refine HMK.out.mono ?_; rintro e w3 ⟨rfl, hb3⟩); have hI3 := hI.out.keep hb3; obtain ⟨_, _, vk_, e1, hreg, hcell, hown, hstep⟩ := hI3.at 0 (by decide) x; obtain ⟨ak_, ck_, rfl, _⟩ := own_form hown; injection e1 with e1 _ ec; injection e1 with e1; subst e1 ec) | ((with_reducible refine gate_builtin (b := .append) (xs := #[.tmp 56, .tmp 57]) rfl ?_); at_builtin; refine app_spread rfl (.tmp 56) (.tmp 57) rfl Tryd.underlying22 inf5 _ _ _ x ax cX rfl rfl hown (Kd.C_below HX.out.2.2.2.1 hb3) ?hl ?_; (case hl => have := sz_fld (hsz.out.2 _ (List.mem_append_right _ List.mem_cons_self)) 0; have := hi5; have := HX.out.2.1.2.2; simp only [fld] at *; omega); intro v5_ w5 ho5 hg5 hat5; obtain ⟨A5, c5, rfl, _⟩ := own_form ho5; obtain ⟨hk1, hk2, hI5⟩ := hstep w5 _ ho5 hg5 hat5))
              go_roundg (L.length - (i + 1))
              case rel => exact ⟨fr ++ [addF ⟨false, T, S0, S1, S2⟩ x 0], wrap64 (ii + 1), 0, i + 1, by first | rfl | (simp; done) | (simp [hw1]; done), ⟨by rw [hw1]; have := hii.out; omega⟩, by first | rfl | (simp; done), by simp, by have := hii.out; omega, rfl, Aside0.mk (hnext.out.trans hyes), ⟨sz_add hsz.out x HX.out.2.1.2.2 0⟩, ⟨hI5⟩⟩
              case measure => have := hii.out; have := HX.out.2.2.2.2.2; omega
            | true =>
              have hfl : (fr ++ [(⟨true, T, S0, S1, S2⟩ : Pt)]).length = fr.length + 1 := by simp
              have hwj1 : wrap64 ((fr.length : Int) + 1) = (fr.length : Int) + 1 := by have := hps5.out; simp at this; unfold wrap64; omega
              replace hfl := Aside0.mk hfl
              have hyes : rdStep N (fr ++ [⟨true, T, S0, S1, S2⟩], 0) x = some ((fr ++ [⟨true, T, S0, S1, S2⟩]) ++ [addF (nwPt false) x 0], 0) := by simp [rdStep, hsgq.out, addF]
              obtain ⟨ad, cap, vk, e1, hreg, hcell, hown, _⟩ := hI.out.at 0 (by decide) x
              obtain ⟨ak, ck, rfl, _⟩ := own_form hown
              injection e1 with eA _ ec
              subst eA ec
              have hreg0 := Aside0.mk hreg
              clear hreg hcell hown
              go_wp2_with (first | ((go_at_call 26; refine HMK.out.mono ?_; rintro e w3 ⟨rfl, hb3⟩); have hI3 := HIX.out.keep hb3; obtain ⟨_, _, vk_, e1, hreg, hcell, hown, hstep⟩ := hI3.at 0 (by decide) x; injection e1 with e1 _ ec; injection e1 with e1; subst e1 ec; clear hcell hown hstep) | ((with_reducible refine gate_builtin (b := .append) (xs := #[.tmp 44, .tmp 46]) rfl ?_); at_builtin; refine app_push rfl (.tmp 44) (.tmp 46) 104 rfl Tryd.underlying23 inf50 (by decide) hI3 hps5.out _ hfl.out false rfl rfl ?_; intro Ao2 co2 w4 hI4; obtain ⟨Zx, hZx⟩ := hI4.fr; have hxC4 := Kd.F_now (hZx (rdV B8 (some ax) cX x) (by simp)).2; obtain ⟨ad4, _, vk_, e1, hreg, hcell, hown, hstep⟩ := hI4.atj 0 (by decide) x hfl.out; obtain ⟨ak_, ck_, rfl, _⟩ := own_form hown; injection e1 with e1 _ ec; subst e1 ec) | ((with_reducible refine gate_builtin (b := .append) (xs := #[.tmp 56, .tmp 57]) rfl ?_); at_builtin; refine app_spread rfl (.tmp 56) (.tmp 57) rfl Tryd.underlying22 inf5 _ _ _ x ax cX rfl rfl hown (hxC4) ?hl ?_; (case hl => simp [fld]; have := HX.out.2.1.2.2; omega); intro v5_ w5 ho5 hg5 hat5; obtain ⟨A5, c5, rfl, _⟩ := own_form ho5; obtain ⟨hk1, hk2, hI5⟩ := hstep w5 _ ho5 hg5 hat5))
              go_roundg (L.length - (i + 1))
              case rel => exact ⟨_, wrap64 (ii + 1), 0, i + 1, by first | rfl | (simp; done) | (simp [hw1]; done), ⟨by rw [hw1]; have := hii.out; omega⟩, by first | rfl | (simp; done), by simp, by have := hii.out; omega, rfl, Aside0.mk (hnext.out.trans hyes), ⟨sz_app hsz.out false HX.out.2.1.2.2 0⟩, ⟨hI5.less⟩⟩
              case measure => have := hii.out; have := HX.out.2.2.2.2.2; omega
        · skip
          have hpn : ps ≠ [] := rdAll_ne hall.out (fun h => absurd rfl h) (by simp)
          obtain rfl | ⟨fr, p, rfl⟩ := snoc_cases ps
          · exact absurd rfl hpn
          clear hpn
          obtain rfl : m = fr.length + 1 := by rw [hm.out]; simp
          have hwj : wrap64 (fr.length : Int) = (fr.length : Int) := by have := hps5.out; simp at this; unfold wrap64; omega
          have hyes : rdStep N (fr ++ [p], 1) x = some (fr ++ [addF p x 1], 1) := by simp [rdStep, hsgq.out, onLast_snoc, addF, addSide]
          replace hyes := Aside0.mk hyes
          obtain ⟨ad, cap, vk, e1, _, _, _, _⟩ := hI.out.at 1 (by decide) x
          injection e1 with eA _ ec
          subst eA ec
          have hq0 : wrap64 0 = 0 := by unfold wrap64; omega
          have hjj := eq_true (show (fr.length : Int) < (fr.length : Int) + 1 by omega)
          go_wp2_with ((go_at_call 26; refine HMK.out.mono ?_; rintro e w3 ⟨rfl, hb3⟩))
          have hIw := hI.out.keep (below_drew1 hb3)
          have hXw := Kd.C_below HX.out.2.2.2.1 (below_drew1 hb3)
          obtain ⟨_, _, vk, e1, _, hcell, hown, hstep⟩ := hIw.at 1 (by decide) x
          obtain ⟨ak, ck, rfl, _⟩ := own_form hown
          injection e1 with e1 _ ec
          injection e1 with e1
          subst e1 ec
          have hln : (fld p 1).length + x.length ≤ 140737488355328 := by
            have := sz_fld (hsz.out.2 p (List.mem_append_right _ List.mem_cons_self)) 1
            have := hi5; have := HX.out.2.1.2.2; omega
          replace hln := Aside0.mk hln
          have hst_ : ∀ w1 v1, P1 w3.drew (.slice ak (fld p 1).length ck) (fld p 1) x v1 w1 → _ := fun w1 v1 h => hstep w1 v1 h.1 h.2.1 h.2.2
          replace hst_ := Aside0.mk hst_
          replace hown := Aside0.mk hown
          replace hXw := Aside0.mk hXw
          clear hstep hIw
          have E0 := trivial
          refine start_ (n := 18) (S := fun w' => True) (ds := []) #[false, false, false, false, false, false, false, false, false, false, false, false, false, false, false, false, false, false] (by kernel_rfl) rfl rfl trivial (fun hHeld => ?_)
          refine with_tabW mread.tab17 mread.bits17 (fun HT_ HW_ => ?_)
          generalize w3.drew = wd at hcell hown hst_ hXw hHeld ⊢
          refine pure_ (i := 0) (N := some 64) (v := ?_) (a' := ?_) #[true, false, false, false, false, false, false, false, false, false, false, false, false, false, false, false, false, false] rfl rfl (any_of HT_.out (by kernel_rfl)) (fun _ _ _ h => h) (Or.inl ⟨by rfl, ?_⟩) ?_ ?_
          rotate_left
          · intro w'
            go_simp
            with_reducible rfl
          rotate_left
          · simp only [Act.put, List.setIfInBounds_toArray, List.set_cons_zero, List.set_cons_succ, i64_w, i32_w]
            rfl
          refine pure_ (i := 1) (N := some 65) (v := ?_) (a' := ?_) #[true, true, false, false, false, false, false, false, false, false, false, false, false, false, false, false, false, false] rfl rfl (any_of HT_.out (by kernel_rfl)) (fun _ _ _ h => h) (Or.inl ⟨by rfl, ?_⟩) ?_ ?_
          rotate_left
          · intro w'
            go_simp
            with_reducible rfl
          rotate_left
          · simp only [Act.put, List.setIfInBounds_toArray, List.set_cons_zero, List.set_cons_succ, i64_w, i32_w]
            rfl
          refine pure_ (i := 2) (N := some 66) (v := ?_) (a' := ?_) #[true, true, true, false, false, false, false, false, false, false, false, false, false, false, false, false, false, false] rfl rfl (any_of HT_.out (by kernel_rfl)) (fun _ _ _ h => h) (Or.inl ⟨by rfl, ?_⟩) ?_ ?_
          rotate_left
          · intro w'
            go_simp
            with_reducible rfl
          rotate_left
          · simp only [Act.put, List.setIfInBounds_toArray, List.set_cons_zero, List.set_cons_succ, i64_w, i32_w]
            rfl
          refine pure_ (i := 3) (N := some 67) (v := ?_) (a' := ?_) #[true, true, true, true, false, false, false, false, false, false, false, false, false, false, false, false, false, false] rfl rfl (any_of HT_.out (by kernel_rfl)) (fun _ _ _ h => h) (Or.inl ⟨by rfl, ?_⟩) ?_ ?_
          rotate_left
          · intro w'
            go_simp
            with_reducible rfl
          rotate_left
          · simp only [Act.put, List.setIfInBounds_toArray, List.set_cons_zero, List.set_cons_succ, i64_w, i32_w]
            rfl
          refine pure_ (i := 4) (N := some 68) (v := ?_) (a' := ?_) #[true, true, true, true, true, false, false, false, false, false, false, false, false, false, false, false, false, false] rfl rfl (any_of HT_.out (by kernel_rfl)) (fun _ _ _ h => h) (Or.inl ⟨by rfl, ?_⟩) ?_ ?_
          rotate_left
          · intro w'
            go_simp
            with_reducible rfl
          rotate_left
          · simp only [Act.put, List.setIfInBounds_toArray, List.set_cons_zero, List.set_cons_succ, i64_w, i32_w]
            rfl
          refine pure_ (i := 5) (N := some 69) (v := ?_) (a' := ?_) #[true, true, true, true, true, true, false, false, false, false, false, false, false, false, false, false, false, false] rfl rfl (any_of HT_.out (by kernel_rfl)) (fun _ _ _ h => h) (Or.inl ⟨by rfl, ?_⟩) ?_ ?_
          rotate_left
          · intro w'
            go_simp
            with_reducible rfl
          rotate_left
          · simp only [Act.put, List.setIfInBounds_toArray, List.set_cons_zero, List.set_cons_succ, i64_w, i32_w]
            rfl
          refine pure_ (i := 6) (N := some 70) (v := ?_) (a' := ?_) #[true, true, true, true, true, true, true, false, false, false, false, false, false, false, false, false, false, false] rfl rfl (any_of HT_.out (by kernel_rfl)) (fun _ _ _ h => h) (Or.inl ⟨by rfl, ?_⟩) ?_ ?_
          rotate_left
          · intro w'
            go_simp
            with_reducible rfl
          rotate_left
          · simp only [Act.put, List.setIfInBounds_toArray, List.set_cons_zero, List.set_cons_succ, i64_w, i32_w]
            rfl
          refine pure_ (i := 7) (N := some 71) (v := ?_) (a' := ?_) #[true, true, true, true, true, true, true, true, false, false, false, false, false, false, false, false, false, false] rfl rfl (any_of HT_.out (by kernel_rfl)) (fun _ _ _ h => h) (Or.inl ⟨by rfl, ?_⟩) ?_ ?_
          rotate_left
          · intro w'
            go_simp
            with_reducible rfl
          rotate_left
          · simp only [Act.put, List.setIfInBounds_toArray, List.set_cons_zero, List.set_cons_succ, i64_w, i32_w]
            rfl
          refine pure_ (i := 8) (N := some 72) (v := ?_) (a' := ?_) #[true, true, true, true, true, true, true, true, true, false, false, false, false, false, false, false, false, false] rfl rfl (any_of HT_.out (by kernel_rfl)) (fun _ _ _ h => h) (Or.inl ⟨by rfl, ?_⟩) ?_ ?_
          rotate_left
          · intro w'
            go_simp
            with_reducible rfl
          rotate_left
          · simp only [Act.put, List.setIfInBounds_toArray, List.set_cons_zero, List.set_cons_succ, i64_w, i32_w]
            rfl
          refine pure_ (i := 9) (N := some 73) (v := ?_) (a' := ?_) #[true, true, true, true, true, true, true, true, true, true, false, false, false, false, false, false, false, false] rfl rfl (any_of HT_.out (by kernel_rfl)) (fun _ _ _ h => h) (Or.inl ⟨by rfl, ?_⟩) ?_ ?_
          rotate_left
          · intro w'
            go_simp
            with_reducible rfl
          rotate_left
          · simp only [Act.put, List.setIfInBounds_toArray, List.set_cons_zero, List.set_cons_succ, i64_w, i32_w]
            rfl
          refine pure_ (i := 10) (N := some 74) (v := ?_) (a' := ?_) #[true, true, true, true, true, true, true, true, true, true, true, false, false, false, false, false, false, false] rfl rfl (any_of HT_.out (by kernel_rfl)) (fun _ _ _ h => h) (Or.inl ⟨by rfl, ?_⟩) ?_ ?_
          rotate_left
          · intro w'
            go_simp
            with_reducible rfl
          rotate_left
          · simp only [Act.put, List.setIfInBounds_toArray, List.set_cons_zero, List.set_cons_succ, i64_w, i32_w]
            rfl
          refine pure_ (i := 12) (N := some 76) (v := ?_) (a' := ?_) #[true, true, true, true, true, true, true, true, true, true, true, false, true, false, false, false, false, false] rfl rfl (any_of HT_.out (by kernel_rfl)) (fun _ _ _ h => h) (Or.inl ⟨by rfl, ?_⟩) ?_ ?_
          rotate_left
          · intro w'
            go_simp
            with_reducible rfl
          rotate_left
          · simp only [Act.put, List.setIfInBounds_toArray, List.set_cons_zero, List.set_cons_succ, i64_w, i32_w]
            rfl
          refine pure_ (i := 14) (N := some 78) (v := ?_) (a' := ?_) #[true, true, true, true, true, true, true, true, true, true, true, false, true, false, true, false, false, false] rfl rfl (any_of HT_.out (by kernel_rfl)) (fun _ _ _ h => h) (Or.inl ⟨by rfl, ?_⟩) ?_ ?_
          rotate_left
          · intro w'
            go_simp
            with_reducible rfl
          rotate_left
          · simp only [Act.put, List.setIfInBounds_toArray, List.set_cons_zero, List.set_cons_succ, i64_w, i32_w]
            rfl
          refine pure_ (i := 15) (N := some 79) (v := ?_) (a' := ?_) #[true, true, true, true, true, true, true, true, true, true, true, false, true, false, true, true, false, false] rfl rfl (any_of HT_.out (by kernel_rfl)) (fun _ _ _ h => h) (Or.inl ⟨by rfl, ?_⟩) ?_ ?_
          rotate_left
          · intro w'
            go_simp
            with_reducible rfl
          rotate_left
          · simp only [Act.put, List.setIfInBounds_toArray, List.set_cons_zero, List.set_cons_succ, i64_w, i32_w]
            rfl
          refine inv_at [11, 13, 16, 17] (fun a0_ b a w' => ∃ (vv : Value), a = putSel a0_ b [(11, 75, .slice ak (fld p 1).length ck), (13, 77, vv), (16, 80, .pointer (some ⟨(ad.add (fr.length * 5)).block, (ad.add (fr.length * 5)).off + 2, none⟩))] ∧ (b 13 = false → w' = wd) ∧ (b 13 = true → b 17 = false → P1 wd (.slice ak (fld p 1).length ck) (fld p 1) x vv w') ∧ (b 17 = true → P2 wd (.slice ak (fld p 1).length ck) (fld p 1) x ⟨(ad.add (fr.length * 5)).block, (ad.add (fr.length * 5)).off + 2, none⟩ vv w')) HT_.out HW_.out (by kernel_rfl) (by kernel_rfl) ?_ ?_ ?_
          · exact ⟨.bool false, by simp only [putSel, Bool.false_eq_true, if_false], fun _ => rfl, fun h_ => absurd h_ (by decide), fun h_ => absurd h_ (by decide)⟩
          · skip
            clear E0
            refine steps_cons ?_ ?_
            · rintro b a w' ⟨vv, ha, Q_E0, Q_E1, Q_E2⟩ hb_ hon hoff
              refine ⟨_, rfl, fun K hK => ?_⟩
              have e74 : a.tmps[74]? = some (.pointer (some ⟨(ad.add (fr.length * 5)).block, (ad.add (fr.length * 5)).off + 2, none⟩)) := by rw [ha]; exact (putSel_off rfl).trans rfl
              replace ha := Aside0.mk ha
              have E0 := Aside0.mk (Q_E0 (hoff 13 (by kernel_rfl)))
              have hw_ := E0.out
              have hc_ := hcell
              rw [← hw_] at hc_
              refine value_ (w1 := w') (v := .slice ak (fld p 1).length ck) (by rfl) rfl ?_ ?_
              · go_simp
                (try simp only [i64_w])
                try rfl
              refine hK.out _ _ ⟨vv, (by rw [ha.out]; exact putSel_upk 0 hb_ rfl rfl rfl), Q_E0, fun h0_ _ => absurd ((hoff 13 (by kernel_rfl)).symm.trans h0_) (by decide), fun h0_ => absurd ((hoff 17 (by kernel_rfl)).symm.trans h0_) (by decide)⟩
            refine steps_cons ?_ ?_
            · rintro b a w' ⟨vv, ha, Q_E0, Q_E1, Q_E2⟩ hb_ hon hoff
              refine ⟨_, rfl, fun K hK => ?_⟩
              have e75 : a.tmps[75]? = some (.slice ak (fld p 1).length ck) := by rw [ha]; exact putSel_on (e := (11, 75, .slice ak (fld p 1).length ck)) 0 rfl rfl (hon 11 (by kernel_rfl)) rfl
              have e76 : a.tmps[76]? = some (.slice (some ax) x.length cX) := by rw [ha]; exact (putSel_off rfl).trans rfl
              replace ha := Aside0.mk ha
              have E0 := Aside0.mk (Q_E0 hb_)
              have hw_ := E0.out
              refine app_spread_step (by rfl) (.tmp 75) (.tmp 76) rfl Tryd.underlying22 inf5 (.slice ak (fld p 1).length ck) _ (us8 (fld p 1)) x ax cX (eval_of e75) (eval_of e76) (hw_ ▸ hown.out) (hw_ ▸ hXw.out) hln.out ?_
              intro v1 w1 ho hg hat
              have S3_ : P1 wd (.slice ak (fld p 1).length ck) (fld p 1) x v1 w1 := ⟨ho, hw_ ▸ hg, hw_ ▸ hat⟩
              refine hK.out _ _ ⟨v1, (by rw [ha.out]; exact putSel_upk 1 hb_ rfl rfl rfl), fun h0_ => absurd ((up_self b 13).symm.trans h0_) (by decide), fun _ _ => S3_, fun h0_ => absurd ((hoff 17 (by kernel_rfl)).symm.trans h0_) (by decide)⟩
            refine steps_cons ?_ ?_
            · rintro b a w' ⟨vv, ha, Q_E0, Q_E1, Q_E2⟩ hb_ hon hoff
              refine ⟨_, rfl, fun K hK => ?_⟩
              have e79 : a.tmps[79]? = some (.pointer (some ⟨(ad.add (fr.length * 5)).block, (ad.add (fr.length * 5)).off + 2, none⟩)) := by rw [ha]; exact (putSel_off rfl).trans rfl
              have e67 : a.tmps[67]? = some (.int .i64 (wrap64 0)) := by rw [ha]; exact (putSel_off rfl).trans rfl
              replace ha := Aside0.mk ha
              have E1 := Aside0.mk (Q_E1 (hon 13 (by kernel_rfl)) (hoff 17 (by kernel_rfl)))
              refine value_ (w1 := w') (v := .pointer (some ⟨(ad.add (fr.length * 5)).block, (ad.add (fr.length * 5)).off + 2, none⟩)) (by rfl) rfl ?_ ?_
              · go_simp
                (try simp only [i64_w])
                try rfl
              refine hK.out _ _ ⟨vv, (by rw [ha.out]; exact putSel_upk 2 hb_ rfl rfl rfl), fun h0_ => absurd ((hon 13 (by kernel_rfl)).symm.trans h0_) (by decide), Q_E1, fun h0_ => absurd ((hoff 17 (by kernel_rfl)).symm.trans h0_) (by decide)⟩
            refine steps_cons ?_ ?_
            · rintro b a w' ⟨vv, ha, Q_E0, Q_E1, Q_E2⟩ hb_ hon hoff
              refine ⟨_, rfl, fun K hK => ?_⟩
              have e80 : a.tmps[80]? = some (.pointer (some ⟨(ad.add (fr.length * 5)).block, (ad.add (fr.length * 5)).off + 2, none⟩)) := by rw [ha]; exact putSel_on (e := (16, 80, .pointer (some ⟨(ad.add (fr.length * 5)).block, (ad.add (fr.length * 5)).off + 2, none⟩))) 2 rfl rfl (hon 16 (by kernel_rfl)) rfl
              have e77 : a.tmps[77]? = some (vv) := by rw [ha]; exact putSel_on (e := (13, 77, vv)) 1 rfl rfl (hon 13 (by kernel_rfl)) rfl
              replace ha := Aside0.mk ha
              have E1 := Aside0.mk (Q_E1 (hon 13 (by kernel_rfl)) hb_)
              obtain ⟨A_, c_, en_⟩ := E1.out.form
              obtain ⟨hc_, hf_, _⟩ := hst_.out w' vv E1.out
              refine skip_ (w1 := w'.setCell ⟨(ad.add (fr.length * 5)).block, (ad.add (fr.length * 5)).off + 2, none⟩ vv) (by rfl) rfl ?_ ?_
              · rw [en_] at e77 ⊢
                go_simp
                try rfl
              have S3_ := E1.out
              refine hK.out _ _ ⟨vv, (by rw [ha.out]; exact putSel_none (v := undef) rfl), fun h0_ => absurd ((hon 13 (by kernel_rfl)).symm.trans h0_) (by decide), fun _ h1_ => absurd ((up_self b 17).symm.trans h1_) (by decide), fun _ => ⟨w', S3_, rfl⟩⟩
            exact steps_nil
          · rintro b a w' hall ⟨vv, ha, Q_E0, Q_E1, Q_E2⟩
            clear E0
            have hb11_ := hall 11 (by kernel_rfl)
            have hb13_ := hall 13 (by kernel_rfl)
            have hb16_ := hall 16 (by kernel_rfl)
            have hb17_ := hall 17 (by kernel_rfl)
            subst ha
            simp only [putSel, hb11_, hb13_, hb16_, hb17_, if_true, Act.put, List.setIfInBounds_toArray, List.set_cons_zero, List.set_cons_succ]
            clear Q_E0
            clear Q_E1
            have E2 := Aside0.mk (Q_E2 hb17_)
            clear Q_E2
            clear hall hb11_ hb13_ hb16_ hb17_
            obtain ⟨w1_, h1_, rfl⟩ := E2.out
            obtain ⟨_, _, hI5⟩ := hst_.out w1_ vv h1_
            go_wp2
            go_roundg (L.length - (i + 1))
            case rel => exact ⟨_, wrap64 (ii + 1), 1, i + 1, by first | rfl | (simp; done) | (simp [hw1]; done), ⟨by rw [hw1]; have := hii.out; omega⟩, by first | rfl | (simp; done), by simp, by have := hii.out; omega, rfl, Aside0.mk (hnext.out.trans hyes.out), ⟨sz_add hsz.out x HX.out.2.1.2.2 1⟩, ⟨hI5⟩⟩
            case measure => have := hii.out; have := HX.out.2.2.2.2.2; omega
        · skip
          have hpn : ps ≠ [] := rdAll_ne hall.out (fun h => absurd rfl h) (by simp)
          obtain rfl | ⟨fr, p, rfl⟩ := snoc_cases ps
          · exact absurd rfl hpn
          clear hpn
          obtain rfl : m = fr.length + 1 := by rw [hm.out]; simp
          have hwj : wrap64 (fr.length : Int) = (fr.length : Int) := by have := hps5.out; simp at this; unfold wrap64; omega
          have hyes : rdStep N (fr ++ [p], 2) x = some (fr ++ [addF p x 2], 2) := by simp [rdStep, hsgq.out, onLast_snoc, addF, addSide]
          replace hyes := Aside0.mk hyes
          obtain ⟨ad, cap, vk, e1, _, _, _, _⟩ := hI.out.at 2 (by decide) x
          injection e1 with eA _ ec
          subst eA ec
          have hq0 : wrap64 1 = 1 := by unfold wrap64; omega
          have hjj := eq_true (show (fr.length : Int) < (fr.length : Int) + 1 by omega)
          go_wp2_with ((go_at_call 26; refine HMK.out.mono ?_; rintro e w3 ⟨rfl, hb3⟩))
          have hIw := hI.out.keep (below_drew1 hb3)
          have hXw := Kd.C_below HX.out.2.2.2.1 (below_drew1 hb3)
          obtain ⟨_, _, vk, e1, _, hcell, hown, hstep⟩ := hIw.at 2 (by decide) x
          obtain ⟨ak, ck, rfl, _⟩ := own_form hown
          injection e1 with e1 _ ec
          injection e1 with e1
          subst e1 ec
          have hln : (fld p 2).length + x.length ≤ 140737488355328 := by
            have := sz_fld (hsz.out.2 p (List.mem_append_right _ List.mem_cons_self)) 2
            have := hi5; have := HX.out.2.1.2.2; omega
          replace hln := Aside0.mk hln
          have hst_ : ∀ w1 v1, P1 w3.drew (.slice ak (fld p 2).length ck) (fld p 2) x v1 w1 → _ := fun w1 v1 h => hstep w1 v1 h.1 h.2.1 h.2.2
          replace hst_ := Aside0.mk hst_
          replace hown := Aside0.mk hown
          replace hXw := Aside0.mk hXw
          clear hstep hIw
          have E0 := trivial
          refine start_ (n := 18) (S := fun w' => True) (ds := []) #[false, false, false, false, false, false, false, false, false, false, false, false, false, false, false, false, false, false] (by kernel_rfl) rfl rfl trivial (fun hHeld => ?_)
          refine with_tabW mread.tab17 mread.bits17 (fun HT_ HW_ => ?_)
          generalize w3.drew = wd at hcell hown hst_ hXw hHeld ⊢
          refine pure_ (i := 0) (N := some 64) (v := ?_) (a' := ?_) #[true, false, false, false, false, false, false, false, false, false, false, false, false, false, false, false, false, false] rfl rfl (any_of HT_.out (by kernel_rfl)) (fun _ _ _ h => h) (Or.inl ⟨by rfl, ?_⟩) ?_ ?_
          rotate_left
          · intro w'
            go_simp
            with_reducible rfl
          rotate_left
          · simp only [Act.put, List.setIfInBounds_toArray, List.set_cons_zero, List.set_cons_succ, i64_w, i32_w]
            rfl
          refine pure_ (i := 1) (N := some 65) (v := ?_) (a' := ?_) #[true, true, false, false, false, false, false, false, false, false, false, false, false, false, false, false, false, false] rfl rfl (any_of HT_.out (by kernel_rfl)) (fun _ _ _ h => h) (Or.inl ⟨by rfl, ?_⟩) ?_ ?_
          rotate_left
          · intro w'
            go_simp
            with_reducible rfl
          rotate_left
          · simp only [Act.put, List.setIfInBounds_toArray, List.set_cons_zero, List.set_cons_succ, i64_w, i32_w]
            rfl
          refine pure_ (i := 2) (N := some 66) (v := ?_) (a' := ?_) #[true, true, true, false, false, false, false, false, false, false, false, false, false, false, false, false, false, false] rfl rfl (any_of HT_.out (by kernel_rfl)) (fun _ _ _ h => h) (Or.inl ⟨by rfl, ?_⟩) ?_ ?_
          rotate_left
          · intro w'
            go_simp
            with_reducible rfl
          rotate_left
          · simp only [Act.put, List.setIfInBounds_toArray, List.set_cons_zero, List.set_cons_succ, i64_w, i32_w]
            rfl
          refine pure_ (i := 3) (N := some 67) (v := ?_) (a' := ?_) #[true, true, true, true, false, false, false, false, false, false, false, false, false, false, false, false, false, false] rfl rfl (any_of HT_.out (by kernel_rfl)) (fun _ _ _ h => h) (Or.inl ⟨by rfl, ?_⟩) ?_ ?_
          rotate_left
          · intro w'
            go_simp
            with_reducible rfl
          rotate_left
          · simp only [Act.put, List.setIfInBounds_toArray, List.set_cons_zero, List.set_cons_succ, i64_w, i32_w]
            rfl
          refine pure_ (i := 4) (N := some 68) (v := ?_) (a' := ?_) #[true, true, true, true, true, false, false, false, false, false, false, false, false, false, false, false, false, false] rfl rfl (any_of HT_.out (by kernel_rfl)) (fun _ _ _ h => h) (Or.inl ⟨by rfl, ?_⟩) ?_ ?_
          rotate_left
          · intro w'
            go_simp
            with_reducible rfl
          rotate_left
          · simp only [Act.put, List.setIfInBounds_toArray, List.set_cons_zero, List.set_cons_succ, i64_w, i32_w]
            rfl
          refine pure_ (i := 5) (N := some 69) (v := ?_) (a' := ?_) #[true, true, true, true, true, true, false, false, false, false, false, false, false, false, false, false, false, false] rfl rfl (any_of HT_.out (by kernel_rfl)) (fun _ _ _ h => h) (Or.inl ⟨by rfl, ?_⟩) ?_ ?_
          rotate_left
          · intro w'
            go_simp
            with_reducible rfl
          rotate_left
          · simp only [Act.put, List.setIfInBounds_toArray, List.set_cons_zero, List.set_cons_succ, i64_w, i32_w]
            rfl
          refine pure_ (i := 6) (N := some 70) (v := ?_) (a' := ?_) #[true, true, true, true, true, true, true, false, false, false, false, false, false, false, false, false, false, false] rfl rfl (any_of HT_.out (by kernel_rfl)) (fun _ _ _ h => h) (Or.inl ⟨by rfl, ?_⟩) ?_ ?_
          rotate_left
          · intro w'
            go_simp
            with_reducible rfl
          rotate_left
          · simp only [Act.put, List.setIfInBounds_toArray, List.set_cons_zero, List.set_cons_succ, i64_w, i32_w]
            rfl
          refine pure_ (i := 7) (N := some 71) (v := ?_) (a' := ?_) #[true, true, true, true, true, true, true, true, false, false, false, false, false, false, false, false, false, false] rfl rfl (any_of HT_.out (by kernel_rfl)) (fun _ _ _ h => h) (Or.inl ⟨by rfl, ?_⟩) ?_ ?_
          rotate_left
          · intro w'
            go_simp
            with_reducible rfl
          rotate_left
          · simp only [Act.put, List.setIfInBounds_toArray, List.set_cons_zero, List.set_cons_succ, i64_w, i32_w]
            rfl
          refine pure_ (i := 8) (N := some 72) (v := ?_) (a' := ?_) #[true, true, true, true, true, true, true, true, true, false, false, false, false, false, false, false, false, false] rfl rfl (any_of HT_.out (by kernel_rfl)) (fun _ _ _ h => h) (Or.inl ⟨by rfl, ?_⟩) ?_ ?_
          rotate_left
          · intro w'
            go_simp
            with_reducible rfl
          rotate_left
          · simp only [Act.put, List.setIfInBounds_toArray, List.set_cons_zero, List.set_cons_succ, i64_w, i32_w]
            rfl
          refine pure_ (i := 9) (N := some 73) (v := ?_) (a' := ?_) #[true, true, true, true, true, true, true, true, true, true, false, false, false, false, false, false, false, false] rfl rfl (any_of HT_.out (by kernel_rfl)) (fun _ _ _ h => h) (Or.inl ⟨by rfl, ?_⟩) ?_ ?_
          rotate_left
          · intro w'
            go_simp
            with_reducible rfl
          rotate_left
          · simp only [Act.put, List.setIfInBounds_toArray, List.set_cons_zero, List.set_cons_succ, i64_w, i32_w]
            rfl
          refine pure_ (i := 10) (N := some 74) (v := ?_) (a' := ?_) #[true, true, true, true, true, true, true, true, true, true, true, false, false, false, false, false, false, false] rfl rfl (any_of HT_.out (by kernel_rfl)) (fun _ _ _ h => h) (Or.inl ⟨by rfl, ?_⟩) ?_ ?_
          rotate_left
          · intro w'
            go_simp
            with_reducible rfl
          rotate_left
          · simp only [Act.put, List.setIfInBounds_toArray, List.set_cons_zero, List.set_cons_succ, i64_w, i32_w]
            rfl
          refine pure_ (i := 12) (N := some 76) (v := ?_) (a' := ?_) #[true, true, true, true, true, true, true, true, true, true, true, false, true, false, false, false, false, false] rfl rfl (any_of HT_.out (by kernel_rfl)) (fun _ _ _ h => h) (Or.inl ⟨by rfl, ?_⟩) ?_ ?_
          rotate_left
          · intro w'
            go_simp
            with_reducible rfl
          rotate_left
          · simp only [Act.put, List.setIfInBounds_toArray, List.set_cons_zero, List.set_cons_succ, i64_w, i32_w]
            rfl
          refine pure_ (i := 14) (N := some 78) (v := ?_) (a' := ?_) #[true, true, true, true, true, true, true, true, true, true, true, false, true, false, true, false, false, false] rfl rfl (any_of HT_.out (by kernel_rfl)) (fun _ _ _ h => h) (Or.inl ⟨by rfl, ?_⟩) ?_ ?_
          rotate_left
          · intro w'
            go_simp
            with_reducible rfl
          rotate_left
          · simp only [Act.put, List.setIfInBounds_toArray, List.set_cons_zero, List.set_cons_succ, i64_w, i32_w]
            rfl
          refine pure_ (i := 15) (N := some 79) (v := ?_) (a' := ?_) #[true, true, true, true, true, true, true, true, true, true, true, false, true, false, true, true, false, false] rfl rfl (any_of HT_.out (by kernel_rfl)) (fun _ _ _ h => h) (Or.inl ⟨by rfl, ?_⟩) ?_ ?_
          rotate_left
          · intro w'
            go_simp
            with_reducible rfl
          rotate_left
          · simp only [Act.put, List.setIfInBounds_toArray, List.set_cons_zero, List.set_cons_succ, i64_w, i32_w]
            rfl
          refine inv_at [11, 13, 16, 17] (fun a0_ b a w' => ∃ (vv : Value), a = putSel a0_ b [(11, 75, .slice ak (fld p 2).length ck), (13, 77, vv), (16, 80, .pointer (some ⟨(ad.add (fr.length * 5)).block, (ad.add (fr.length * 5)).off + 2 + 1, none⟩))] ∧ (b 13 = false → w' = wd) ∧ (b 13 = true → b 17 = false → P1 wd (.slice ak (fld p 2).length ck) (fld p 2) x vv w') ∧ (b 17 = true → P2 wd (.slice ak (fld p 2).length ck) (fld p 2) x ⟨(ad.add (fr.length * 5)).block, (ad.add (fr.length * 5)).off + 2 + 1, none⟩ vv w')) HT_.out HW_.out (by kernel_rfl) (by kernel_rfl) ?_ ?_ ?_
          · exact ⟨.bool false, by simp only [putSel, Bool.false_eq_true, if_false], fun _ => rfl, fun h_ => absurd h_ (by decide), fun h_ => absurd h_ (by decide)⟩
          · skip
            clear E0
            refine steps_cons ?_ ?_
            · rintro b a w' ⟨vv, ha, Q_E0, Q_E1, Q_E2⟩ hb_ hon hoff
              refine ⟨_, rfl, fun K hK => ?_⟩
              have e74 : a.tmps[74]? = some (.pointer (some ⟨(ad.add (fr.length * 5)).block, (ad.add (fr.length * 5)).off + 2 + 1, none⟩)) := by rw [ha]; exact (putSel_off rfl).trans rfl
              replace ha := Aside0.mk ha
              have E0 := Aside0.mk (Q_E0 (hoff 13 (by kernel_rfl)))
              have hw_ := E0.out
              have hc_ := hcell
              rw [← hw_] at hc_
              refine value_ (w1 := w') (v := .slice ak (fld p 2).length ck) (by rfl) rfl ?_ ?_
              · go_simp
                (try simp only [i64_w])
                try rfl
              refine hK.out _ _ ⟨vv, (by rw [ha.out]; exact putSel_upk 0 hb_ rfl rfl rfl), Q_E0, fun h0_ _ => absurd ((hoff 13 (by kernel_rfl)).symm.trans h0_) (by decide), fun h0_ => absurd ((hoff 17 (by kernel_rfl)).symm.trans h0_) (by decide)⟩
            refine steps_cons ?_ ?_
            · rintro b a w' ⟨vv, ha, Q_E0, Q_E1, Q_E2⟩ hb_ hon hoff
              refine ⟨_, rfl, fun K hK => ?_⟩
              have e75 : a.tmps[75]? = some (.slice ak (fld p 2).length ck) := by rw [ha]; exact putSel_on (e := (11, 75, .slice ak (fld p 2).length ck)) 0 rfl rfl (hon 11 (by kernel_rfl)) rfl
              have e76 : a.tmps[76]? = some (.slice (some ax) x.length cX) := by rw [ha]; exact (putSel_off rfl).trans rfl
              replace ha := Aside0.mk ha
              have E0 := Aside0.mk (Q_E0 hb_)
              have hw_ := E0.out
              refine app_spread_step (by rfl) (.tmp 75) (.tmp 76) rfl Tryd.underlying22 inf5 (.slice ak (fld p 2).length ck) _ (us8 (fld p 2)) x ax cX (eval_of e75) (eval_of e76) (hw_ ▸ hown.out) (hw_ ▸ hXw.out) hln.out ?_
              intro v1 w1 ho hg hat
              have S3_ : P1 wd (.slice ak (fld p 2).length ck) (fld p 2) x v1 w1 := ⟨ho, hw_ ▸ hg, hw_ ▸ hat⟩
              refine hK.out _ _ ⟨v1, (by rw [ha.out]; exact putSel_upk 1 hb_ rfl rfl rfl), fun h0_ => absurd ((up_self b 13).symm.trans h0_) (by decide), fun _ _ => S3_, fun h0_ => absurd ((hoff 17 (by kernel_rfl)).symm.trans h0_) (by decide)⟩
            refine steps_cons ?_ ?_
            · rintro b a w' ⟨vv, ha, Q_E0, Q_E1, Q_E2⟩ hb_ hon hoff
              refine ⟨_, rfl, fun K hK => ?_⟩
              have e79 : a.tmps[79]? = some (.pointer (some ⟨(ad.add (fr.length * 5)).block, (ad.add (fr.length * 5)).off + 2, none⟩)) := by rw [ha]; exact (putSel_off rfl).trans rfl
              have e67 : a.tmps[67]? = some (.int .i64 (wrap64 1)) := by rw [ha]; exact (putSel_off rfl).trans rfl
              replace ha := Aside0.mk ha
              have E1 := Aside0.mk (Q_E1 (hon 13 (by kernel_rfl)) (hoff 17 (by kernel_rfl)))
              refine value_ (w1 := w') (v := .pointer (some ⟨(ad.add (fr.length * 5)).block, (ad.add (fr.length * 5)).off + 2 + 1, none⟩)) (by rfl) rfl ?_ ?_
              · go_simp
                (try simp only [i64_w])
                try rfl
              refine hK.out _ _ ⟨vv, (by rw [ha.out]; exact putSel_upk 2 hb_ rfl rfl rfl), fun h0_ => absurd ((hon 13 (by kernel_rfl)).symm.trans h0_) (by decide), Q_E1, fun h0_ => absurd ((hoff 17 (by kernel_rfl)).symm.trans h0_) (by decide)⟩
            refine steps_cons ?_ ?_
            · rintro b a w' ⟨vv, ha, Q_E0, Q_E1, Q_E2⟩ hb_ hon hoff
              refine ⟨_, rfl, fun K hK => ?_⟩
              have e80 : a.tmps[80]? = some (.pointer (some ⟨(ad.add (fr.length * 5)).block, (ad.add (fr.length * 5)).off + 2 + 1, none⟩)) := by rw [ha]; exact putSel_on (e := (16, 80, .pointer (some ⟨(ad.add (fr.length * 5)).block, (ad.add (fr.length * 5)).off + 2 + 1, none⟩))) 2 rfl rfl (hon 16 (by kernel_rfl)) rfl
              have e77 : a.tmps[77]? = some (vv) := by rw [ha]; exact putSel_on (e := (13, 77, vv)) 1 rfl rfl (hon 13 (by kernel_rfl)) rfl
              replace ha := Aside0.mk ha
              have E1 := Aside0.mk (Q_E1 (hon 13 (by kernel_rfl)) hb_)
              obtain ⟨A_, c_, en_⟩ := E1.out.form
              obtain ⟨hc_, hf_, _⟩ := hst_.out w' vv E1.out
              refine skip_ (w1 := w'.setCell ⟨(ad.add (fr.length * 5)).block, (ad.add (fr.length * 5)).off + 2 + 1, none⟩ vv) (by rfl) rfl ?_ ?_
              · rw [en_] at e77 ⊢
                go_simp
                try rfl
              have S3_ := E1.out
              refine hK.out _ _ ⟨vv, (by rw [ha.out]; exact putSel_none (v := undef) rfl), fun h0_ => absurd ((hon 13 (by kernel_rfl)).symm.trans h0_) (by decide), fun _ h1_ => absurd ((up_self b 17).symm.trans h1_) (by decide), fun _ => ⟨w', S3_, rfl⟩⟩
            exact steps_nil
          · rintro b a w' hall ⟨vv, ha, Q_E0, Q_E1, Q_E2⟩
            clear E0
            have hb11_ := hall 11 (by kernel_rfl)
            have hb13_ := hall 13 (by kernel_rfl)
            have hb16_ := hall 16 (by kernel_rfl)
            have hb17_ := hall 17 (by kernel_rfl)
            subst ha
            simp only [putSel, hb11_, hb13_, hb16_, hb17_, if_true, Act.put, List.setIfInBounds_toArray, List.set_cons_zero, List.set_cons_succ]
            clear Q_E0
            clear Q_E1
            have E2 := Aside0.mk (Q_E2 hb17_)
            clear Q_E2
            clear hall hb11_ hb13_ hb16_ hb17_
            obtain ⟨w1_, h1_, rfl⟩ := E2.out
            obtain ⟨_, _, hI5⟩ := hst_.out w1_ vv h1_
            go_wp2
            go_roundg (L.length - (i + 1))
            case rel => exact ⟨_, wrap64 (ii + 1), 2, i + 1, by first | rfl | (simp; done) | (simp [hw1]; done), ⟨by rw [hw1]; have := hii.out; omega⟩, by first | rfl | (simp; done), by simp, by have := hii.out; omega, rfl, Aside0.mk (hnext.out.trans hyes.out), ⟨sz_add hsz.out x HX.out.2.1.2.2 2⟩, ⟨hI5⟩⟩
            case measure => have := hii.out; have := HX.out.2.2.2.2.2; omega
        · skip
          have hpn : ps ≠ [] := rdAll_ne hall.out (fun h => absurd rfl h) (by simp)
          obtain rfl | ⟨fr, p, rfl⟩ := snoc_cases ps
          · exact absurd rfl hpn
          clear hpn
          obtain rfl : m = fr.length + 1 := by rw [hm.out]; simp
          have hwj : wrap64 (fr.length : Int) = (fr.length : Int) := by have := hps5.out; simp at this; unfold wrap64; omega
          have hyes : rdStep N (fr ++ [p], 3) x = some (fr ++ [addF p x 3], 3) := by simp [rdStep, hsgq.out, onLast_snoc, addF, addSide]
          replace hyes := Aside0.mk hyes
          obtain ⟨ad, cap, vk, e1, _, _, _, _⟩ := hI.out.at 3 (by decide) x
          injection e1 with eA _ ec
          subst eA ec
          have hq0 : wrap64 2 = 2 := by unfold wrap64; omega
          have hjj := eq_true (show (fr.length : Int) < (fr.length : Int) + 1 by omega)
          go_wp2_with ((go_at_call 26; refine HMK.out.mono ?_; rintro e w3 ⟨rfl, hb3⟩))
          have hIw := hI.out.keep (below_drew1 hb3)
          have hXw := Kd.C_below HX.out.2.2.2.1 (below_drew1 hb3)
          obtain ⟨_, _, vk, e1, _, hcell, hown, hstep⟩ := hIw.at 3 (by decide) x
          obtain ⟨ak, ck, rfl, _⟩ := own_form hown
          injection e1 with e1 _ ec
          injection e1 with e1
          subst e1 ec
          have hln : (fld p 3).length + x.length ≤ 140737488355328 := by
            have := sz_fld (hsz.out.2 p (List.mem_append_right _ List.mem_cons_self)) 3
            have := hi5; have := HX.out.2.1.2.2; omega
          replace hln := Aside0.mk hln
          have hst_ : ∀ w1 v1, P1 w3.drew (.slice ak (fld p 3).length ck) (fld p 3) x v1 w1 → _ := fun w1 v1 h => hstep w1 v1 h.1 h.2.1 h.2.2
          replace hst_ := Aside0.mk hst_
          replace hown := Aside0.mk hown
          replace hXw := Aside0.mk hXw
          clear hstep hIw
          have E0 := trivial
          refine start_ (n := 18) (S := fun w' => True) (ds := []) #[false, false, false, false, false, false, false, false, false, false, false, false, false, false, false, false, false, false] (by kernel_rfl) rfl rfl trivial (fun hHeld => ?_)
          refine with_tabW mread.tab17 mread.bits17 (fun HT_ HW_ => ?_)
          generalize w3.drew = wd at hcell hown hst_ hXw hHeld ⊢
          refine pure_ (i := 0) (N := some 64) (v := ?_) (a' := ?_) #[true, false, false, false, false, false, false, false, false, false, false, false, false, false, false, false, false, false] rfl rfl (any_of HT_.out (by kernel_rfl)) (fun _ _ _ h => h) (Or.inl ⟨by rfl, ?_⟩) ?_ ?_
          rotate_left
          · intro w'
            go_simp
            with_reducible rfl
          rotate_left
          · simp only [Act.put, List.setIfInBounds_toArray, List.set_cons_zero, List.set_cons_succ, i64_w, i32_w]
            rfl
          refine pure_ (i := 1) (N := some 65) (v := ?_) (a' := ?_) #[true, true, false, false, false, false, false, false, false, false, false, false, false, false, false, false, false, false] rfl rfl (any_of HT_.out (by kernel_rfl)) (fun _ _ _ h => h) (Or.inl ⟨by rfl, ?_⟩) ?_ ?_
          rotate_left
          · intro w'
            go_simp
            with_reducible rfl
          rotate_left
          · simp only [Act.put, List.setIfInBounds_toArray, List.set_cons_zero, List.set_cons_succ, i64_w, i32_w]
            rfl
          refine pure_ (i := 2) (N := some 66) (v := ?_) (a' := ?_) #[true, true, true, false, false, false, false, false, false, false, false, false, false, false, false, false, false, false] rfl rfl (any_of HT_.out (by kernel_rfl)) (fun _ _ _ h => h) (Or.inl ⟨by rfl, ?_⟩) ?_ ?_
          rotate_left
          · intro w'
            go_simp
            with_reducible rfl
          rotate_left
          · simp only [Act.put, List.setIfInBounds_toArray, List.set_cons_zero, List.set_cons_succ, i64_w, i32_w]
            rfl
          refine pure_ (i := 3) (N := some 67) (v := ?_) (a' := ?_) #[true, true, true, true, false, false, false, false, false, false, false, false, false, false, false, false, false, false] rfl rfl (any_of HT_.out (by kernel_rfl)) (fun _ _ _ h => h) (Or.inl ⟨by rfl, ?_⟩) ?_ ?_
          rotate_left
          · intro w'
            go_simp
            with_reducible rfl
          rotate_left
          · simp only [Act.put, List.setIfInBounds_toArray, List.set_cons_zero, List.set_cons_succ, i64_w, i32_w]
            rfl
          refine pure_ (i := 4) (N := some 68) (v := ?_) (a' := ?_) #[true, true, true, true, true, false, false, false, false, false, false, false, false, false, false, false, false, false] rfl rfl (any_of HT_.out (by kernel_rfl)) (fun _ _ _ h => h) (Or.inl ⟨by rfl, ?_⟩) ?_ ?_
          rotate_left
          · intro w'
            go_simp
            with_reducible rfl
          rotate_left
          · simp only [Act.put, List.setIfInBounds_toArray, List.set_cons_zero, List.set_cons_succ, i64_w, i32_w]
            rfl
          refine pure_ (i := 5) (N := some 69) (v := ?_) (a' := ?_) #[true, true, true, true, true, true, false, false, false, false, false, false, false, false, false, false, false, false] rfl rfl (any_of HT_.out (by kernel_rfl)) (fun _ _ _ h => h) (Or.inl ⟨by rfl, ?_⟩) ?_ ?_
          rotate_left
          · intro w'
            go_simp
            with_reducible rfl
          rotate_left
          · simp only [Act.put, List.setIfInBounds_toArray, List.set_cons_zero, List.set_cons_succ, i64_w, i32_w]
            rfl
          refine pure_ (i := 6) (N := some 70) (v := ?_) (a' := ?_) #[true, true, true, true, true, true, true, false, false, false, false, false, false, false, false, false, false, false] rfl rfl (any_of HT_.out (by kernel_rfl)) (fun _ _ _ h => h) (Or.inl ⟨by rfl, ?_⟩) ?_ ?_
          rotate_left
          · intro w'
            go_simp
            with_reducible rfl
          rotate_left
          · simp only [Act.put, List.setIfInBounds_toArray, List.set_cons_zero, List.set_cons_succ, i64_w, i32_w]
            rfl
          refine pure_ (i := 7) (N := some 71) (v := ?_) (a' := ?_) #[true, true, true, true, true, true, true, true, false, false, false, false, false, false, false, false, false, false] rfl rfl (any_of HT_.out (by kernel_rfl)) (fun _ _ _ h => h) (Or.inl ⟨by rfl, ?_⟩) ?_ ?_
          rotate_left
          · intro w'
            go_simp
            with_reducible rfl
          rotate_left
          · simp only [Act.put, List.setIfInBounds_toArray, List.set_cons_zero, List.set_cons_succ, i64_w, i32_w]
            rfl
          refine pure_ (i := 8) (N := some 72) (v := ?_) (a' := ?_) #[true, true, true, true, true, true, true, true, true, false, false, false, false, false, false, false, false, false] rfl rfl (any_of HT_.out (by kernel_rfl)) (fun _ _ _ h => h) (Or.inl ⟨by rfl, ?_⟩) ?_ ?_
          rotate_left
          · intro w'
            go_simp
            with_reducible rfl
          rotate_left
          · simp only [Act.put, List.setIfInBounds_toArray, List.set_cons_zero, List.set_cons_succ, i64_w, i32_w]
            rfl
          refine pure_ (i := 9) (N := some 73) (v := ?_) (a' := ?_) #[true, true, true, true, true, true, true, true, true, true, false, false, false, false, false, false, false, false] rfl rfl (any_of HT_.out (by kernel_rfl)) (fun _ _ _ h => h) (Or.inl ⟨by rfl, ?_⟩) ?_ ?_
          rotate_left
          · intro w'
            go_simp
            with_reducible rfl
          rotate_left
          · simp only [Act.put, List.setIfInBounds_toArray, List.set_cons_zero, List.set_cons_succ, i64_w, i32_w]
            rfl
          refine pure_ (i := 10) (N := some 74) (v := ?_) (a' := ?_) #[true, true, true, true, true, true, true, true, true, true, true, false, false, false, false, false, false, false] rfl rfl (any_of HT_.out (by kernel_rfl)) (fun _ _ _ h => h) (Or.inl ⟨by rfl, ?_⟩) ?_ ?_
          rotate_left
          · intro w'
            go_simp
            with_reducible rfl
          rotate_left
          · simp only [Act.put, List.setIfInBounds_toArray, List.set_cons_zero, List.set_cons_succ, i64_w, i32_w]
            rfl
          refine pure_ (i := 12) (N := some 76) (v := ?_) (a' := ?_) #[true, true, true, true, true, true, true, true, true, true, true, false, true, false, false, false, false, false] rfl rfl (any_of HT_.out (by kernel_rfl)) (fun _ _ _ h => h) (Or.inl ⟨by rfl, ?_⟩) ?_ ?_
          rotate_left
          · intro w'
            go_simp
            with_reducible rfl
          rotate_left
          · simp only [Act.put, List.setIfInBounds_toArray, List.set_cons_zero, List.set_cons_succ, i64_w, i32_w]
            rfl
          refine pure_ (i := 14) (N := some 78) (v := ?_) (a' := ?_) #[true, true, true, true, true, true, true, true, true, true, true, false, true, false, true, false, false, false] rfl rfl (any_of HT_.out (by kernel_rfl)) (fun _ _ _ h => h) (Or.inl ⟨by rfl, ?_⟩) ?_ ?_
          rotate_left
          · intro w'
            go_simp
            with_reducible rfl
          rotate_left
          · simp only [Act.put, List.setIfInBounds_toArray, List.set_cons_zero, List.set_cons_succ, i64_w, i32_w]
            rfl
          refine pure_ (i := 15) (N := some 79) (v := ?_) (a' := ?_) #[true, true, true, true, true, true, true, true, true, true, true, false, true, false, true, true, false, false] rfl rfl (any_of HT_.out (by kernel_rfl)) (fun _ _ _ h => h) (Or.inl ⟨by rfl, ?_⟩) ?_ ?_
          rotate_left
          · intro w'
            go_simp
            with_reducible rfl
          rotate_left
          · simp only [Act.put, List.setIfInBounds_toArray, List.set_cons_zero, List.set_cons_succ, i64_w, i32_w]
            rfl
          refine inv_at [11, 13, 16, 17] (fun a0_ b a w' => ∃ (vv : Value), a = putSel a0_ b [(11, 75, .slice ak (fld p 3).length ck), (13, 77, vv), (16, 80, .pointer (some ⟨(ad.add (fr.length * 5)).block, (ad.add (fr.length * 5)).off + 2 + 2, none⟩))] ∧ (b 13 = false → w' = wd) ∧ (b 13 = true → b 17 = false → P1 wd (.slice ak (fld p 3).length ck) (fld p 3) x vv w') ∧ (b 17 = true → P2 wd (.slice ak (fld p 3).length ck) (fld p 3) x ⟨(ad.add (fr.length * 5)).block, (ad.add (fr.length * 5)).off + 2 + 2, none⟩ vv w')) HT_.out HW_.out (by kernel_rfl) (by kernel_rfl) ?_ ?_ ?_
          · exact ⟨.bool false, by simp only [putSel, Bool.false_eq_true, if_false], fun _ => rfl, fun h_ => absurd h_ (by decide), fun h_ => absurd h_ (by decide)⟩
          · skip
            clear E0
            refine steps_cons ?_ ?_
            · rintro b a w' ⟨vv, ha, Q_E0, Q_E1, Q_E2⟩ hb_ hon hoff
              refine ⟨_, rfl, fun K hK => ?_⟩
              have e74 : a.tmps[74]? = some (.pointer (some ⟨(ad.add (fr.length * 5)).block, (ad.add (fr.length * 5)).off + 2 + 2, none⟩)) := by rw [ha]; exact (putSel_off rfl).trans rfl
              replace ha := Aside0.mk ha
              have E0 := Aside0.mk (Q_E0 (hoff 13 (by kernel_rfl)))
              have hw_ := E0.out
              have hc_ := hcell
              rw [← hw_] at hc_
              refine value_ (w1 := w') (v := .slice ak (fld p 3).length ck) (by rfl) rfl ?_ ?_
              · go_simp
                (try simp only [i64_w])
                try rfl
              refine hK.out _ _ ⟨vv, (by rw [ha.out]; exact putSel_upk 0 hb_ rfl rfl rfl), Q_E0, fun h0_ _ => absurd ((hoff 13 (by kernel_rfl)).symm.trans h0_) (by decide), fun h0_ => absurd ((hoff 17 (by kernel_rfl)).symm.trans h0_) (by decide)⟩
            refine steps_cons ?_ ?_
            · rintro b a w' ⟨vv, ha, Q_E0, Q_E1, Q_E2⟩ hb_ hon hoff
              refine ⟨_, rfl, fun K hK => ?_⟩
              have e75 : a.tmps[75]? = some (.slice ak (fld p 3).length ck) := by rw [ha]; exact putSel_on (e := (11, 75, .slice ak (fld p 3).length ck)) 0 rfl rfl (hon 11 (by kernel_rfl)) rfl
              have e76 : a.tmps[76]? = some (.slice (some ax) x.length cX) := by rw [ha]; exact (putSel_off rfl).trans rfl
              replace ha := Aside0.mk ha
              have E0 := Aside0.mk (Q_E0 hb_)
              have hw_ := E0.out
              refine app_spread_step (by rfl) (.tmp 75) (.tmp 76) rfl Tryd.underlying22 inf5 (.slice ak (fld p 3).length ck) _ (us8 (fld p 3)) x ax cX (eval_of e75) (eval_of e76) (hw_ ▸ hown.out) (hw_ ▸ hXw.out) hln.out ?_
              intro v1 w1 ho hg hat
              have S3_ : P1 wd (.slice ak (fld p 3).length ck) (fld p 3) x v1 w1 := ⟨ho, hw_ ▸ hg, hw_ ▸ hat⟩
              refine hK.out _ _ ⟨v1, (by rw [ha.out]; exact putSel_upk 1 hb_ rfl rfl rfl), fun h0_ => absurd ((up_self b 13).symm.trans h0_) (by decide), fun _ _ => S3_, fun h0_ => absurd ((hoff 17 (by kernel_rfl)).symm.trans h0_) (by decide)⟩
            refine steps_cons ?_ ?_
            · rintro b a w' ⟨vv, ha, Q_E0, Q_E1, Q_E2⟩ hb_ hon hoff
              refine ⟨_, rfl, fun K hK => ?_⟩
              have e79 : a.tmps[79]? = some (.pointer (some ⟨(ad.add (fr.length * 5)).block, (ad.add (fr.length * 5)).off + 2, none⟩)) := by rw [ha]; exact (putSel_off rfl).trans rfl
              have e67 : a.tmps[67]? = some (.int .i64 (wrap64 2)) := by rw [ha]; exact (putSel_off rfl).trans rfl
              replace ha := Aside0.mk ha
              have E1 := Aside0.mk (Q_E1 (hon 13 (by kernel_rfl)) (hoff 17 (by kernel_rfl)))
              refine value_ (w1 := w') (v := .pointer (some ⟨(ad.add (fr.length * 5)).block, (ad.add (fr.length * 5)).off + 2 + 2, none⟩)) (by rfl) rfl ?_ ?_
              · go_simp
                (try simp only [i64_w])
                try rfl
              refine hK.out _ _ ⟨vv, (by rw [ha.out]; exact putSel_upk 2 hb_ rfl rfl rfl), fun h0_ => absurd ((hon 13 (by kernel_rfl)).symm.trans h0_) (by decide), Q_E1, fun h0_ => absurd ((hoff 17 (by kernel_rfl)).symm.trans h0_) (by decide)⟩
            refine steps_cons ?_ ?_
            · rintro b a w' ⟨vv, ha, Q_E0, Q_E1, Q_E2⟩ hb_ hon hoff
              refine ⟨_, rfl, fun K hK => ?_⟩
              have e80 : a.tmps[80]? = some (.pointer (some ⟨(ad.add (fr.length * 5)).block, (ad.add (fr.length * 5)).off + 2 + 2, none⟩)) := by rw [ha]; exact putSel_on (e := (16, 80, .pointer (some ⟨(ad.add (fr.length * 5)).block, (ad.add (fr.length * 5)).off + 2 + 2, none⟩))) 2 rfl rfl (hon 16 (by kernel_rfl)) rfl
              have e77 : a.tmps[77]? = some (vv) := by rw [ha]; exact putSel_on (e := (13, 77, vv)) 1 rfl rfl (hon 13 (by kernel_rfl)) rfl
              replace ha := Aside0.mk ha
              have E1 := Aside0.mk (Q_E1 (hon 13 (by kernel_rfl)) hb_)
              obtain ⟨A_, c_, en_⟩ := E1.out.form
              obtain ⟨hc_, hf_, _⟩ := hst_.out w' vv E1.out
              refine skip_ (w1 := w'.setCell ⟨(ad.add (fr.length * 5)).block, (ad.add (fr.length * 5)).off + 2 + 2, none⟩ vv) (by rfl) rfl ?_ ?_
              · rw [en_] at e77 ⊢
                go_simp
                try rfl
              have S3_ := E1.out
              refine hK.out _ _ ⟨vv, (by rw [ha.out]; exact putSel_none (v := undef) rfl), fun h0_ => absurd ((hon 13 (by kernel_rfl)).symm.trans h0_) (by decide), fun _ h1_ => absurd ((up_self b 17).symm.trans h1_) (by decide), fun _ => ⟨w', S3_, rfl⟩⟩
            exact steps_nil
          · rintro b a w' hall ⟨vv, ha, Q_E0, Q_E1, Q_E2⟩
            clear E0
            have hb11_ := hall 11 (by kernel_rfl)
            have hb13_ := hall 13 (by kernel_rfl)
            have hb16_ := hall 16 (by kernel_rfl)
            have hb17_ := hall 17 (by kernel_rfl)
            subst ha
            simp only [putSel, hb11_, hb13_, hb16_, hb17_, if_true, Act.put, List.setIfInBounds_toArray, List.set_cons_zero, List.set_cons_succ]
            clear Q_E0
            clear Q_E1
            have E2 := Aside0.mk (Q_E2 hb17_)
            clear Q_E2
            clear hall hb11_ hb13_ hb16_ hb17_
            obtain ⟨w1_, h1_, rfl⟩ := E2.out
            obtain ⟨_, _, hI5⟩ := hst_.out w1_ vv h1_
            go_wp2
            go_roundg (L.length - (i + 1))
            case rel => exact ⟨_, wrap64 (ii + 1), 3, i + 1, by first | rfl | (simp; done) | (simp [hw1]; done), ⟨by rw [hw1]; have := hii.out; omega⟩, by first | rfl | (simp; done), by simp, by have := hii.out; omega, rfl, Aside0.mk (hnext.out.trans hyes.out), ⟨sz_add hsz.out x HX.out.2.1.2.2 3⟩, ⟨hI5⟩⟩
            case measure => have := hii.out; have := HX.out.2.2.2.2.2; omega
      rcases hsg with rfl | hsg
      · rcases hst with rfl | rfl | rfl | rfl
        · skip
          have hyes : rdStep N (ps, 0) x = some (ps ++ [nwPt true], 1) := by simp [rdStep, hsgq.out]
          go_wp2_with (first | ((go_at_call 26; refine HMK.out.mono ?_; rintro e w3 ⟨rfl, hb3⟩); have hI3 := hI.out.keep hb3) | ((with_reducible refine gate_builtin (b := .append) (xs := #[.tmp 88, .tmp 90]) rfl ?_); at_builtin; refine app_push rfl (.tmp 88) (.tmp 90) 104 rfl Tryd.underlying23 inf50 (by decide) hI3 hps5.out _ hm.out.symm true rfl rfl ?_; intro Ao2 co2 w4 hI4))
          go_roundg (L.length - (i + 1))
          case rel => exact ⟨ps ++ [nwPt true], wrap64 (ii + 1), 1, i + 1, by first | rfl | (simp; done) | (simp [hw1]; done), ⟨by rw [hw1]; have := hii.out; omega⟩, by first | rfl | (simp; done), by simp, by have := hii.out; omega, rfl, Aside0.mk (hnext.out.trans hyes), ⟨sz_push hsz.out true⟩, ⟨hI4⟩⟩
          case measure => have := hii.out; have := HX.out.2.2.2.2.2; omega
        · skip
          have hno : rdStep N (ps, 1) x = none := by simp [rdStep, hsgq.out]
          have hR0 : R = ([], 5) := by
            rw [HRES.out, rdAll_none (hnext.out.trans hno)]
          go_wp2_with ((go_at_call 26; refine HMK.out.mono ?_; rintro e w3 ⟨rfl, hb3⟩))
          refine bodyPost_ret (results_tmp2 rfl _ _ _) rfl ?_
          rw [hR0]
          exact ⟨none, 0, rfl, Nat.zero_le _, Kd.C_nil kP _, hB2.out.trans (below_lo (hI.out.below.trans (below_lo hb3 hI.out.below.size)) hB2.out.size)⟩
        · skip
          have hno : rdStep N (ps, 2) x = none := by simp [rdStep, hsgq.out]
          have hR0 : R = ([], 5) := by
            rw [HRES.out, rdAll_none (hnext.out.trans hno)]
          go_wp2_with ((go_at_call 26; refine HMK.out.mono ?_; rintro e w3 ⟨rfl, hb3⟩))
          refine bodyPost_ret (results_tmp2 rfl _ _ _) rfl ?_
          rw [hR0]
          exact ⟨none, 0, rfl, Nat.zero_le _, Kd.C_nil kP _, hB2.out.trans (below_lo (hI.out.below.trans (below_lo hb3 hI.out.below.size)) hB2.out.size)⟩
        · skip
          have hno : rdStep N (ps, 3) x = none := by simp [rdStep, hsgq.out]
          have hR0 : R = ([], 5) := by
            rw [HRES.out, rdAll_none (hnext.out.trans hno)]
          go_wp2_with ((go_at_call 26; refine HMK.out.mono ?_; rintro e w3 ⟨rfl, hb3⟩))
          refine bodyPost_ret (results_tmp2 rfl _ _ _) rfl ?_
          rw [hR0]
          exact ⟨none, 0, rfl, Nat.zero_le _, Kd.C_nil kP _, hB2.out.trans (below_lo (hI.out.below.trans (below_lo hb3 hI.out.below.size)) hB2.out.size)⟩
      rcases hsg with rfl | hsg
      · rcases hst with rfl | rfl | rfl | rfl
        · skip
          have hno : rdStep N (ps, 0) x = none := by simp [rdStep, hsgq.out]
          have hR0 : R = ([], 5) := by
            rw [HRES.out, rdAll_none (hnext.out.trans hno)]
          go_wp2_with ((go_at_call 26; refine HMK.out.mono ?_; rintro e w3 ⟨rfl, hb3⟩))
          refine bodyPost_ret (results_tmp2 rfl _ _ _) rfl ?_
          rw [hR0]
          exact ⟨none, 0, rfl, Nat.zero_le _, Kd.C_nil kP _, hB2.out.trans (below_lo (hI.out.below.trans (below_lo hb3 hI.out.below.size)) hB2.out.size)⟩
        · skip
          have hyes : rdStep N (ps, 1) x = some (ps, 2) := by simp [rdStep, hsgq.out]
          go_wp2_with ((go_at_call 26; refine HMK.out.mono ?_; rintro e w3 ⟨rfl, hb3⟩); have hI3 := hI.out.keep hb3)
          go_roundg (L.length - (i + 1))
          case rel => exact ⟨ps, wrap64 (ii + 1), 2, i + 1, by first | rfl | (simp; done) | (simp [hw1]; done), ⟨by rw [hw1]; have := hii.out; omega⟩, by first | rfl | (simp; done), by simp, by have := hii.out; omega, rfl, Aside0.mk (hnext.out.trans hyes), ⟨sz_mono hsz.out⟩, ⟨hI3⟩⟩
          case measure => have := hii.out; have := HX.out.2.2.2.2.2; omega
        · skip
          have hno : rdStep N (ps, 2) x = none := by simp [rdStep, hsgq.out]
          have hR0 : R = ([], 5) := by
            rw [HRES.out, rdAll_none (hnext.out.trans hno)]
          go_wp2_with ((go_at_call 26; refine HMK.out.mono ?_; rintro e w3 ⟨rfl, hb3⟩))
          refine bodyPost_ret (results_tmp2 rfl _ _ _) rfl ?_
          rw [hR0]
          exact ⟨none, 0, rfl, Nat.zero_le _, Kd.C_nil kP _, hB2.out.trans (below_lo (hI.out.below.trans (below_lo hb3 hI.out.below.size)) hB2.out.size)⟩
        · skip
          have hno : rdStep N (ps, 3) x = none := by simp [rdStep, hsgq.out]
          have hR0 : R = ([], 5) := by
            rw [HRES.out, rdAll_none (hnext.out.trans hno)]
          go_wp2_with ((go_at_call 26; refine HMK.out.mono ?_; rintro e w3 ⟨rfl, hb3⟩))
          refine bodyPost_ret (results_tmp2 rfl _ _ _) rfl ?_
          rw [hR0]
          exact ⟨none, 0, rfl, Nat.zero_le _, Kd.C_nil kP _, hB2.out.trans (below_lo (hI.out.below.trans (below_lo hb3 hI.out.below.size)) hB2.out.size)⟩
      rcases hsg with rfl | hsg
      · rcases hst with rfl | rfl | rfl | rfl
        · skip
          have hno : rdStep N (ps, 0) x = none := by simp [rdStep, hsgq.out]
          have hR0 : R = ([], 5) := by
            rw [HRES.out, rdAll_none (hnext.out.trans hno)]
          go_wp2_with ((go_at_call 26; refine HMK.out.mono ?_; rintro e w3 ⟨rfl, hb3⟩))
          refine bodyPost_ret (results_tmp2 rfl _ _ _) rfl ?_
          rw [hR0]
          exact ⟨none, 0, rfl, Nat.zero_le _, Kd.C_nil kP _, hB2.out.trans (below_lo (hI.out.below.trans (below_lo hb3 hI.out.below.size)) hB2.out.size)⟩
        · skip
          have hno : rdStep N (ps, 1) x = none := by simp [rdStep, hsgq.out]
          have hR0 : R = ([], 5) := by
            rw [HRES.out, rdAll_none (hnext.out.trans hno)]
          go_wp2_with ((go_at_call 26; refine HMK.out.mono ?_; rintro e w3 ⟨rfl, hb3⟩))
          refine bodyPost_ret (results_tmp2 rfl _ _ _) rfl ?_
          rw [hR0]
          exact ⟨none, 0, rfl, Nat.zero_le _, Kd.C_nil kP _, hB2.out.trans (below_lo (hI.out.below.trans (below_lo hb3 hI.out.below.size)) hB2.out.size)⟩
        · skip
          have hyes : rdStep N (ps, 2) x = some (ps, 3) := by simp [rdStep, hsgq.out]
          go_wp2_with ((go_at_call 26; refine HMK.out.mono ?_; rintro e w3 ⟨rfl, hb3⟩); have hI3 := hI.out.keep hb3)
          go_roundg (L.length - (i + 1))
          case rel => exact ⟨ps, wrap64 (ii + 1), 3, i + 1, by first | rfl | (simp; done) | (simp [hw1]; done), ⟨by rw [hw1]; have := hii.out; omega⟩, by first | rfl | (simp; done), by simp, by have := hii.out; omega, rfl, Aside0.mk (hnext.out.trans hyes), ⟨sz_mono hsz.out⟩, ⟨hI3⟩⟩
          case measure => have := hii.out; have := HX.out.2.2.2.2.2; omega
        · skip
          have hno : rdStep N (ps, 3) x = none := by simp [rdStep, hsgq.out]
          have hR0 : R = ([], 5) := by
            rw [HRES.out, rdAll_none (hnext.out.trans hno)]
          go_wp2_with ((go_at_call 26; refine HMK.out.mono ?_; rintro e w3 ⟨rfl, hb3⟩))
          refine bodyPost_ret (results_tmp2 rfl _ _ _) rfl ?_
          rw [hR0]
          exact ⟨none, 0, rfl, Nat.zero_le _, Kd.C_nil kP _, hB2.out.trans (below_lo (hI.out.below.trans (below_lo hb3 hI.out.below.size)) hB2.out.size)⟩
      subst hsg
      rcases hst with rfl | rfl | rfl | rfl
      · skip
        have hno : rdStep N (ps, 0) x = none := by simp [rdStep, hsgq.out]
        have hR0 : R = ([], 5) := by
          rw [HRES.out, rdAll_none (hnext.out.trans hno)]
        go_wp2_with ((go_at_call 26; refine HMK.out.mono ?_; rintro e w3 ⟨rfl, hb3⟩))
        refine bodyPost_ret (results_tmp2 rfl _ _ _) rfl ?_
        rw [hR0]
        exact ⟨none, 0, rfl, Nat.zero_le _, Kd.C_nil kP _, hB2.out.trans (below_lo (hI.out.below.trans (below_lo hb3 hI.out.below.size)) hB2.out.size)⟩
      · skip
        have hno : rdStep N (ps, 1) x = none := by simp [rdStep, hsgq.out]
        have hR0 : R = ([], 5) := by
          rw [HRES.out, rdAll_none (hnext.out.trans hno)]
        go_wp2_with ((go_at_call 26; refine HMK.out.mono ?_; rintro e w3 ⟨rfl, hb3⟩))
        refine bodyPost_ret (results_tmp2 rfl _ _ _) rfl ?_
        rw [hR0]
        exact ⟨none, 0, rfl, Nat.zero_le _, Kd.C_nil kP _, hB2.out.trans (below_lo (hI.out.below.trans (below_lo hb3 hI.out.below.size)) hB2.out.size)⟩
      · skip
        have hno : rdStep N (ps, 2) x = none := by simp [rdStep, hsgq.out]
        have hR0 : R = ([], 5) := by
          rw [HRES.out, rdAll_none (hnext.out.trans hno)]
        go_wp2_with ((go_at_call 26; refine HMK.out.mono ?_; rintro e w3 ⟨rfl, hb3⟩))
        refine bodyPost_ret (results_tmp2 rfl _ _ _) rfl ?_
        rw [hR0]
        exact ⟨none, 0, rfl, Nat.zero_le _, Kd.C_nil kP _, hB2.out.trans (below_lo (hI.out.below.trans (below_lo hb3 hI.out.below.size)) hB2.out.size)⟩
      · skip
        have hyes : rdStep N (ps, 3) x = some (ps, 0) := by simp [rdStep, hsgq.out]
        go_wp2_with ((go_at_call 26; refine HMK.out.mono ?_; rintro e w3 ⟨rfl, hb3⟩); have hI3 := hI.out.keep hb3)
        go_roundg (L.length - (i + 1))
        case rel => exact ⟨ps, wrap64 (ii + 1), 0, i + 1, by first | rfl | (simp; done) | (simp [hw1]; done), ⟨by rw [hw1]; have := hii.out; omega⟩, by first | rfl | (simp; done), by simp, by have := hii.out; omega, rfl, Aside0.mk (hnext.out.trans hyes), ⟨sz_mono hsz.out⟩, ⟨hI3⟩⟩
        case measure => have := hii.out; have := HX.out.2.2.2.2.2; omega
    · have hi' : i = L.length := by have := hii.out; omega
      have hall2 : rdAll N L ([], 0) = some (ps, sti.toNat) := by have := hall.out; rwa [hi', List.take_length] at this
      rcases hst with rfl | rfl | rfl | rfl
      · obtain ⟨Ao, co, rfl, hoc, hC⟩ := hI.out.out
        replace hall2 := Aside0.mk hall2
        clear hi'
        go_wp2
        refine bodyPost_ret (results_tmp2 rfl _ _ _) rfl ?_
        have hR0 : R = (ps, 0) := by rw [HRES.out, hall2.out]; rfl
        rw [hR0]
        exact ⟨Ao, co, rfl, hoc, hC, hB2.out.trans (below_lo hI.out.below hB2.out.size)⟩
      all_goals
        replace hall2 := Aside0.mk hall2
        clear hi'
        go_wp2
        refine bodyPost_ret (results_tmp2 rfl _ _ _) rfl ?_
        have hR0 : R = ([], 5) := by rw [HRES.out, hall2.out]; rfl
        rw [hR0]
        exact ⟨none, 0, rfl, Nat.zero_le _, Kd.C_nil kP _, hB2.out.trans (below_lo hI.out.below hB2.out.size)⟩
 · have hright : mark_right.f n = some false := by
     unfold mark_right.f
     by_cases h : n ≥ 1
     · rw [if_pos h]; have : ¬ n ≤ 16777216 := fun h2 => hn ⟨h, h2⟩; simp [this]
     · rw [if_neg h]
   have hres : readOf n b = ([], 1) := by unfold readOf; rw [if_neg hn]
   rw [hres]
   clear hn hres
   go_enter Tryd.func9, Tryd.ntmps9
   go_wp2_with (go_at_call 24; refine (mark_right.calls _ false _ hright).mono ?_; rintro e w1 ⟨rfl, hb1⟩; replace hb1 := drawn_below hb1)
   refine bodyPost_ret (results_tmp2 rfl _ _ _) rfl ?_
   exact ⟨none, 0, rfl, Nat.zero_le _, Kd.C_nil kP _, hb1⟩
end Go.Proofs.YtnnnbeimehfiiaaDoor.Q
-- Written by a program of this session (wip/gen_few.py) for this claim; Lean checks it.
/-! few: parts of the document's, cut; walked. -/
set_option linter.unusedVariables false
set_option linter.unusedSimpArgs false
namespace Go.Proofs.YtnnnbeimehfiiaaDoor.Q
open Go Go.RowKit Go.Proofs.YtnnnbeimehfiiaaDoorW.PrintWords Go.Proofs.YtnnnbeimehfiiaaDoorW.PrintLast Go.Proofs.YtnnnbeimehfiiaaDoorW.PrintMore Go.Proofs.YtnnnbeimehfiiaaDoorW.SL
attribute [local go_sem] max2_int min2_int max_two min_two max_three min_three max_four min_four
def mfew.T7 : Bool × List (List Nat × List Nat) := (true, [([], []), ([], []), ([0, 1], [0, 1]), ([2], [2]), ([3], [3]), ([], []), ([], []), ([], []), ([6, 7], [6, 7]), ([8], [8]), ([9], [9]), ([5, 10], [5, 10]), ([], []), ([], []), ([], []), ([13, 14], [13, 14]), ([15], [15]), ([16], [16]), ([17], [17]), ([12, 18, 11], [12, 18]), ([], []), ([], []), ([], []), ([21, 22], [21, 22]), ([23], [23]), ([24], [24]), ([25], [25]), ([20, 26, 19], [20, 26]), ([], []), ([], []), ([], []), ([29, 30], [29, 30]), ([31], [31]), ([32], [32]), ([33], [33]), ([28, 34, 27], [28, 34]), ([19, 27, 35], [19, 27, 35]), ([4, 11, 36], [4, 11, 36]), ([], []), ([38, 37, 35, 0, 1, 2, 3, 4, 5, 6, 7, 8, 9, 10, 11, 12, 13, 14, 15, 16, 17, 18, 19, 20, 21, 22, 23, 24, 25, 26, 27, 28, 29, 30, 31, 32, 33, 34, 35, 36, 37, 38], [37, 38])])
def mfew.B7 : List Nat := [0, 0, 3, 7, 15, 0, 0, 0, 192, 448, 960, 2016, 0, 0, 0, 24576, 57344, 122880, 253952, 524256, 0, 0, 0, 6291456, 14680064, 31457280, 65011712, 134217696, 0, 0, 0, 1610612736, 3758096384, 8053063680, 16642998272, 34359738336, 68719476704, 137438953471, 0, 549755813887]
theorem mfew.tab7 : rtab .any (opsOf Tryd.f18 7) = mfew.T7 := by kernel_rfl
theorem mfew.bits7 : waitsOk mfew.T7.2 mfew.B7 = true := by kernel_rfl
def cutPt (p : Pt) : Pt := ⟨p.region, p.text.take 500, p.s0.take 500, p.s1.take 500, p.s2.take 500⟩
def fewOf (l : List Pt) : List Pt := (l.take 20).map cutPt
theorem fewOf_len (l : List Pt) : (fewOf l).length = min 20 l.length := by simp [fewOf]
theorem fewOf_small (l : List Pt) : ∀ p ∈ fewOf l, p.text.length ≤ 500 ∧ p.s0.length ≤ 500 ∧ p.s1.length ≤ 500 ∧ p.s2.length ≤ 500 := by
  intro p hp
  obtain ⟨q, _, rfl⟩ := List.mem_map.1 hp
  simp only [cutPt, List.length_take]; omega
theorem few_take {l : List Pt} {i : Nat} {x : Pt} (h : l[i]? = some x) (hi : i < 20) : (fewOf l).take (i + 1) = (fewOf l).take i ++ [cutPt x] := by
  rw [List.take_add_one]
  simp [fewOf, hi, h]
theorem F_cut {w : World} {ok : Nat → Prop} {A : Option Addr} {c : Nat} {x : List Int} (h : x.length ≤ c ∧ Kd.F B8 w ok A x.length x) : (x.take 500).length ≤ c ∧ Kd.F B8 w ok A (x.take 500).length (x.take 500) := by
  by_cases h5 : 500 ≤ x.length
  · have := Kd.F_take h.2 (m := 500) h5
    have e : (x.take 500).length = 500 := by simp [h5]
    rw [e] at this ⊢; exact ⟨by omega, this⟩
  · rw [List.take_of_length_le (by omega)]; exact h
theorem goesT_ {P : Program} {ops : Array Oper} {Q : Exit → Act → World → Prop} {oi : Oper} {N : Option Tmp} {a : Act} {w : World} {K : Act → World → Prop} {f : FuncId} {fn : Func} {op : Operand} {xs : Array Operand} {ts : Array TypeId} (hf : P.funcs[f]? = some fn) (hname : (fn.name == "runtime.NumGoroutine") = false) (hb : fn.body.isSome = true) (args : Array Value)
    (hw : Region.wanted oi (yielded ops a.tmps) = true) (hN : oi.dst = N) (hop : oi.op = .call { callee := .value op, args := xs, argTypes := ts }) (hv : a.eval op = .func (.func f) #[] #[]) (hargs : xs.map a.eval = args)
    (h : Calls P f args w fun e w' => ∃ v, e = .returned v ∧ K (a.put N v) w') : if Region.wanted oi (yielded ops a.tmps) = true then Oper.wp P oi a w K Q else K (a.put N undef) w := by
  refine call_ f args hw hN ?_ h
  have he := enters_ hf hname hb args w
  unfold execOp
  simp [hop, resolve, Deferred.ofValue, invoke, hv, hargs, he]
set_option maxHeartbeats 16000000 in
set_option maxRecDepth 100000 in
theorem cut_calls (A : Option Addr) (c : Nat) (l : List Int) (w : World) (hc : l.length ≤ c) :
    Calls Tryd.prog 33 #[.slice A l.length c] w fun e w' => e = .returned (.slice A (l.take 500).length c) ∧ w = w' := by
  have hmn : (if (500 : Int) < (l.length : Int) then 500 else (l.length : Int)) = ((l.take 500).length : Int) := by rw [List.length_take]; split <;> omega
  have hl : (l.take 500).length ≤ l.length := by rw [List.length_take]; omega
  have htk := take_at A c l ((l.take 500).length : Int) (by omega) (by omega) hc
  rw [Int.toNat_natCast] at htk
  have hz := eq_true (show (0 : Int) ≤ ((l.take 500).length : Int) by omega)
  have hy := eq_true (show ((l.take 500).length : Int) ≤ (l.length : Int) by omega)
  generalize (l.take 500).length = m at *
  go_enter Tryd.func33, Tryd.ntmps33
  go_wp2
  go_ret
  exact ⟨rfl, rfl⟩
/-- A box of cells, from B on. -/
def BxT (t B : Nat) (vp : Value) (cs : Array Value) (W : World) : Prop := ∃ gp, vp = .pointer (some ⟨gp, 0, none⟩) ∧ W.heap[gp]? = some (.cells cs t (0, 0)) ∧ B ≤ gp
theorem BxT.fill {t B : Nat} {gp : Nat} {c0 c1 c2 c3 c4 : Value} {W : World} (h : W.heap[gp]? = some (.cells #[c0, c1, c2, c3, c4] t (0, 0))) (hB : B ≤ gp) (u0 u1 u2 u3 u4 : Value) :
    BxT t B (.pointer (some ⟨gp, 0, none⟩)) #[u0, u1, u2, u3, u4] (((((W.setCell ⟨gp, 0, none⟩ u0).setCell ⟨gp, 1, none⟩ u1).setCell ⟨gp, 2, none⟩ u2).setCell ⟨gp, 3, none⟩ u3).setCell ⟨gp, 4, none⟩ u4) ∧
      (∀ w0, Below B w0 W → Below B w0 (((((W.setCell ⟨gp, 0, none⟩ u0).setCell ⟨gp, 1, none⟩ u1).setCell ⟨gp, 2, none⟩ u2).setCell ⟨gp, 3, none⟩ u3).setCell ⟨gp, 4, none⟩ u4)) ∧
      (((((W.setCell ⟨gp, 0, none⟩ u0).setCell ⟨gp, 1, none⟩ u1).setCell ⟨gp, 2, none⟩ u2).setCell ⟨gp, 3, none⟩ u3).setCell ⟨gp, 4, none⟩ u4).heap.size = W.heap.size := by
  have h1 := blk_set h 0 u0
  have h2 := blk_set h1 1 u1
  have h3 := blk_set h2 2 u2
  have h4 := blk_set h3 3 u3
  have h5 := blk_set h4 4 u4
  exact ⟨⟨gp, rfl, h5, hB⟩, fun w0 hb => ((((hb.setCell (p := ⟨gp, 0, none⟩) hB _).setCell (p := ⟨gp, 1, none⟩) hB _).setCell (p := ⟨gp, 2, none⟩) hB _).setCell (p := ⟨gp, 3, none⟩) hB _).setCell (p := ⟨gp, 4, none⟩) hB _, by simp [World.setCell]⟩
set_option maxHeartbeats 16000000 in
set_option maxRecDepth 100000 in
theorem few_calls (A : Option Addr) (c : Nat) (ps : List Pt) (w : World) (hr : Kd.C kP w A ps.length ps) (hc : ps.length ≤ c) :
    Calls Tryd.prog 18 #[.slice A ps.length c] w fun e w' => ∃ (A1 : Option Addr) (c1 : Nat) (A2 : Option Addr) (c2 : Nat), e = .returned (.tuple #[.slice A1 (fewOf ps).length c1, .slice A2 (fewOf ps).length c2]) ∧ (fewOf ps).length ≤ c1 ∧ Kd.C kP w' A1 (fewOf ps).length (fewOf ps) ∧ (fewOf ps).length ≤ c2 ∧ Kd.C kP w' A2 (fewOf ps).length (fewOf ps) ∧ Below w.heap.size w w' := by
  have hF0 : ∀ a ∈ [rdV kP A c ps], a.P w (fun k => k < w.heap.size) := by
    intro a ha; rw [List.mem_singleton] at ha; subst ha
    exact ⟨hc, Kd.C_F kP_heap hr⟩
  have HS : Aside0 (∃ cells, Stt w (fun k => k < w.heap.size) [rwP (.slice none 0 0) 44 0 cells, rwP (.slice none 0 0) 50 0 cells] [kpF ((fewOf ps).take 0) cells, rdV kP A c ps] w) := ⟨[], ((Stt.start w hF0).with ((Stt.start w hF0).st.row_nil 50 5)).with (((Stt.start w hF0).with ((Stt.start w hF0).st.row_nil 50 5)).st.row_nil 44 5) |>.add ⟨rfl, fun j p h => by simp at h⟩⟩
  clear hF0 hr hc
  obtain ⟨qs, hqs⟩ : ∃ qs, fewOf ps = qs := ⟨_, rfl⟩
  have hql := fewOf_len ps
  rw [hqs] at HS ⊢ hql
  replace hqs := Aside0.mk hqs
  replace hql := Aside0.mk hql
  go_enter Tryd.func18, Tryd.ntmps18
  go_wp2
  go_loopg [4, 5, 7] 20 (fun kq v4 v5 v7 W => ∃ (ii : Int) (i : Nat), v7 = .int .i64 ii ∧ Aside0 (ii = (i : Int)) ∧ i ≤ qs.length ∧ kq = 20 - i ∧ Aside0 (∃ cells, Stt w (fun k => k < w.heap.size) [rwP v5 44 i cells, rwP v4 50 i cells] [kpF (qs.take i) cells, rdV kP A c ps] W))
  case atStart => exact ⟨0, 0, rfl, ⟨rfl⟩, Nat.zero_le _, rfl, HS⟩
  case round =>
    obtain ⟨ii, i, rfl, hii, hi, hgk, hI⟩ := hrel
    obtain ⟨wb, rfl⟩ : ∃ q, q = wr := ⟨_, rfl⟩
    by_cases hin : ii < (ps.length : Int)
    · by_cases hin2 : ii < 20
      · have p0 : 0 ≤ ii := by have := hii.out; omega
        have e0 : ii.toNat = i := by have := hii.out; omega
        have hi20 : i < 20 := by have := hii.out; omega
        have hw1 : wrap64 (ii + 1) = ii + 1 := by have := hii.out; unfold wrap64; omega
        obtain ⟨cells, Sb⟩ := hI.out
        have S := Sb.keep (below_drew1 (Below.refl wb.heap.size wb))
        obtain ⟨ad, x, A1, c1, A2, c2, A3, c3, A4, c4, rfl, hxi, hok, hx0, hx1, hx2, hx3, hx4, g1, g2, g3, g4⟩ := at_Pt (S.rd 1 rfl).2 ii p0 hin
        rw [e0] at hxi
        have htk := few_take hxi hi20
        rw [hqs.out] at htk
        have hk := S.fr _ (List.mem_cons_self)
        have hk2 := kpF_snoc hk (cs := [.bool x.region, .slice A1 (x.text.take 500).length c1, .slice A2 (x.s0.take 500).length c2, .slice A3 (x.s1.take 500).length c3, .slice A4 (x.s2.take 500).length c4]) rfl (kP_mkF wb.drew _ (cutPt x) (F_cut g1) (F_cut g2) (F_cut g3) (F_cut g4))
        rw [← htk] at hk2
        have HF := Aside0.mk (S.add hk2)
        have hc0 := (⟨g1.1, g2.1, g3.1, g4.1⟩ : _ ∧ _ ∧ _ ∧ _)
        obtain ⟨rg, T, S0, S1, S2⟩ := x
        simp only at hx0 hx1 hx2 hx3 hx4 HF
        have HC : Aside0 (T.length ≤ c1 ∧ S0.length ≤ c2 ∧ S1.length ≤ c3 ∧ S2.length ≤ c4) := ⟨hc0⟩
        obtain ⟨T', hT'⟩ : ∃ m, (T.take 500).length = m := ⟨_, rfl⟩
        obtain ⟨S0', hS0'⟩ : ∃ m, (S0.take 500).length = m := ⟨_, rfl⟩
        obtain ⟨S1', hS1'⟩ : ∃ m, (S1.take 500).length = m := ⟨_, rfl⟩
        obtain ⟨S2', hS2'⟩ : ∃ m, (S2.take 500).length = m := ⟨_, rfl⟩
        have hcT := fun w => cut_calls A1 c1 T w HC.out.1
        have hcS0 := fun w => cut_calls A2 c2 S0 w HC.out.2.1
        have hcS1 := fun w => cut_calls A3 c3 S1 w HC.out.2.2.1
        have hcS2 := fun w => cut_calls A4 c4 S2 w HC.out.2.2.2
        rw [hT', hS0', hS1', hS2'] at HF
        simp only [hT'] at hcT
        simp only [hS0'] at hcS0
        simp only [hS1'] at hcS1
        simp only [hS2'] at hcS2
        have HCC := Aside0.mk (⟨hcT, hcS0, hcS1, hcS2⟩ : _ ∧ _ ∧ _ ∧ _)
        have HI := Aside0.mk (⟨hi, hgk, hi20⟩ : _ ∧ _ ∧ _)
        have hinb := eq_true hin
        have hinb2 := eq_true hin2
        have p0b := eq_true p0
        replace e0 := Aside0.mk e0
        clear hk hk2 htk hxi hok g1 g2 g3 g4 S Sb hI hc0 hT' hS0' hS1' hS2' hcT hcS0 hcS1 hcS2 hi hgk hi20
        go_wp2
        have E := trivial
        refine start_ (n := 40) (S := fun w' => True) (ds := []) #[false, false, false, false, false, false, false, false, false, false, false, false, false, false, false, false, false, false, false, false, false, false, false, false, false, false, false, false, false, false, false, false, false, false, false, false, false, false, false, false] (by kernel_rfl) rfl rfl trivial (fun hHeld => ?_)
        refine with_tabW mfew.tab7 mfew.bits7 (fun HT_ HW_ => ?_)
        have E := trivial
        generalize wb.drew = wd at hx0 hx1 hx2 hx3 hx4 HF hHeld ⊢
        refine pure_ (i := 0) (N := some 19) (v := ?_) (a' := ?_) #[true, false, false, false, false, false, false, false, false, false, false, false, false, false, false, false, false, false, false, false, false, false, false, false, false, false, false, false, false, false, false, false, false, false, false, false, false, false, false, false] rfl rfl (any_of HT_.out (by kernel_rfl)) (fun _ _ _ h => h) (Or.inl ⟨by rfl, ?_⟩) ?_ ?_
        rotate_left
        · intro w'
          go_simp
          with_reducible rfl
        rotate_left
        · simp only [Act.put, List.setIfInBounds_toArray, List.set_cons_zero, List.set_cons_succ, i64_w, i32_w]
          rfl
        refine pure_ (i := 1) (N := some 20) (v := ?_) (a' := ?_) #[true, true, false, false, false, false, false, false, false, false, false, false, false, false, false, false, false, false, false, false, false, false, false, false, false, false, false, false, false, false, false, false, false, false, false, false, false, false, false, false] rfl rfl (any_of HT_.out (by kernel_rfl)) (fun _ _ _ h => h) (Or.inl ⟨by rfl, ?_⟩) ?_ ?_
        rotate_left
        · intro w'
          go_simp
          with_reducible rfl
        rotate_left
        · simp only [Act.put, List.setIfInBounds_toArray, List.set_cons_zero, List.set_cons_succ, i64_w, i32_w]
          rfl
        refine pure_ (i := 2) (N := some 21) (v := ?_) (a' := ?_) #[true, true, true, false, false, false, false, false, false, false, false, false, false, false, false, false, false, false, false, false, false, false, false, false, false, false, false, false, false, false, false, false, false, false, false, false, false, false, false, false] rfl rfl (any_of HT_.out (by kernel_rfl)) (fun _ _ _ h => h) (Or.inl ⟨by rfl, ?_⟩) ?_ ?_
        rotate_left
        · intro w'
          go_simp
          with_reducible rfl
        rotate_left
        · simp only [Act.put, List.setIfInBounds_toArray, List.set_cons_zero, List.set_cons_succ, i64_w, i32_w]
          rfl
        refine pure_ (i := 3) (N := some 22) (v := ?_) (a' := ?_) #[true, true, true, true, false, false, false, false, false, false, false, false, false, false, false, false, false, false, false, false, false, false, false, false, false, false, false, false, false, false, false, false, false, false, false, false, false, false, false, false] rfl rfl (any_of HT_.out (by kernel_rfl)) (fun _ _ _ h => h) (Or.inl ⟨by rfl, ?_⟩) ?_ ?_
        rotate_left
        · intro w'
          go_simp
          with_reducible rfl
        rotate_left
        · simp only [Act.put, List.setIfInBounds_toArray, List.set_cons_zero, List.set_cons_succ, i64_w, i32_w]
          rfl
        refine pure_ (i := 5) (N := some 24) (v := ?_) (a' := ?_) #[true, true, true, true, false, true, false, false, false, false, false, false, false, false, false, false, false, false, false, false, false, false, false, false, false, false, false, false, false, false, false, false, false, false, false, false, false, false, false, false] rfl rfl (any_of HT_.out (by kernel_rfl)) (fun _ _ _ h => h) (Or.inl ⟨by rfl, ?_⟩) ?_ ?_
        rotate_left
        · intro w'
          go_simp
          with_reducible rfl
        rotate_left
        · simp only [Act.put, List.setIfInBounds_toArray, List.set_cons_zero, List.set_cons_succ, i64_w, i32_w]
          rfl
        refine pure_ (i := 6) (N := some 25) (v := ?_) (a' := ?_) #[true, true, true, true, false, true, true, false, false, false, false, false, false, false, false, false, false, false, false, false, false, false, false, false, false, false, false, false, false, false, false, false, false, false, false, false, false, false, false, false] rfl rfl (any_of HT_.out (by kernel_rfl)) (fun _ _ _ h => h) (Or.inl ⟨by rfl, ?_⟩) ?_ ?_
        rotate_left
        · intro w'
          go_simp
          with_reducible rfl
        rotate_left
        · simp only [Act.put, List.setIfInBounds_toArray, List.set_cons_zero, List.set_cons_succ, i64_w, i32_w]
          rfl
        refine pure_ (i := 7) (N := some 26) (v := ?_) (a' := ?_) #[true, true, true, true, false, true, true, true, false, false, false, false, false, false, false, false, false, false, false, false, false, false, false, false, false, false, false, false, false, false, false, false, false, false, false, false, false, false, false, false] rfl rfl (any_of HT_.out (by kernel_rfl)) (fun _ _ _ h => h) (Or.inl ⟨by rfl, ?_⟩) ?_ ?_
        rotate_left
        · intro w'
          go_simp
          with_reducible rfl
        rotate_left
        · simp only [Act.put, List.setIfInBounds_toArray, List.set_cons_zero, List.set_cons_succ, i64_w, i32_w]
          rfl
        refine pure_ (i := 8) (N := some 27) (v := ?_) (a' := ?_) #[true, true, true, true, false, true, true, true, true, false, false, false, false, false, false, false, false, false, false, false, false, false, false, false, false, false, false, false, false, false, false, false, false, false, false, false, false, false, false, false] rfl rfl (any_of HT_.out (by kernel_rfl)) (fun _ _ _ h => h) (Or.inl ⟨by rfl, ?_⟩) ?_ ?_
        rotate_left
        · intro w'
          go_simp
          with_reducible rfl
        rotate_left
        · simp only [Act.put, List.setIfInBounds_toArray, List.set_cons_zero, List.set_cons_succ, i64_w, i32_w]
          rfl
        refine pure_ (i := 9) (N := some 28) (v := ?_) (a' := ?_) #[true, true, true, true, false, true, true, true, true, true, false, false, false, false, false, false, false, false, false, false, false, false, false, false, false, false, false, false, false, false, false, false, false, false, false, false, false, false, false, false] rfl rfl (any_of HT_.out (by kernel_rfl)) (fun _ _ _ h => h) (Or.inl ⟨by rfl, ?_⟩) ?_ ?_
        rotate_left
        · intro w'
          go_simp
          with_reducible rfl
        rotate_left
        · simp only [Act.put, List.setIfInBounds_toArray, List.set_cons_zero, List.set_cons_succ, i64_w, i32_w]
          rfl
        refine pure_ (i := 12) (N := some 31) (v := ?_) (a' := ?_) #[true, true, true, true, false, true, true, true, true, true, false, false, true, false, false, false, false, false, false, false, false, false, false, false, false, false, false, false, false, false, false, false, false, false, false, false, false, false, false, false] rfl rfl (any_of HT_.out (by kernel_rfl)) (fun _ _ _ h => h) (Or.inl ⟨by rfl, ?_⟩) ?_ ?_
        rotate_left
        · intro w'
          go_simp
          with_reducible rfl
        rotate_left
        · simp only [Act.put, List.setIfInBounds_toArray, List.set_cons_zero, List.set_cons_succ, i64_w, i32_w]
          rfl
        refine pure_ (i := 13) (N := some 32) (v := ?_) (a' := ?_) #[true, true, true, true, false, true, true, true, true, true, false, false, true, true, false, false, false, false, false, false, false, false, false, false, false, false, false, false, false, false, false, false, false, false, false, false, false, false, false, false] rfl rfl (any_of HT_.out (by kernel_rfl)) (fun _ _ _ h => h) (Or.inl ⟨by rfl, ?_⟩) ?_ ?_
        rotate_left
        · intro w'
          go_simp
          with_reducible rfl
        rotate_left
        · simp only [Act.put, List.setIfInBounds_toArray, List.set_cons_zero, List.set_cons_succ, i64_w, i32_w]
          rfl
        refine pure_ (i := 14) (N := some 33) (v := ?_) (a' := ?_) #[true, true, true, true, false, true, true, true, true, true, false, false, true, true, true, false, false, false, false, false, false, false, false, false, false, false, false, false, false, false, false, false, false, false, false, false, false, false, false, false] rfl rfl (any_of HT_.out (by kernel_rfl)) (fun _ _ _ h => h) (Or.inl ⟨by rfl, ?_⟩) ?_ ?_
        rotate_left
        · intro w'
          go_simp
          with_reducible rfl
        rotate_left
        · simp only [Act.put, List.setIfInBounds_toArray, List.set_cons_zero, List.set_cons_succ, i64_w, i32_w]
          rfl
        refine pure_ (i := 15) (N := some 34) (v := ?_) (a' := ?_) #[true, true, true, true, false, true, true, true, true, true, false, false, true, true, true, true, false, false, false, false, false, false, false, false, false, false, false, false, false, false, false, false, false, false, false, false, false, false, false, false] rfl rfl (any_of HT_.out (by kernel_rfl)) (fun _ _ _ h => h) (Or.inl ⟨by rfl, ?_⟩) ?_ ?_
        rotate_left
        · intro w'
          go_simp
          with_reducible rfl
        rotate_left
        · simp only [Act.put, List.setIfInBounds_toArray, List.set_cons_zero, List.set_cons_succ, i64_w, i32_w]
          rfl
        refine pure_ (i := 16) (N := some 35) (v := ?_) (a' := ?_) #[true, true, true, true, false, true, true, true, true, true, false, false, true, true, true, true, true, false, false, false, false, false, false, false, false, false, false, false, false, false, false, false, false, false, false, false, false, false, false, false] rfl rfl (any_of HT_.out (by kernel_rfl)) (fun _ _ _ h => h) (Or.inl ⟨by rfl, ?_⟩) ?_ ?_
        rotate_left
        · intro w'
          go_simp
          with_reducible rfl
        rotate_left
        · simp only [Act.put, List.setIfInBounds_toArray, List.set_cons_zero, List.set_cons_succ, i64_w, i32_w]
          rfl
        refine pure_ (i := 17) (N := some 36) (v := ?_) (a' := ?_) #[true, true, true, true, false, true, true, true, true, true, false, false, true, true, true, true, true, true, false, false, false, false, false, false, false, false, false, false, false, false, false, false, false, false, false, false, false, false, false, false] rfl rfl (any_of HT_.out (by kernel_rfl)) (fun _ _ _ h => h) (Or.inl ⟨by rfl, ?_⟩) ?_ ?_
        rotate_left
        · intro w'
          go_simp
          with_reducible rfl
        rotate_left
        · simp only [Act.put, List.setIfInBounds_toArray, List.set_cons_zero, List.set_cons_succ, i64_w, i32_w]
          rfl
        refine pure_ (i := 20) (N := some 39) (v := ?_) (a' := ?_) #[true, true, true, true, false, true, true, true, true, true, false, false, true, true, true, true, true, true, false, false, true, false, false, false, false, false, false, false, false, false, false, false, false, false, false, false, false, false, false, false] rfl rfl (any_of HT_.out (by kernel_rfl)) (fun _ _ _ h => h) (Or.inl ⟨by rfl, ?_⟩) ?_ ?_
        rotate_left
        · intro w'
          go_simp
          with_reducible rfl
        rotate_left
        · simp only [Act.put, List.setIfInBounds_toArray, List.set_cons_zero, List.set_cons_succ, i64_w, i32_w]
          rfl
        refine pure_ (i := 21) (N := some 40) (v := ?_) (a' := ?_) #[true, true, true, true, false, true, true, true, true, true, false, false, true, true, true, true, true, true, false, false, true, true, false, false, false, false, false, false, false, false, false, false, false, false, false, false, false, false, false, false] rfl rfl (any_of HT_.out (by kernel_rfl)) (fun _ _ _ h => h) (Or.inl ⟨by rfl, ?_⟩) ?_ ?_
        rotate_left
        · intro w'
          go_simp
          with_reducible rfl
        rotate_left
        · simp only [Act.put, List.setIfInBounds_toArray, List.set_cons_zero, List.set_cons_succ, i64_w, i32_w]
          rfl
        refine pure_ (i := 22) (N := some 41) (v := ?_) (a' := ?_) #[true, true, true, true, false, true, true, true, true, true, false, false, true, true, true, true, true, true, false, false, true, true, true, false, false, false, false, false, false, false, false, false, false, false, false, false, false, false, false, false] rfl rfl (any_of HT_.out (by kernel_rfl)) (fun _ _ _ h => h) (Or.inl ⟨by rfl, ?_⟩) ?_ ?_
        rotate_left
        · intro w'
          go_simp
          with_reducible rfl
        rotate_left
        · simp only [Act.put, List.setIfInBounds_toArray, List.set_cons_zero, List.set_cons_succ, i64_w, i32_w]
          rfl
        refine pure_ (i := 23) (N := some 42) (v := ?_) (a' := ?_) #[true, true, true, true, false, true, true, true, true, true, false, false, true, true, true, true, true, true, false, false, true, true, true, true, false, false, false, false, false, false, false, false, false, false, false, false, false, false, false, false] rfl rfl (any_of HT_.out (by kernel_rfl)) (fun _ _ _ h => h) (Or.inl ⟨by rfl, ?_⟩) ?_ ?_
        rotate_left
        · intro w'
          go_simp
          with_reducible rfl
        rotate_left
        · simp only [Act.put, List.setIfInBounds_toArray, List.set_cons_zero, List.set_cons_succ, i64_w, i32_w]
          rfl
        refine pure_ (i := 24) (N := some 43) (v := ?_) (a' := ?_) #[true, true, true, true, false, true, true, true, true, true, false, false, true, true, true, true, true, true, false, false, true, true, true, true, true, false, false, false, false, false, false, false, false, false, false, false, false, false, false, false] rfl rfl (any_of HT_.out (by kernel_rfl)) (fun _ _ _ h => h) (Or.inl ⟨by rfl, ?_⟩) ?_ ?_
        rotate_left
        · intro w'
          go_simp
          with_reducible rfl
        rotate_left
        · simp only [Act.put, List.setIfInBounds_toArray, List.set_cons_zero, List.set_cons_succ, i64_w, i32_w]
          rfl
        refine pure_ (i := 25) (N := some 44) (v := ?_) (a' := ?_) #[true, true, true, true, false, true, true, true, true, true, false, false, true, true, true, true, true, true, false, false, true, true, true, true, true, true, false, false, false, false, false, false, false, false, false, false, false, false, false, false] rfl rfl (any_of HT_.out (by kernel_rfl)) (fun _ _ _ h => h) (Or.inl ⟨by rfl, ?_⟩) ?_ ?_
        rotate_left
        · intro w'
          go_simp
          with_reducible rfl
        rotate_left
        · simp only [Act.put, List.setIfInBounds_toArray, List.set_cons_zero, List.set_cons_succ, i64_w, i32_w]
          rfl
        refine pure_ (i := 28) (N := some 47) (v := ?_) (a' := ?_) #[true, true, true, true, false, true, true, true, true, true, false, false, true, true, true, true, true, true, false, false, true, true, true, true, true, true, false, false, true, false, false, false, false, false, false, false, false, false, false, false] rfl rfl (any_of HT_.out (by kernel_rfl)) (fun _ _ _ h => h) (Or.inl ⟨by rfl, ?_⟩) ?_ ?_
        rotate_left
        · intro w'
          go_simp
          with_reducible rfl
        rotate_left
        · simp only [Act.put, List.setIfInBounds_toArray, List.set_cons_zero, List.set_cons_succ, i64_w, i32_w]
          rfl
        refine pure_ (i := 29) (N := some 48) (v := ?_) (a' := ?_) #[true, true, true, true, false, true, true, true, true, true, false, false, true, true, true, true, true, true, false, false, true, true, true, true, true, true, false, false, true, true, false, false, false, false, false, false, false, false, false, false] rfl rfl (any_of HT_.out (by kernel_rfl)) (fun _ _ _ h => h) (Or.inl ⟨by rfl, ?_⟩) ?_ ?_
        rotate_left
        · intro w'
          go_simp
          with_reducible rfl
        rotate_left
        · simp only [Act.put, List.setIfInBounds_toArray, List.set_cons_zero, List.set_cons_succ, i64_w, i32_w]
          rfl
        refine pure_ (i := 30) (N := some 49) (v := ?_) (a' := ?_) #[true, true, true, true, false, true, true, true, true, true, false, false, true, true, true, true, true, true, false, false, true, true, true, true, true, true, false, false, true, true, true, false, false, false, false, false, false, false, false, false] rfl rfl (any_of HT_.out (by kernel_rfl)) (fun _ _ _ h => h) (Or.inl ⟨by rfl, ?_⟩) ?_ ?_
        rotate_left
        · intro w'
          go_simp
          with_reducible rfl
        rotate_left
        · simp only [Act.put, List.setIfInBounds_toArray, List.set_cons_zero, List.set_cons_succ, i64_w, i32_w]
          rfl
        refine pure_ (i := 31) (N := some 50) (v := ?_) (a' := ?_) #[true, true, true, true, false, true, true, true, true, true, false, false, true, true, true, true, true, true, false, false, true, true, true, true, true, true, false, false, true, true, true, true, false, false, false, false, false, false, false, false] rfl rfl (any_of HT_.out (by kernel_rfl)) (fun _ _ _ h => h) (Or.inl ⟨by rfl, ?_⟩) ?_ ?_
        rotate_left
        · intro w'
          go_simp
          with_reducible rfl
        rotate_left
        · simp only [Act.put, List.setIfInBounds_toArray, List.set_cons_zero, List.set_cons_succ, i64_w, i32_w]
          rfl
        refine pure_ (i := 32) (N := some 51) (v := ?_) (a' := ?_) #[true, true, true, true, false, true, true, true, true, true, false, false, true, true, true, true, true, true, false, false, true, true, true, true, true, true, false, false, true, true, true, true, true, false, false, false, false, false, false, false] rfl rfl (any_of HT_.out (by kernel_rfl)) (fun _ _ _ h => h) (Or.inl ⟨by rfl, ?_⟩) ?_ ?_
        rotate_left
        · intro w'
          go_simp
          with_reducible rfl
        rotate_left
        · simp only [Act.put, List.setIfInBounds_toArray, List.set_cons_zero, List.set_cons_succ, i64_w, i32_w]
          rfl
        refine pure_ (i := 33) (N := some 52) (v := ?_) (a' := ?_) #[true, true, true, true, false, true, true, true, true, true, false, false, true, true, true, true, true, true, false, false, true, true, true, true, true, true, false, false, true, true, true, true, true, true, false, false, false, false, false, false] rfl rfl (any_of HT_.out (by kernel_rfl)) (fun _ _ _ h => h) (Or.inl ⟨by rfl, ?_⟩) ?_ ?_
        rotate_left
        · intro w'
          go_simp
          with_reducible rfl
        rotate_left
        · simp only [Act.put, List.setIfInBounds_toArray, List.set_cons_zero, List.set_cons_succ, i64_w, i32_w]
          rfl
        refine inv_at [4, 10, 11, 18, 19, 26, 27, 34, 35, 36, 37, 38, 39] (fun a0_ b a w' => ∃ (vp : Value), a = putSel a0_ b [(4, 23, .bool rg), (10, 29, .slice A1 T.length c1), (11, 30, .slice A1 T' c1), (18, 37, .slice A2 S0.length c2), (19, 38, .slice A2 S0' c2), (26, 45, .slice A3 S1.length c3), (27, 46, .slice A3 S1' c3), (34, 53, .slice A4 S2.length c4), (35, 54, .slice A4 S2' c4), (36, 55, .agg #[.slice A2 S0' c2, .slice A3 S1' c3, .slice A4 S2' c4]), (37, 56, .agg #[.bool rg, .slice A1 T' c1, .slice A2 S0' c2, .slice A3 S1' c3, .slice A4 S2' c4]), (38, 8, vp)] ∧ (Below wd.heap.size wd w' ∧ wd.heap.size ≤ w'.heap.size) ∧ (b 38 = true → b 39 = false → BxT 44 wd.heap.size vp #[.bool false, .slice none 0 0, .slice none 0 0, .slice none 0 0, .slice none 0 0] w') ∧ (b 39 = true → BxT 44 wd.heap.size vp #[.bool rg, .slice A1 T' c1, .slice A2 S0' c2, .slice A3 S1' c3, .slice A4 S2' c4] w')) HT_.out HW_.out (by kernel_rfl) (by kernel_rfl) ?_ ?_ ?_
        · exact ⟨.bool false, by simp only [putSel, Bool.false_eq_true, if_false], ⟨Below.refl _ _, Nat.le_refl _⟩, fun h_ => absurd h_ (by decide), fun h_ => absurd h_ (by decide)⟩
        · skip
          clear E
          refine steps_cons ?_ ?_
          · rintro b a w' ⟨vp, ha, Q_E, Q_Eg, Q_Ef⟩ hb_ hon hoff
            refine ⟨_, rfl, fun K hK => ?_⟩
            have e22 : a.tmps[22]? = some (.pointer (some (ad.add (ii.toNat * 5)))) := by rw [ha]; exact (putSel_off rfl).trans rfl
            replace ha := Aside0.mk ha
            have E := Aside0.mk Q_E
            have hc_ := (E.out.1.cell (World.block_lt_of_cell? _ _ hx0)).trans hx0
            refine value_ (w1 := w') (v := .bool rg) (by rfl) rfl ?_ ?_
            · go_simp
              (try simp only [i64_w])
              try rfl
            refine hK.out _ _ ⟨vp, (by rw [ha.out]; exact putSel_upk 0 hb_ rfl rfl rfl), Q_E, Q_Eg, fun h0_ => absurd ((hoff 39 (by kernel_rfl)).symm.trans h0_) (by decide)⟩
          refine steps_cons ?_ ?_
          · rintro b a w' ⟨vp, ha, Q_E, Q_Eg, Q_Ef⟩ hb_ hon hoff
            refine ⟨_, rfl, fun K hK => ?_⟩
            have e28 : a.tmps[28]? = some (.pointer (some ⟨(ad.add (ii.toNat * 5)).block, (ad.add (ii.toNat * 5)).off + 1, none⟩)) := by rw [ha]; exact (putSel_off rfl).trans rfl
            replace ha := Aside0.mk ha
            have E := Aside0.mk Q_E
            have hc_ := (E.out.1.cell (World.block_lt_of_cell? _ _ hx1)).trans hx1
            refine value_ (w1 := w') (v := .slice A1 T.length c1) (by rfl) rfl ?_ ?_
            · go_simp
              (try simp only [i64_w])
              try rfl
            refine hK.out _ _ ⟨vp, (by rw [ha.out]; exact putSel_upk 1 hb_ rfl rfl rfl), Q_E, Q_Eg, fun h0_ => absurd ((hoff 39 (by kernel_rfl)).symm.trans h0_) (by decide)⟩
          refine steps_cons ?_ ?_
          · rintro b a w' ⟨vp, ha, Q_E, Q_Eg, Q_Ef⟩ hb_ hon hoff
            refine ⟨_, rfl, fun K hK => ?_⟩
            have e24 : a.tmps[24]? = some (.func (.func 33) #[] #[]) := by rw [ha]; exact (putSel_off rfl).trans rfl
            have e29 : a.tmps[29]? = some (.slice A1 T.length c1) := by rw [ha]; exact putSel_on (e := (10, 29, .slice A1 T.length c1)) 1 rfl rfl (hon 10 (by kernel_rfl)) rfl
            replace ha := Aside0.mk ha
            have E := Aside0.mk Q_E
            refine goesT_ Tryd.func33 (by kernel_rfl) rfl #[.slice A1 T.length c1] (by rfl) rfl rfl (eval_of e24) (by first | (simp only [List.map_toArray, List.map_cons, List.map_nil, Act.eval, Array.getD_eq_getD_getElem?, Option.getD_some, e24, e29]; done) | (simp only [List.map_toArray, List.map_cons, List.map_nil, Act.eval, Array.getD_eq_getD_getElem?, Option.getD_some, e24, e29]; rfl)) ?_
            refine (HCC.out.1 _).mono ?_
            rintro e w20 ⟨rfl, hw_⟩
            subst hw_
            refine ⟨_, rfl, ?_⟩
            refine hK.out _ _ ⟨vp, (by rw [ha.out]; exact putSel_upk 2 hb_ rfl rfl rfl), E.out, fun h0_ h1_ => (Q_Eg h0_ h1_), fun h0_ => absurd ((hoff 39 (by kernel_rfl)).symm.trans h0_) (by decide)⟩
          refine steps_cons ?_ ?_
          · rintro b a w' ⟨vp, ha, Q_E, Q_Eg, Q_Ef⟩ hb_ hon hoff
            refine ⟨_, rfl, fun K hK => ?_⟩
            have e36 : a.tmps[36]? = some (.pointer (some ⟨(ad.add (ii.toNat * 5)).block, (ad.add (ii.toNat * 5)).off + 2, none⟩)) := by rw [ha]; exact (putSel_off rfl).trans rfl
            replace ha := Aside0.mk ha
            have E := Aside0.mk Q_E
            have hc_ := (E.out.1.cell (World.block_lt_of_cell? _ _ hx2)).trans hx2
            refine value_ (w1 := w') (v := .slice A2 S0.length c2) (by rfl) rfl ?_ ?_
            · go_simp
              (try simp only [i64_w])
              try rfl
            refine hK.out _ _ ⟨vp, (by rw [ha.out]; exact putSel_upk 3 hb_ rfl rfl rfl), Q_E, Q_Eg, fun h0_ => absurd ((hoff 39 (by kernel_rfl)).symm.trans h0_) (by decide)⟩
          refine steps_cons ?_ ?_
          · rintro b a w' ⟨vp, ha, Q_E, Q_Eg, Q_Ef⟩ hb_ hon hoff
            refine ⟨_, rfl, fun K hK => ?_⟩
            have e31 : a.tmps[31]? = some (.func (.func 33) #[] #[]) := by rw [ha]; exact (putSel_off rfl).trans rfl
            have e37 : a.tmps[37]? = some (.slice A2 S0.length c2) := by rw [ha]; exact putSel_on (e := (18, 37, .slice A2 S0.length c2)) 3 rfl rfl (hon 18 (by kernel_rfl)) rfl
            replace ha := Aside0.mk ha
            have E := Aside0.mk Q_E
            refine goesT_ Tryd.func33 (by kernel_rfl) rfl #[.slice A2 S0.length c2] (by rfl) rfl rfl (eval_of e31) (by first | (simp only [List.map_toArray, List.map_cons, List.map_nil, Act.eval, Array.getD_eq_getD_getElem?, Option.getD_some, e31, e37]; done) | (simp only [List.map_toArray, List.map_cons, List.map_nil, Act.eval, Array.getD_eq_getD_getElem?, Option.getD_some, e31, e37]; rfl)) ?_
            refine (HCC.out.2.1 _).mono ?_
            rintro e w20 ⟨rfl, hw_⟩
            subst hw_
            refine ⟨_, rfl, ?_⟩
            refine hK.out _ _ ⟨vp, (by rw [ha.out]; exact putSel_upk 4 hb_ rfl rfl rfl), E.out, fun h0_ h1_ => (Q_Eg h0_ h1_), fun h0_ => absurd ((hoff 39 (by kernel_rfl)).symm.trans h0_) (by decide)⟩
          refine steps_cons ?_ ?_
          · rintro b a w' ⟨vp, ha, Q_E, Q_Eg, Q_Ef⟩ hb_ hon hoff
            refine ⟨_, rfl, fun K hK => ?_⟩
            have e44 : a.tmps[44]? = some (.pointer (some ⟨(ad.add (ii.toNat * 5)).block, (ad.add (ii.toNat * 5)).off + 3, none⟩)) := by rw [ha]; exact (putSel_off rfl).trans rfl
            replace ha := Aside0.mk ha
            have E := Aside0.mk Q_E
            have hc_ := (E.out.1.cell (World.block_lt_of_cell? _ _ hx3)).trans hx3
            refine value_ (w1 := w') (v := .slice A3 S1.length c3) (by rfl) rfl ?_ ?_
            · go_simp
              (try simp only [i64_w])
              try rfl
            refine hK.out _ _ ⟨vp, (by rw [ha.out]; exact putSel_upk 5 hb_ rfl rfl rfl), Q_E, Q_Eg, fun h0_ => absurd ((hoff 39 (by kernel_rfl)).symm.trans h0_) (by decide)⟩
          refine steps_cons ?_ ?_
          · rintro b a w' ⟨vp, ha, Q_E, Q_Eg, Q_Ef⟩ hb_ hon hoff
            refine ⟨_, rfl, fun K hK => ?_⟩
            have e39 : a.tmps[39]? = some (.func (.func 33) #[] #[]) := by rw [ha]; exact (putSel_off rfl).trans rfl
            have e45 : a.tmps[45]? = some (.slice A3 S1.length c3) := by rw [ha]; exact putSel_on (e := (26, 45, .slice A3 S1.length c3)) 5 rfl rfl (hon 26 (by kernel_rfl)) rfl
            replace ha := Aside0.mk ha
            have E := Aside0.mk Q_E
            refine goesT_ Tryd.func33 (by kernel_rfl) rfl #[.slice A3 S1.length c3] (by rfl) rfl rfl (eval_of e39) (by first | (simp only [List.map_toArray, List.map_cons, List.map_nil, Act.eval, Array.getD_eq_getD_getElem?, Option.getD_some, e39, e45]; done) | (simp only [List.map_toArray, List.map_cons, List.map_nil, Act.eval, Array.getD_eq_getD_getElem?, Option.getD_some, e39, e45]; rfl)) ?_
            refine (HCC.out.2.2.1 _).mono ?_
            rintro e w20 ⟨rfl, hw_⟩
            subst hw_
            refine ⟨_, rfl, ?_⟩
            refine hK.out _ _ ⟨vp, (by rw [ha.out]; exact putSel_upk 6 hb_ rfl rfl rfl), E.out, fun h0_ h1_ => (Q_Eg h0_ h1_), fun h0_ => absurd ((hoff 39 (by kernel_rfl)).symm.trans h0_) (by decide)⟩
          refine steps_cons ?_ ?_
          · rintro b a w' ⟨vp, ha, Q_E, Q_Eg, Q_Ef⟩ hb_ hon hoff
            refine ⟨_, rfl, fun K hK => ?_⟩
            have e52 : a.tmps[52]? = some (.pointer (some ⟨(ad.add (ii.toNat * 5)).block, (ad.add (ii.toNat * 5)).off + 4, none⟩)) := by rw [ha]; exact (putSel_off rfl).trans rfl
            replace ha := Aside0.mk ha
            have E := Aside0.mk Q_E
            have hc_ := (E.out.1.cell (World.block_lt_of_cell? _ _ hx4)).trans hx4
            refine value_ (w1 := w') (v := .slice A4 S2.length c4) (by rfl) rfl ?_ ?_
            · go_simp
              (try simp only [i64_w])
              try rfl
            refine hK.out _ _ ⟨vp, (by rw [ha.out]; exact putSel_upk 7 hb_ rfl rfl rfl), Q_E, Q_Eg, fun h0_ => absurd ((hoff 39 (by kernel_rfl)).symm.trans h0_) (by decide)⟩
          refine steps_cons ?_ ?_
          · rintro b a w' ⟨vp, ha, Q_E, Q_Eg, Q_Ef⟩ hb_ hon hoff
            refine ⟨_, rfl, fun K hK => ?_⟩
            have e47 : a.tmps[47]? = some (.func (.func 33) #[] #[]) := by rw [ha]; exact (putSel_off rfl).trans rfl
            have e53 : a.tmps[53]? = some (.slice A4 S2.length c4) := by rw [ha]; exact putSel_on (e := (34, 53, .slice A4 S2.length c4)) 7 rfl rfl (hon 34 (by kernel_rfl)) rfl
            replace ha := Aside0.mk ha
            have E := Aside0.mk Q_E
            refine goesT_ Tryd.func33 (by kernel_rfl) rfl #[.slice A4 S2.length c4] (by rfl) rfl rfl (eval_of e47) (by first | (simp only [List.map_toArray, List.map_cons, List.map_nil, Act.eval, Array.getD_eq_getD_getElem?, Option.getD_some, e47, e53]; done) | (simp only [List.map_toArray, List.map_cons, List.map_nil, Act.eval, Array.getD_eq_getD_getElem?, Option.getD_some, e47, e53]; rfl)) ?_
            refine (HCC.out.2.2.2 _).mono ?_
            rintro e w20 ⟨rfl, hw_⟩
            subst hw_
            refine ⟨_, rfl, ?_⟩
            refine hK.out _ _ ⟨vp, (by rw [ha.out]; exact putSel_upk 8 hb_ rfl rfl rfl), E.out, fun h0_ h1_ => (Q_Eg h0_ h1_), fun h0_ => absurd ((hoff 39 (by kernel_rfl)).symm.trans h0_) (by decide)⟩
          refine steps_cons ?_ ?_
          · rintro b a w' ⟨vp, ha, Q_E, Q_Eg, Q_Ef⟩ hb_ hon hoff
            refine ⟨_, rfl, fun K hK => ?_⟩
            have e38 : a.tmps[38]? = some (.slice A2 S0' c2) := by rw [ha]; exact putSel_on (e := (19, 38, .slice A2 S0' c2)) 4 rfl rfl (hon 19 (by kernel_rfl)) rfl
            have e46 : a.tmps[46]? = some (.slice A3 S1' c3) := by rw [ha]; exact putSel_on (e := (27, 46, .slice A3 S1' c3)) 6 rfl rfl (hon 27 (by kernel_rfl)) rfl
            have e54 : a.tmps[54]? = some (.slice A4 S2' c4) := by rw [ha]; exact putSel_on (e := (35, 54, .slice A4 S2' c4)) 8 rfl rfl (hon 35 (by kernel_rfl)) rfl
            replace ha := Aside0.mk ha
            have E := Aside0.mk Q_E
            refine value_ (w1 := w') (v := .agg #[.slice A2 S0' c2, .slice A3 S1' c3, .slice A4 S2' c4]) (by rfl) rfl ?_ ?_
            · go_simp
              (try simp only [i64_w])
              try rfl
            refine hK.out _ _ ⟨vp, (by rw [ha.out]; exact putSel_upk 9 hb_ rfl rfl rfl), Q_E, Q_Eg, fun h0_ => absurd ((hoff 39 (by kernel_rfl)).symm.trans h0_) (by decide)⟩
          refine steps_cons ?_ ?_
          · rintro b a w' ⟨vp, ha, Q_E, Q_Eg, Q_Ef⟩ hb_ hon hoff
            refine ⟨_, rfl, fun K hK => ?_⟩
            have e23 : a.tmps[23]? = some (.bool rg) := by rw [ha]; exact putSel_on (e := (4, 23, .bool rg)) 0 rfl rfl (hon 4 (by kernel_rfl)) rfl
            have e30 : a.tmps[30]? = some (.slice A1 T' c1) := by rw [ha]; exact putSel_on (e := (11, 30, .slice A1 T' c1)) 2 rfl rfl (hon 11 (by kernel_rfl)) rfl
            have e55 : a.tmps[55]? = some (.agg #[.slice A2 S0' c2, .slice A3 S1' c3, .slice A4 S2' c4]) := by rw [ha]; exact putSel_on (e := (36, 55, .agg #[.slice A2 S0' c2, .slice A3 S1' c3, .slice A4 S2' c4])) 9 rfl rfl (hon 36 (by kernel_rfl)) rfl
            replace ha := Aside0.mk ha
            have E := Aside0.mk Q_E
            refine value_ (w1 := w') (v := .agg #[.bool rg, .slice A1 T' c1, .slice A2 S0' c2, .slice A3 S1' c3, .slice A4 S2' c4]) (by rfl) rfl ?_ ?_
            · go_simp
              (try simp only [i64_w])
              try rfl
            refine hK.out _ _ ⟨vp, (by rw [ha.out]; exact putSel_upk 10 hb_ rfl rfl rfl), Q_E, Q_Eg, fun h0_ => absurd ((hoff 39 (by kernel_rfl)).symm.trans h0_) (by decide)⟩
          refine steps_cons ?_ ?_
          · rintro b a w' ⟨vp, ha, Q_E, Q_Eg, Q_Ef⟩ hb_ hon hoff
            refine ⟨_, rfl, fun K hK => ?_⟩
            replace ha := Aside0.mk ha
            have E := Aside0.mk Q_E
            refine value_ (w1 := w'.alloc (.cells #[.bool false, .slice none 0 0, .slice none 0 0, .slice none 0 0, .slice none 0 0] 44)) (v := .pointer (some ⟨w'.heap.size, 0, none⟩)) (by rfl) rfl ?_ ?_
            · go_simp
              try rfl
            refine hK.out _ _ ⟨(.pointer (some ⟨w'.heap.size, 0, none⟩)), (by rw [ha.out]; exact putSel_upk 11 hb_ rfl rfl rfl), ⟨E.out.1.trans (below_lo (below_alloc (Below.refl w'.heap.size w') _) E.out.2), Nat.le_trans E.out.2 (by simp)⟩, fun _ _ => ⟨_, rfl, heap_alloc_new w' _, E.out.2⟩, fun h0_ => absurd ((hoff 39 (by kernel_rfl)).symm.trans h0_) (by decide)⟩
          refine steps_cons ?_ ?_
          · rintro b a w' ⟨vp, ha, Q_E, Q_Eg, Q_Ef⟩ hb_ hon hoff
            refine ⟨_, rfl, fun K hK => ?_⟩
            have e8 : a.tmps[8]? = some (vp) := by rw [ha]; exact putSel_on (e := (38, 8, vp)) 11 rfl rfl (hon 38 (by kernel_rfl)) rfl
            have e56 : a.tmps[56]? = some (.agg #[.bool rg, .slice A1 T' c1, .slice A2 S0' c2, .slice A3 S1' c3, .slice A4 S2' c4]) := by rw [ha]; exact putSel_on (e := (37, 56, .agg #[.bool rg, .slice A1 T' c1, .slice A2 S0' c2, .slice A3 S1' c3, .slice A4 S2' c4])) 10 rfl rfl (hon 37 (by kernel_rfl)) rfl
            replace ha := Aside0.mk ha
            have E := Aside0.mk Q_E
            have Eg := Aside0.mk (Q_Eg (hon 38 (by kernel_rfl)) hb_)
            obtain ⟨gp_, evp_, hgp_, hBg_⟩ := Eg.out
            rw [evp_] at e8
            have hk0_ := (blk_cell hgp_ 0).trans rfl
            have hk1_ := (blk_cell hgp_ 1).trans rfl
            have hk2_ := (blk_cell hgp_ 2).trans rfl
            have hk3_ := (blk_cell hgp_ 3).trans rfl
            have hk4_ := (blk_cell hgp_ 4).trans rfl
            have hf0_ := blk_frozen hgp_ 0
            have hf1_ := blk_frozen hgp_ 1
            have hf2_ := blk_frozen hgp_ 2
            have hf3_ := blk_frozen hgp_ 3
            have hf4_ := blk_frozen hgp_ 4
            have S3_ := BxT.fill hgp_ hBg_ (.bool rg) (.slice A1 T' c1) (.slice A2 S0' c2) (.slice A3 S1' c3) (.slice A4 S2' c4)
            refine skip_ (w1 := ((((w'.setCell ⟨gp_, 0, none⟩ (.bool rg)).setCell ⟨gp_, 1, none⟩ (.slice A1 T' c1)).setCell ⟨gp_, 2, none⟩ (.slice A2 S0' c2)).setCell ⟨gp_, 3, none⟩ (.slice A3 S1' c3)).setCell ⟨gp_, 4, none⟩ (.slice A4 S2' c4)) (by rfl) rfl ?_ ?_
            · go_simp
              try rfl
            refine hK.out _ _ ⟨vp, (by rw [ha.out]; exact putSel_none (v := undef) rfl), ⟨S3_.2.1 _ E.out.1, by rw [S3_.2.2]; exact E.out.2⟩, fun _ h1_ => absurd ((up_self b 39).symm.trans h1_) (by decide), fun _ => (by rw [evp_]; exact S3_.1)⟩
          exact steps_nil
        · rintro b a w' hall ⟨vp, ha, Q_E, Q_Eg, Q_Ef⟩
          clear E
          have hb4_ := hall 4 (by kernel_rfl)
          have hb10_ := hall 10 (by kernel_rfl)
          have hb11_ := hall 11 (by kernel_rfl)
          have hb18_ := hall 18 (by kernel_rfl)
          have hb19_ := hall 19 (by kernel_rfl)
          have hb26_ := hall 26 (by kernel_rfl)
          have hb27_ := hall 27 (by kernel_rfl)
          have hb34_ := hall 34 (by kernel_rfl)
          have hb35_ := hall 35 (by kernel_rfl)
          have hb36_ := hall 36 (by kernel_rfl)
          have hb37_ := hall 37 (by kernel_rfl)
          have hb38_ := hall 38 (by kernel_rfl)
          have hb39_ := hall 39 (by kernel_rfl)
          subst ha
          simp only [putSel, hb4_, hb10_, hb11_, hb18_, hb19_, hb26_, hb27_, hb34_, hb35_, hb36_, hb37_, hb38_, hb39_, if_true, Act.put, List.setIfInBounds_toArray, List.set_cons_zero, List.set_cons_succ]
          have E := Aside0.mk Q_E
          clear Q_E
          clear Q_Eg
          have Ef := Aside0.mk (Q_Ef hb39_)
          clear Q_Ef
          clear hall hb4_ hb10_ hb11_ hb18_ hb19_ hb26_ hb27_ hb34_ hb35_ hb36_ hb37_ hb38_ hb39_
          obtain ⟨gp, evp, hgp, hBg⟩ := Ef.out
          subst evp
          have S := Aside0.mk (HF.out.more E.out.1 (a := blk gp 44 #[.bool rg, .slice A1 T' c1, .slice A2 S0' c2, .slice A3 S1' c3, .slice A4 S2' c4]) (f := fun k => k = gp) ⟨fun k => Iff.rfl, hgp⟩ (fun k hk => hk ▸ hBg))
          clear HF E Ef hgp hBg hx0 hx1 hx2 hx3 hx4 HCC
          obtain ⟨fb0, fb1, fb2, fb3, fb4⟩ := box5 (S.out.at_blk 0 rfl)
          go_wp2_with (first | ((with_reducible refine gate_builtin (b := .append) (xs := #[.tmp 57, .tmp 59]) rfl ?_); at_builtin; refine wpl rfl (fun K hK => st_push (by rfl) (.tmp 57) (.tmp 59) 27 44 (.agg #[.bool false, .slice none 0 0, .slice none 0 0, .slice none 0 0, .slice none 0 0]) rfl Tryd.underlying27 inf44 rfl 1 rfl rfl (S.out.lit0 44 5 [Value.bool rg, Value.slice A1 T' c1, Value.slice A2 S0' c2, Value.slice A3 S1' c3, Value.slice A4 S2' c4] rfl) rfl (by simp [Value.oneCell']) (by have := HI.out.2.2; omega) ?_); intro v_ w_ S_; refine hK _ _ ?_; simp only [List.set_cons_succ, List.set_cons_zero] at S_; replace S := Aside0.mk S_; clear S_; clear fb0 fb1 fb2 fb3 fb4; obtain ⟨fb0, fb1, fb2, fb3, fb4⟩ := box5 (S.out.at_blk 0 rfl)) | ((with_reducible refine gate_builtin (b := .append) (xs := #[.tmp 61, .tmp 69]) rfl ?_); at_builtin; refine wpl rfl (fun K hK => st_push (by rfl) (.tmp 61) (.tmp 69) 23 50 (.agg #[.bool false, .slice none 0 0, .slice none 0 0, .slice none 0 0, .slice none 0 0]) rfl Tryd.underlying23 inf50 rfl 2 rfl rfl (S.out.lit0 50 5 [Value.bool rg, Value.slice A1 T' c1, Value.slice A2 S0' c2, Value.slice A3 S1' c3, Value.slice A4 S2' c4] rfl) rfl (by simp [Value.oneCell']) (by have := HI.out.2.2; omega) ?_); intro v_ w_ S_; refine hK _ _ ?_; simp only [List.set_cons_succ, List.set_cons_zero] at S_; replace S := Aside0.mk S_; clear S_; clear fb0 fb1 fb2 fb3 fb4; obtain ⟨fb0, fb1, fb2, fb3, fb4⟩ := box5 (S.out.at_blk 0 rfl)))
          have hiq : i < qs.length := by have := hql.out; have := hii.out; have := HI.out.2.2; omega
          go_roundg (20 - (i + 1))
          case rel => exact ⟨wrap64 (ii + 1), i + 1, by first | rfl | (simp; done) | (simp [hw1]; done), ⟨by rw [hw1]; have := hii.out; omega⟩, hiq, rfl, ⟨_, ⟨S.out.drop.st, fun a ha => S.out.fr a (by simp only [List.mem_cons, List.not_mem_nil, or_false] at ha ⊢; rcases ha with h | h <;> simp [h]), S.out.old⟩⟩⟩
          case measure => have := HI.out.2.2; have := HI.out.2.1; omega
      · have hi' : i = qs.length := by have := hii.out; have := hql.out; omega
        have h1b := eq_true hin
        have h2b := eq_false hin2
        subst hi'
        obtain ⟨cells, S⟩ := hI.out
        have hk := S.fr _ (List.mem_cons_self)
        rw [List.take_of_length_le (Nat.le_refl _)] at hk
        obtain ⟨A5, c5, e5, hc5, hC5⟩ := rowP_C (S.rowAt 0 rfl) hk
        obtain ⟨A4, c4, e4, hc4, hC4⟩ := rowP_C (S.rowAt 1 rfl) hk
        have HH := Aside0.mk (⟨hc4, hC4, hc5, hC5, S.below⟩ : _ ∧ _ ∧ _ ∧ _ ∧ _)
        subst e4 e5
        clear hI S hk hc4 hC4 hc5 hC5
        go_wp2
        refine bodyPost_ret (results_tmp2 rfl _ _ _) rfl ?_
        exact ⟨A4, c4, A5, c5, rfl, HH.out⟩
    · have hi' : i = qs.length := by have := hii.out; have := hql.out; omega
      have h1b := eq_false hin
      subst hi'
      obtain ⟨cells, S⟩ := hI.out
      have hk := S.fr _ (List.mem_cons_self)
      rw [List.take_of_length_le (Nat.le_refl _)] at hk
      obtain ⟨A5, c5, e5, hc5, hC5⟩ := rowP_C (S.rowAt 0 rfl) hk
      obtain ⟨A4, c4, e4, hc4, hC4⟩ := rowP_C (S.rowAt 1 rfl) hk
      have HH := Aside0.mk (⟨hc4, hC4, hc5, hC5, S.below⟩ : _ ∧ _ ∧ _ ∧ _ ∧ _)
      subst e4 e5
      clear hI S hk hc4 hC4 hc5 hC5
      go_wp2
      refine bodyPost_ret (results_tmp2 rfl _ _ _) rfl ?_
      exact ⟨A4, c4, A5, c5, rfl, HH.out⟩
end Go.Proofs.YtnnnbeimehfiiaaDoor.Q
-- Written by a program of this session (wip/gen_mw.py, lablib.py) for this claim; Lean checks it.
/-! The labels that the laws cut. -/
set_option linter.unusedVariables false
set_option linter.unusedSimpArgs false
namespace Go.Proofs.YtnnnbeimehfiiaaDoor.Q
open Go Go.RowKit Go.Proofs.YtnnnbeimehfiiaaDoorW.PrintWords Go.Proofs.YtnnnbeimehfiiaaDoorW.PrintLast Go.Proofs.YtnnnbeimehfiiaaDoorW.PrintMore Go.Proofs.YtnnnbeimehfiiaaDoorW.SL
/-- Three labels, the first i of them cut. -/
def lab3 (s0 s1 s2 t0 t1 t2 : ByteArray) : Nat → Array Value
  | 0 => #[.string s0, .string s1, .string s2]
  | 1 => #[.string t0, .string s1, .string s2]
  | 2 => #[.string t0, .string t1, .string s2]
  | _ => #[.string t0, .string t1, .string t2]
theorem set0S {w0 w : World} {Z : Nat → Prop} {l : List Asr} {F : List FA} {g t : Nat} {cs : Array Value} (S : Stt w0 Z (blk g t cs :: l) F w) (o : Nat) (u : Value) : Stt w0 Z (blk g t (cs.setIfInBounds o u) :: l) F (w.setCell ⟨g, o, none⟩ u) := S.of (S.st.set (i := 0) rfl o u)
theorem mn1000 (s : ByteArray) : (if (1000 : Int) < (s.size : Int) then 1000 else (s.size : Int)) = ((min s.size 1000 : Nat) : Int) := by split <;> omega
end Go.Proofs.YtnnnbeimehfiiaaDoor.Q
-- Written by a program of this session (wip/gen_same.py) for this claim; Lean checks it.
/-! scarfref18.Same at two slices that hold the same parts: true. -/
set_option linter.unusedVariables false
set_option linter.unusedSimpArgs false
namespace Go.Proofs.YtnnnbeimehfiiaaDoor.Q
open Go Go.RowKit Go.BigFrame Go.Proofs.YtnnnbeimehfiiaaDoorW.PrintWords Go.Proofs.YtnnnbeimehfiiaaDoorW.PrintLast Go.Proofs.YtnnnbeimehfiiaaDoorW.PrintMore Go.Proofs.YtnnnbeimehfiiaaDoorW.SL
set_option maxHeartbeats 16000000 in
set_option maxRecDepth 100000 in
theorem same_calls (A B : Option Addr) (c d : Nat) (xs : List Pt) (w : World) (hx : Kd.C kP w A xs.length xs) (hy : Kd.C kP w B xs.length xs) :
    Calls Tryd.prog 12 #[.slice A xs.length c, .slice B xs.length d] w fun e w' => e = .returned (.bool true) ∧ Below w.heap.size w w' := by
  have HX := Aside0.mk (Kd.C_F kP_heap hx)
  have HY := Aside0.mk (Kd.C_F kP_heap hy)
  clear hx hy
  go_enter Tryd.func12, Tryd.ntmps12
  go_wp2
  go_loopg [5] xs.length (fun kq v5 w'' => ∃ (ii : Int) (i : Nat), v5 = .int .i64 ii ∧ Aside0 (ii = (i : Int)) ∧ i ≤ xs.length ∧ kq = xs.length - i ∧ Below w.heap.size w w'')
  case atStart => exact ⟨0, 0, rfl, ⟨rfl⟩, Nat.zero_le _, rfl, Below.refl _ _⟩
  case round =>
    obtain ⟨ii, i, rfl, hii, hi, hgk, hb⟩ := hrel
    obtain ⟨wb, rfl⟩ : ∃ q, q = wr := ⟨_, rfl⟩
    by_cases hin : ii < (xs.length : Int)
    · have p0 : 0 ≤ ii := by have := hii.out; omega
      have HB := Aside0.mk hb
      obtain ⟨ad, x, A1, c1, A2, c2, A3, c3, A4, c4, rfl, hxi, hok, hx0, hx1, hx2, hx3, hx4, g1, g2, g3, g4⟩ := at_Pt (Kd.F_step HX.out (fun k hk _ => hb.block k hk)) ii p0 hin
      obtain ⟨bd, y, B1, d1, B2, d2, B3, d3, B4, d4, rfl, hyi, hok2, hy0, hy1, hy2, hy3, hy4, k1, k2, k3, k4⟩ := at_Pt (Kd.F_step HY.out (fun k hk _ => hb.block k hk)) ii p0 hin
      have exy : y = x := by rw [hxi] at hyi; exact (Option.some.inj hyi).symm
      subst exy
      have HXY := Aside0.mk (⟨hxi, hi, hgk⟩ : _ ∧ _ ∧ _)
      clear hxi hyi hi hgk hok hok2 hb
      have hcx1 := fun n => Kd.C_string (P := Tryd.prog) (w := wb.drewN n) (A := A1) (c := c1) Tryd.underlying22 Tryd.underlying5 Tryd.underlying9 (Kd.F_now (Kd.F_drewN g1.2 n))
      have hcy1 := fun n => Kd.C_string (P := Tryd.prog) (w := wb.drewN n) (A := B1) (c := d1) Tryd.underlying22 Tryd.underlying5 Tryd.underlying9 (Kd.F_now (Kd.F_drewN k1.2 n))
      have hcx2 := fun n => Kd.C_string (P := Tryd.prog) (w := wb.drewN n) (A := A2) (c := c2) Tryd.underlying22 Tryd.underlying5 Tryd.underlying9 (Kd.F_now (Kd.F_drewN g2.2 n))
      have hcy2 := fun n => Kd.C_string (P := Tryd.prog) (w := wb.drewN n) (A := B2) (c := d2) Tryd.underlying22 Tryd.underlying5 Tryd.underlying9 (Kd.F_now (Kd.F_drewN k2.2 n))
      have hcx3 := fun n => Kd.C_string (P := Tryd.prog) (w := wb.drewN n) (A := A3) (c := c3) Tryd.underlying22 Tryd.underlying5 Tryd.underlying9 (Kd.F_now (Kd.F_drewN g3.2 n))
      have hcy3 := fun n => Kd.C_string (P := Tryd.prog) (w := wb.drewN n) (A := B3) (c := d3) Tryd.underlying22 Tryd.underlying5 Tryd.underlying9 (Kd.F_now (Kd.F_drewN k3.2 n))
      have hcx4 := fun n => Kd.C_string (P := Tryd.prog) (w := wb.drewN n) (A := A4) (c := c4) Tryd.underlying22 Tryd.underlying5 Tryd.underlying9 (Kd.F_now (Kd.F_drewN g4.2 n))
      have hcy4 := fun n => Kd.C_string (P := Tryd.prog) (w := wb.drewN n) (A := B4) (c := d4) Tryd.underlying22 Tryd.underlying5 Tryd.underlying9 (Kd.F_now (Kd.F_drewN k4.2 n))
      obtain ⟨rx, hrx⟩ : ∃ q, y.region = q := ⟨_, rfl⟩
      rw [hrx] at hx0 hy0
      replace hrx := Aside0.mk hrx
      clear g1 g2 g3 g4 k1 k2 k3 k4
      have hin2 := eq_true hin
      have p02 := eq_true p0
      go_upto_region 6 with (fail)
      simp only [List.append_eq, List.cons_append, List.nil_append]
      go_big_quiet (fail)
      have hbq : Below w.heap.size w (wb.drewN nq) := HB.out.trans (pw_below_drewN (Below.refl _ _) nq)
      obtain ⟨wq, hwq⟩ : ∃ q, wb.drewN nq = q := ⟨_, rfl⟩
      rw [hwq] at hbq ⊢
      obtain ⟨_, hi, hgk⟩ := HXY.out
      have hw1 : wrap64 (ii + 1) = ii + 1 := by have := Kd.F_max HX.out; unfold wrap64; omega
      go_wp2
      go_roundg (xs.length - (i + 1))
      case rel => exact ⟨wrap64 (ii + 1), i + 1, by first | rfl | (simp; done) | (simp [hw1]; done), ⟨by rw [hw1]; have := hii.out; omega⟩, by have := hii.out; omega, rfl, hbq⟩
      case measure => have := hii.out; omega
    · have hi' : i = xs.length := by have := hii.out; omega
      go_wp2
      go_ret
      exact ⟨rfl, hb⟩
end Go.Proofs.YtnnnbeimehfiiaaDoor.Q
-- Written by a program of this session (wip/gen_write.py) for this claim; Lean checks it.
/-! mark.Write, walked. -/
set_option linter.unusedVariables false
set_option linter.unusedSimpArgs false
namespace Go.Proofs.YtnnnbeimehfiiaaDoor.Q
open Go Go.RowKit Go.Proofs.YtnnnbeimehfiiaaDoorW.PrintWords Go.Proofs.YtnnnbeimehfiiaaDoorW.PrintLast Go.Proofs.YtnnnbeimehfiiaaDoorW.PrintMore Go.Proofs.YtnnnbeimehfiiaaDoorW.SL
attribute [local go_sem] max2_int min2_int max_two min_two max_three min_three max_four min_four
set_option maxHeartbeats 16000000 in
set_option maxRecDepth 100000 in
theorem Write_calls (n : Int) (s0 s1 s2 : ByteArray) (A : Option Addr) (c : Nat) (ps : List Pt) (w : World) (hr : Kd.C kP w A ps.length ps) (hc : ps.length ≤ c) (hps : ps.length ≤ 1000) (hf : ∀ p ∈ ps, p.text.length ≤ 5000000 ∧ p.s0.length ≤ 5000000 ∧ p.s1.length ≤ 5000000 ∧ p.s2.length ≤ 5000000)
    (hs0 : s0.size ≤ 9223372036854775807) (hs1 : s1.size ≤ 9223372036854775807) (hs2 : s2.size ≤ 9223372036854775807) :
    Calls Tryd.prog 19 #[.int .i64 n, .agg #[.string s0, .string s1, .string s2], .slice A ps.length c] w fun e w' => ∃ (A' : Option Addr) (c' : Nat), e = .returned (.tuple #[.slice A' (writeOf n s0 s1 s2 ps).1.length c', .int .i64 (writeOf n s0 s1 s2 ps).2]) ∧ (writeOf n s0 s1 s2 ps).1.length ≤ c' ∧ Kd.C B8 w' A' (writeOf n s0 s1 s2 ps).1.length (writeOf n s0 s1 s2 ps).1 ∧ Below w.heap.size w w' := by
 have HX := Aside0.mk (Kd.C_F kP_heap hr)
 have HC := Aside0.mk hc; have HPS := Aside0.mk hps; have HF := Aside0.mk hf; have HS0 := Aside0.mk hs0; have HS1 := Aside0.mk hs1; have HS2 := Aside0.mk hs2
 clear hr hc hps hf hs0 hs1 hs2
 by_cases hn : n ≥ 1 ∧ n ≤ 16777216
 · have hright : mark_right.f n = some true := by unfold mark_right.f; rw [if_pos hn.1]; simp [hn.2]
   obtain ⟨N, hN⟩ := Int.eq_ofNat_of_zero_le (by omega : 0 ≤ n)
   have hN1 : 1 ≤ N := by omega
   have hN2 : N ≤ 16777216 := by omega
   have hres : writeOf n s0 s1 s2 ps = (wrAll N s0 s1 s2 ps [], 0) := by unfold writeOf; rw [if_pos hn, hN]; rfl
   obtain ⟨R, hR⟩ : ∃ R, wrAll N s0 s1 s2 ps [] = R := ⟨_, rfl⟩
   rw [hres, hR]
   have HRT := Aside0.mk hright
   clear hres hn hright
   subst hN
   replace hR := Aside0.mk hR
   replace hN1 := Aside0.mk hN1
   replace hN2 := Aside0.mk hN2
   go_enter Tryd.func19, Tryd.ntmps19
   go_wp2_with (go_at_call 24; refine (mark_right.calls _ true _ HRT.out).mono ?_; rintro e w2 ⟨rfl, hb1⟩; replace hb1 := drawn_below hb1)
   have hlt2 : w.heap.size < w2.heap.size := by have := hb1.size; simp at this; omega
   have hbA0 : Below w.heap.size w w2 := (below_alloc (Below.refl _ _) _).trans (below_lo hb1 (by simp))
   have hlb : w2.heap[w.heap.size]? = some (.cells #[.string s0, .string s1, .string s2] 39 (0, 0)) := (hb1.block _ (by simp)).trans (heap_alloc_new w _)
   obtain ⟨pb, hpb⟩ : ∃ pb, pb = w2.heap.size := ⟨_, rfl⟩
   obtain ⟨lb, hlb0⟩ : ∃ lb, lb = w.heap.size := ⟨_, rfl⟩
   obtain ⟨wA, hwA⟩ : ∃ wA, wA = w2.alloc (Obj.cells #[Value.slice none 0 0, Value.int IntKind.i64 0, Value.int IntKind.i8 0] 73) := ⟨_, rfl⟩
   have hPg0 : Pg pb pb [] wA := LibA.zero_isBuffer (Nat.le_refl _) (LibA.three_whole (by rw [hwA, hpb]; exact heap_alloc_new w2 _))
   have hbA : Below w.heap.size w wA := by rw [hwA]; exact hbA0.trans (below_lo (below_alloc (Below.refl _ _) _) hbA0.size)
   have hlbA : wA.heap[lb]? = some (.cells #[.string s0, .string s1, .string s2] 39 (0, 0)) := by rw [hwA, hlb0]; exact ((below_alloc (Below.refl w2.heap.size w2) _).block _ hlt2).trans hlb
   have hsA : pb < wA.heap.size := by rw [hwA, hpb]; simp
   have hpw : w.heap.size ≤ pb ∧ lb < pb := by omega
   rw [← hpb, ← hwA, ← hlb0]
   have HA := Aside0.mk (⟨hPg0, hbA, hlbA, hsA, hpw⟩ : _ ∧ _ ∧ _ ∧ _ ∧ _)
   clear hlt2 hbA0 hlb hPg0 hbA hlbA hsA hpw hwA hpb hb1 hlb0
   go_loopg [16] ps.length (fun kq v16 W => ∃ (ii : Int) (i : Nat) (acc : List Int), v16 = .int .i64 ii ∧ Aside0 (ii = (i : Int)) ∧ i ≤ ps.length ∧ kq = ps.length - i ∧ Aside0 (wrAll N s0 s1 s2 (ps.drop i) acc = R) ∧ Aside0 (acc.length ≤ i * 200000000) ∧ Aside0 (Pg pb pb acc W ∧ Below pb wA W))
   case atStart => exact ⟨0, 0, [], rfl, ⟨rfl⟩, Nat.zero_le _, rfl, hR, ⟨Nat.le_refl _⟩, ⟨HA.out.1, Below.refl _ _⟩⟩
   case round =>
    obtain ⟨ii, i, acc, rfl, hii, hi, hgk, hall, hal, hI⟩ := hrel
    obtain ⟨wb, rfl⟩ : ∃ q, q = wr := ⟨_, rfl⟩
    by_cases hin : ii < (ps.length : Int)
    · have p0 : 0 ≤ ii := by have := hii.out; omega
      have hbw : Below w.heap.size w wb := HA.out.2.1.trans (below_lo hI.out.2 HA.out.2.2.2.2.1)
      obtain ⟨ad, x, A1, c1, A2, c2, A3, c3, A4, c4, rfl, hxi, hok, hx0, hx1, hx2, hx3, hx4, g1, g2, g3, g4⟩ := at_Pt (Kd.F_step HX.out (fun k hk _ => hbw.block k hk)) ii p0 hin
      have e0 : ii.toNat = i := by have := hii.out; omega
      rw [e0] at hxi
      have hxm := HF.out x (List.mem_of_getElem? hxi)
      have hsz : wA.heap.size ≤ wb.heap.size := hI.out.2.size
      have hg : pb < wb.heap.size := Nat.lt_of_lt_of_le HA.out.2.2.2.1 hsz
      have hw1 : wrap64 (ii + 1) = ii + 1 := by have := hii.out; have := HPS.out; unfold wrap64; omega
      have hw2 : wrap64 ((ps.length : Int) - 1) = (ps.length : Int) - 1 := by have := HPS.out; unfold wrap64; omega
      have G := Aside0.mk (⟨g1, g2, g3, g4, hxi, hxm, hg, hi, hgk⟩ : _ ∧ _ ∧ _ ∧ _ ∧ _ ∧ _ ∧ _ ∧ _ ∧ _)
      have hinb := eq_true hin
      have p0b := eq_true p0
      obtain ⟨rg, T, S0, S1, S2⟩ := x
      simp only at hx0 hx1 hx2 hx3 hx4
      replace e0 := Aside0.mk e0
      have hbw' := Aside0.mk hbw
      clear g1 g2 g3 g4 hxi hok hxm hsz hg hbw hi hgk
      cases rg with
      | false =>
        by_cases hlast : i + 1 = ps.length
        · have hcl := eq_false (show ¬ ii < (ps.length : Int) - 1 by have := hii.out; omega)
          have hcl2 := eq_true (show (ps.length : Int) - 1 ≤ ii by have := hii.out; omega)
          have hnext : wrAll N s0 s1 s2 (ps.drop (i + 1)) (acc ++ T) = R := by
            have := wrAll_next hall.out G.out.2.2.2.2.1
            simpa [wrPart, hlast] using this
          replace hnext := Aside0.mk hnext
          go_upto_region 7 with (fail)
          have FACT := Aside0.mk (Rd3.of (w := w) (wA := wA) (lb := lb) (g := wb.heap.size) (p := ⟨false, T, S0, S1, S2⟩) HA.out.2.2.1 HA.out.2.2.2.2.2 (heap_alloc_new wb _) (by have := G.out.2.2.2.2.2.2.1; omega) HA.out.2.2.2.2.1 (hI.out.2.trans (below_lo (below_alloc (Below.refl _ _) (Obj.cells #[Value.bool false, Value.slice A1 T.length c1, Value.slice A2 S0.length c2, Value.slice A3 S1.length c3, Value.slice A4 S2.length c4] 50)) (by have := G.out.2.2.2.2.2.2.1; omega)))
            (Kd.F_step G.out.1.2 (fun k hk hl => (below_alloc (Below.refl wb.heap.size wb) _).block k hl)) (Kd.F_step G.out.2.1.2 (fun k hk hl => (below_alloc (Below.refl wb.heap.size wb) _).block k hl)) (Kd.F_step G.out.2.2.1.2 (fun k hk hl => (below_alloc (Below.refl wb.heap.size wb) _).block k hl)) (Kd.F_step G.out.2.2.2.1.2 (fun k hk hl => (below_alloc (Below.refl wb.heap.size wb) _).block k hl)))
          have P : Aside0 (Pq pb (i * 200000000) acc (wb.alloc (Obj.cells #[Value.bool false, Value.slice A1 T.length c1, Value.slice A2 S0.length c2, Value.slice A3 S1.length c3, Value.slice A4 S2.length c4] 50))) := ⟨hI.out.1.below (below_alloc (Below.refl _ _) _), by have := G.out.2.2.2.2.2.2.1; simp; omega, hal.out⟩
          have hi3 : i ≤ 1000 := Nat.le_trans G.out.2.2.2.2.2.2.2.1 HPS.out
          generalize wb.alloc (Obj.cells #[Value.bool false, Value.slice A1 T.length c1, Value.slice A2 S0.length c2, Value.slice A3 S1.length c3, Value.slice A4 S2.length c4] 50) = w1 at FACT P ⊢
          have K := Aside0.mk (Pk.refl pb pb w1)
          have FX := Aside0.mk (FACT.out _ K.out)
          have fl0 := FX.out.l0
          have fl1 := FX.out.l1
          have fl2 := FX.out.l2
          have fb0 := FX.out.b0
          have fb1 := FX.out.b1
          have fb2 := FX.out.b2
          have fb3 := FX.out.b3
          have fb4 := FX.out.b4
          simp only at fb0 fb1 fb2 fb3 fb4
          clear hx0 hx1 hx2 hx3 hx4
          go_wp2_with (first | (go_at_call 36; refine (marker_st P.out _ N _ hN2.out (by first | exact HS0.out | exact HS1.out | exact HS2.out | decide) (by omega)).mono ?_; rintro e wN ⟨rfl, hp, hk⟩; replace K := Aside0.mk (K.out.trans hk); replace P := Aside0.mk hp; replace FX := Aside0.mk (FACT.out _ K.out); clear hp hk; clear fl0 fl1 fl2 fb0 fb1 fb2 fb3 fb4; have fl0 := FX.out.l0; have fl1 := FX.out.l1; have fl2 := FX.out.l2; have fb0 := FX.out.b0; have fb1 := FX.out.b1; have fb2 := FX.out.b2; have fb3 := FX.out.b3; have fb4 := FX.out.b4; simp only at fb0 fb1 fb2 fb3 fb4) | (go_at_call 37; refine (lines_st P.out _ _ _ (by first | exact FX.out.h2 | exact FX.out.h3 | exact FX.out.h4) (by first | exact row_apart G.out.2.1.2 HA.out.2.2.2.2.1 | exact row_apart G.out.2.2.1.2 HA.out.2.2.2.2.1 | exact row_apart G.out.2.2.2.1.2 HA.out.2.2.2.2.1) (by have := G.out.2.2.2.2.2.1; first | exact this.2.1 | exact this.2.2.1 | exact this.2.2.2) (by omega)).mono ?_; rintro e wN ⟨rfl, hp, hk⟩; replace K := Aside0.mk (K.out.trans hk); replace P := Aside0.mk hp; replace FX := Aside0.mk (FACT.out _ K.out); clear hp hk; clear fl0 fl1 fl2 fb0 fb1 fb2 fb3 fb4; have fl0 := FX.out.l0; have fl1 := FX.out.l1; have fl2 := FX.out.l2; have fb0 := FX.out.b0; have fb1 := FX.out.b1; have fb2 := FX.out.b2; have fb3 := FX.out.b3; have fb4 := FX.out.b4; simp only at fb0 fb1 fb2 fb3 fb4) | (go_at_call 34; refine (write_st P.out _ _ _ FX.out.h1 (row_apart G.out.1.2 HA.out.2.2.2.2.1) G.out.2.2.2.2.2.1.1 (by omega)).mono ?_; rintro e wN ⟨rfl, hp, hk⟩; replace K := Aside0.mk (K.out.trans hk); replace P := Aside0.mk hp; replace FX := Aside0.mk (FACT.out _ K.out); clear hp hk; clear fl0 fl1 fl2 fb0 fb1 fb2 fb3 fb4; have fl0 := FX.out.l0; have fl1 := FX.out.l1; have fl2 := FX.out.l2; have fb0 := FX.out.b0; have fb1 := FX.out.b1; have fb2 := FX.out.b2; have fb3 := FX.out.b3; have fb4 := FX.out.b4; simp only at fb0 fb1 fb2 fb3 fb4) | (go_at_call 35; refine (shut_st P.out (by omega)).mono ?_; rintro e wN ⟨rfl, hp, hk⟩; replace K := Aside0.mk (K.out.trans hk); replace P := Aside0.mk hp; replace FX := Aside0.mk (FACT.out _ K.out); clear hp hk; clear fl0 fl1 fl2 fb0 fb1 fb2 fb3 fb4; have fl0 := FX.out.l0; have fl1 := FX.out.l1; have fl2 := FX.out.l2; have fb0 := FX.out.b0; have fb1 := FX.out.b1; have fb2 := FX.out.b2; have fb3 := FX.out.b3; have fb4 := FX.out.b4; simp only at fb0 fb1 fb2 fb3 fb4))
          go_roundg (ps.length - (i + 1))
          case rel => exact ⟨wrap64 (ii + 1), i + 1, _, by first | rfl | (simp; done) | (simp [hw1]; done), ⟨by rw [hw1]; have := hii.out; omega⟩, by have := hii.out; omega, rfl, Aside0.mk hnext.out, ⟨Nat.le_trans P.out.2.2 (by omega)⟩, ⟨P.out.1, FX.out.bA⟩⟩
          case measure => have := hii.out; have := G.out.2.2.2.2.2.2.2.2; omega
        · have hcl := eq_true (show ii < (ps.length : Int) - 1 by have := hii.out; omega)
          have hnext : wrAll N s0 s1 s2 (ps.drop (i + 1)) (endNl (acc ++ T)) = R := by
            have := wrAll_next hall.out G.out.2.2.2.2.1
            simpa [wrPart, hlast] using this
          replace hnext := Aside0.mk hnext
          go_upto_region 7 with (fail)
          have FACT := Aside0.mk (Rd3.of (w := w) (wA := wA) (lb := lb) (g := wb.heap.size) (p := ⟨false, T, S0, S1, S2⟩) HA.out.2.2.1 HA.out.2.2.2.2.2 (heap_alloc_new wb _) (by have := G.out.2.2.2.2.2.2.1; omega) HA.out.2.2.2.2.1 (hI.out.2.trans (below_lo (below_alloc (Below.refl _ _) (Obj.cells #[Value.bool false, Value.slice A1 T.length c1, Value.slice A2 S0.length c2, Value.slice A3 S1.length c3, Value.slice A4 S2.length c4] 50)) (by have := G.out.2.2.2.2.2.2.1; omega)))
            (Kd.F_step G.out.1.2 (fun k hk hl => (below_alloc (Below.refl wb.heap.size wb) _).block k hl)) (Kd.F_step G.out.2.1.2 (fun k hk hl => (below_alloc (Below.refl wb.heap.size wb) _).block k hl)) (Kd.F_step G.out.2.2.1.2 (fun k hk hl => (below_alloc (Below.refl wb.heap.size wb) _).block k hl)) (Kd.F_step G.out.2.2.2.1.2 (fun k hk hl => (below_alloc (Below.refl wb.heap.size wb) _).block k hl)))
          have P : Aside0 (Pq pb (i * 200000000) acc (wb.alloc (Obj.cells #[Value.bool false, Value.slice A1 T.length c1, Value.slice A2 S0.length c2, Value.slice A3 S1.length c3, Value.slice A4 S2.length c4] 50))) := ⟨hI.out.1.below (below_alloc (Below.refl _ _) _), by have := G.out.2.2.2.2.2.2.1; simp; omega, hal.out⟩
          have hi3 : i ≤ 1000 := Nat.le_trans G.out.2.2.2.2.2.2.2.1 HPS.out
          generalize wb.alloc (Obj.cells #[Value.bool false, Value.slice A1 T.length c1, Value.slice A2 S0.length c2, Value.slice A3 S1.length c3, Value.slice A4 S2.length c4] 50) = w1 at FACT P ⊢
          have K := Aside0.mk (Pk.refl pb pb w1)
          have FX := Aside0.mk (FACT.out _ K.out)
          have fl0 := FX.out.l0
          have fl1 := FX.out.l1
          have fl2 := FX.out.l2
          have fb0 := FX.out.b0
          have fb1 := FX.out.b1
          have fb2 := FX.out.b2
          have fb3 := FX.out.b3
          have fb4 := FX.out.b4
          simp only at fb0 fb1 fb2 fb3 fb4
          clear hx0 hx1 hx2 hx3 hx4
          go_wp2_with (first | (go_at_call 36; refine (marker_st P.out _ N _ hN2.out (by first | exact HS0.out | exact HS1.out | exact HS2.out | decide) (by omega)).mono ?_; rintro e wN ⟨rfl, hp, hk⟩; replace K := Aside0.mk (K.out.trans hk); replace P := Aside0.mk hp; replace FX := Aside0.mk (FACT.out _ K.out); clear hp hk; clear fl0 fl1 fl2 fb0 fb1 fb2 fb3 fb4; have fl0 := FX.out.l0; have fl1 := FX.out.l1; have fl2 := FX.out.l2; have fb0 := FX.out.b0; have fb1 := FX.out.b1; have fb2 := FX.out.b2; have fb3 := FX.out.b3; have fb4 := FX.out.b4; simp only at fb0 fb1 fb2 fb3 fb4) | (go_at_call 37; refine (lines_st P.out _ _ _ (by first | exact FX.out.h2 | exact FX.out.h3 | exact FX.out.h4) (by first | exact row_apart G.out.2.1.2 HA.out.2.2.2.2.1 | exact row_apart G.out.2.2.1.2 HA.out.2.2.2.2.1 | exact row_apart G.out.2.2.2.1.2 HA.out.2.2.2.2.1) (by have := G.out.2.2.2.2.2.1; first | exact this.2.1 | exact this.2.2.1 | exact this.2.2.2) (by omega)).mono ?_; rintro e wN ⟨rfl, hp, hk⟩; replace K := Aside0.mk (K.out.trans hk); replace P := Aside0.mk hp; replace FX := Aside0.mk (FACT.out _ K.out); clear hp hk; clear fl0 fl1 fl2 fb0 fb1 fb2 fb3 fb4; have fl0 := FX.out.l0; have fl1 := FX.out.l1; have fl2 := FX.out.l2; have fb0 := FX.out.b0; have fb1 := FX.out.b1; have fb2 := FX.out.b2; have fb3 := FX.out.b3; have fb4 := FX.out.b4; simp only at fb0 fb1 fb2 fb3 fb4) | (go_at_call 34; refine (write_st P.out _ _ _ FX.out.h1 (row_apart G.out.1.2 HA.out.2.2.2.2.1) G.out.2.2.2.2.2.1.1 (by omega)).mono ?_; rintro e wN ⟨rfl, hp, hk⟩; replace K := Aside0.mk (K.out.trans hk); replace P := Aside0.mk hp; replace FX := Aside0.mk (FACT.out _ K.out); clear hp hk; clear fl0 fl1 fl2 fb0 fb1 fb2 fb3 fb4; have fl0 := FX.out.l0; have fl1 := FX.out.l1; have fl2 := FX.out.l2; have fb0 := FX.out.b0; have fb1 := FX.out.b1; have fb2 := FX.out.b2; have fb3 := FX.out.b3; have fb4 := FX.out.b4; simp only at fb0 fb1 fb2 fb3 fb4) | (go_at_call 35; refine (shut_st P.out (by omega)).mono ?_; rintro e wN ⟨rfl, hp, hk⟩; replace K := Aside0.mk (K.out.trans hk); replace P := Aside0.mk hp; replace FX := Aside0.mk (FACT.out _ K.out); clear hp hk; clear fl0 fl1 fl2 fb0 fb1 fb2 fb3 fb4; have fl0 := FX.out.l0; have fl1 := FX.out.l1; have fl2 := FX.out.l2; have fb0 := FX.out.b0; have fb1 := FX.out.b1; have fb2 := FX.out.b2; have fb3 := FX.out.b3; have fb4 := FX.out.b4; simp only at fb0 fb1 fb2 fb3 fb4))
          go_roundg (ps.length - (i + 1))
          case rel => exact ⟨wrap64 (ii + 1), i + 1, _, by first | rfl | (simp; done) | (simp [hw1]; done), ⟨by rw [hw1]; have := hii.out; omega⟩, by have := hii.out; omega, rfl, Aside0.mk hnext.out, ⟨Nat.le_trans P.out.2.2 (by omega)⟩, ⟨P.out.1, FX.out.bA⟩⟩
          case measure => have := hii.out; have := G.out.2.2.2.2.2.2.2.2; omega
      | true =>
        have hnext : wrAll N s0 s1 s2 (ps.drop (i + 1)) (wrReg N s0 s1 s2 acc ⟨true, T, S0, S1, S2⟩) = R := by
          have := wrAll_next hall.out G.out.2.2.2.2.1
          simpa [wrPart] using this
        replace hnext := Aside0.mk hnext
        unfold wrReg at hnext
        go_upto_region 7 with (fail)
        have FACT := Aside0.mk (Rd3.of (w := w) (wA := wA) (lb := lb) (g := wb.heap.size) (p := ⟨true, T, S0, S1, S2⟩) HA.out.2.2.1 HA.out.2.2.2.2.2 (heap_alloc_new wb _) (by have := G.out.2.2.2.2.2.2.1; omega) HA.out.2.2.2.2.1 (hI.out.2.trans (below_lo (below_alloc (Below.refl _ _) (Obj.cells #[Value.bool true, Value.slice A1 T.length c1, Value.slice A2 S0.length c2, Value.slice A3 S1.length c3, Value.slice A4 S2.length c4] 50)) (by have := G.out.2.2.2.2.2.2.1; omega)))
          (Kd.F_step G.out.1.2 (fun k hk hl => (below_alloc (Below.refl wb.heap.size wb) _).block k hl)) (Kd.F_step G.out.2.1.2 (fun k hk hl => (below_alloc (Below.refl wb.heap.size wb) _).block k hl)) (Kd.F_step G.out.2.2.1.2 (fun k hk hl => (below_alloc (Below.refl wb.heap.size wb) _).block k hl)) (Kd.F_step G.out.2.2.2.1.2 (fun k hk hl => (below_alloc (Below.refl wb.heap.size wb) _).block k hl)))
        have P : Aside0 (Pq pb (i * 200000000) acc (wb.alloc (Obj.cells #[Value.bool true, Value.slice A1 T.length c1, Value.slice A2 S0.length c2, Value.slice A3 S1.length c3, Value.slice A4 S2.length c4] 50))) := ⟨hI.out.1.below (below_alloc (Below.refl _ _) _), by have := G.out.2.2.2.2.2.2.1; simp; omega, hal.out⟩
        have hi3 : i ≤ 1000 := Nat.le_trans G.out.2.2.2.2.2.2.2.1 HPS.out
        generalize wb.alloc (Obj.cells #[Value.bool true, Value.slice A1 T.length c1, Value.slice A2 S0.length c2, Value.slice A3 S1.length c3, Value.slice A4 S2.length c4] 50) = w1 at FACT P ⊢
        have K := Aside0.mk (Pk.refl pb pb w1)
        have FX := Aside0.mk (FACT.out _ K.out)
        have fl0 := FX.out.l0
        have fl1 := FX.out.l1
        have fl2 := FX.out.l2
        have fb0 := FX.out.b0
        have fb1 := FX.out.b1
        have fb2 := FX.out.b2
        have fb3 := FX.out.b3
        have fb4 := FX.out.b4
        simp only at fb0 fb1 fb2 fb3 fb4
        clear hx0 hx1 hx2 hx3 hx4
        go_wp2_with (first | (go_at_call 36; refine (marker_st P.out _ N _ hN2.out (by first | exact HS0.out | exact HS1.out | exact HS2.out | decide) (by omega)).mono ?_; rintro e wN ⟨rfl, hp, hk⟩; replace K := Aside0.mk (K.out.trans hk); replace P := Aside0.mk hp; replace FX := Aside0.mk (FACT.out _ K.out); clear hp hk; clear fl0 fl1 fl2 fb0 fb1 fb2 fb3 fb4; have fl0 := FX.out.l0; have fl1 := FX.out.l1; have fl2 := FX.out.l2; have fb0 := FX.out.b0; have fb1 := FX.out.b1; have fb2 := FX.out.b2; have fb3 := FX.out.b3; have fb4 := FX.out.b4; simp only at fb0 fb1 fb2 fb3 fb4) | (go_at_call 37; refine (lines_st P.out _ _ _ (by first | exact FX.out.h2 | exact FX.out.h3 | exact FX.out.h4) (by first | exact row_apart G.out.2.1.2 HA.out.2.2.2.2.1 | exact row_apart G.out.2.2.1.2 HA.out.2.2.2.2.1 | exact row_apart G.out.2.2.2.1.2 HA.out.2.2.2.2.1) (by have := G.out.2.2.2.2.2.1; first | exact this.2.1 | exact this.2.2.1 | exact this.2.2.2) (by omega)).mono ?_; rintro e wN ⟨rfl, hp, hk⟩; replace K := Aside0.mk (K.out.trans hk); replace P := Aside0.mk hp; replace FX := Aside0.mk (FACT.out _ K.out); clear hp hk; clear fl0 fl1 fl2 fb0 fb1 fb2 fb3 fb4; have fl0 := FX.out.l0; have fl1 := FX.out.l1; have fl2 := FX.out.l2; have fb0 := FX.out.b0; have fb1 := FX.out.b1; have fb2 := FX.out.b2; have fb3 := FX.out.b3; have fb4 := FX.out.b4; simp only at fb0 fb1 fb2 fb3 fb4) | (go_at_call 34; refine (write_st P.out _ _ _ FX.out.h1 (row_apart G.out.1.2 HA.out.2.2.2.2.1) G.out.2.2.2.2.2.1.1 (by omega)).mono ?_; rintro e wN ⟨rfl, hp, hk⟩; replace K := Aside0.mk (K.out.trans hk); replace P := Aside0.mk hp; replace FX := Aside0.mk (FACT.out _ K.out); clear hp hk; clear fl0 fl1 fl2 fb0 fb1 fb2 fb3 fb4; have fl0 := FX.out.l0; have fl1 := FX.out.l1; have fl2 := FX.out.l2; have fb0 := FX.out.b0; have fb1 := FX.out.b1; have fb2 := FX.out.b2; have fb3 := FX.out.b3; have fb4 := FX.out.b4; simp only at fb0 fb1 fb2 fb3 fb4) | (go_at_call 35; refine (shut_st P.out (by omega)).mono ?_; rintro e wN ⟨rfl, hp, hk⟩; replace K := Aside0.mk (K.out.trans hk); replace P := Aside0.mk hp; replace FX := Aside0.mk (FACT.out _ K.out); clear hp hk; clear fl0 fl1 fl2 fb0 fb1 fb2 fb3 fb4; have fl0 := FX.out.l0; have fl1 := FX.out.l1; have fl2 := FX.out.l2; have fb0 := FX.out.b0; have fb1 := FX.out.b1; have fb2 := FX.out.b2; have fb3 := FX.out.b3; have fb4 := FX.out.b4; simp only at fb0 fb1 fb2 fb3 fb4))
        go_roundg (ps.length - (i + 1))
        case rel => exact ⟨wrap64 (ii + 1), i + 1, _, by first | rfl | (simp; done) | (simp [hw1]; done), ⟨by rw [hw1]; have := hii.out; omega⟩, by have := hii.out; omega, rfl, Aside0.mk hnext.out, ⟨Nat.le_trans P.out.2.2 (by omega)⟩, ⟨P.out.1, FX.out.bA⟩⟩
        case measure => have := hii.out; have := G.out.2.2.2.2.2.2.2.2; omega
    · have hi' : i = ps.length := by have := hii.out; omega
      have hacc : acc = R := by have := hall.out; rw [hi', List.drop_of_length_le (Nat.le_refl _)] at this; exact this
      subst hacc
      have hlen : acc.length ≤ 140737488355328 := by have := hal.out; have := HPS.out; omega
      replace hlen := Aside0.mk hlen
      clear hi'
      go_wp2_with (go_at_call 38; refine (out_calls pb pb acc wb hI.out.1 hlen.out).mono ?_; rintro e w5 ⟨A5, c5, rfl, hc5, hC5, hb5⟩; have HH := Aside0.mk (⟨hc5, hC5, hb5⟩ : _ ∧ _ ∧ _); clear hc5 hC5 hb5)
      refine bodyPost_ret (results_tmp2 rfl _ _ _) rfl ?_
      refine ⟨A5, c5, rfl, HH.out.1, HH.out.2.1, ?_⟩
      have hbw : Below w.heap.size w wb := HA.out.2.1.trans (below_lo hI.out.2 HA.out.2.2.2.2.1)
      exact hbw.trans (below_lo HH.out.2.2 hbw.size)
 · have hright : mark_right.f n = some false := by
     unfold mark_right.f
     by_cases h : n ≥ 1
     · rw [if_pos h]; have : ¬ n ≤ 16777216 := fun h2 => hn ⟨h, h2⟩; simp [this]
     · rw [if_neg h]
   have hres : writeOf n s0 s1 s2 ps = ([], 1) := by unfold writeOf; rw [if_neg hn]
   rw [hres]
   clear hn hres
   go_enter Tryd.func19, Tryd.ntmps19
   go_wp2_with (go_at_call 24; refine (mark_right.calls _ false _ hright).mono ?_; rintro e w1 ⟨rfl, hb1⟩; replace hb1 := drawn_below hb1)
   refine bodyPost_ret (results_tmp2 rfl _ _ _) rfl ?_
   exact ⟨none, 0, rfl, Nat.zero_le _, Kd.C_nil B8 _, (below_alloc (Below.refl _ _) _).trans (below_lo hb1 (by simp))⟩
end Go.Proofs.YtnnnbeimehfiiaaDoor.Q
/-! The chapter's example in plain Lean. -/
set_option linter.unusedVariables false
namespace Go.Proofs.YtnnnbeimehfiiaaDoor.Q
open Go Go.RowKit Go.Proofs.YtnnnbeimehfiiaaDoorW.PrintWords Go.Proofs.YtnnnbeimehfiiaaDoorW.SL
def knP : Pt := ⟨true, [], [120], [121], [122]⟩
def knT : List Int := [60, 60, 60, 60, 60, 60, 60, 32, 97, 10, 120, 10, 124, 124, 124, 124, 124, 124, 124, 32, 98, 10, 121, 10, 61, 61, 61, 61, 61, 61, 61, 10, 122, 10, 62, 62, 62, 62, 62, 62, 62, 32, 99, 10]
def knQ : Pt := ⟨true, [], [120, 10], [121, 10], [122, 10]⟩
theorem kn_w : writeOf 7 ⟨#[97]⟩ ⟨#[98]⟩ ⟨#[99]⟩ [knP] = (knT, 0) := by kernel_rfl
theorem kn_r : readOf 7 knT = ([knQ], 0) := by kernel_rfl
theorem kn_e : readOf 7 [60, 60, 60, 60, 60, 60, 60, 10] = ([], 5) := by kernel_rfl
end Go.Proofs.YtnnnbeimehfiiaaDoor.Q
-- Written by a program of this session (wip/gen_kn.py) for this claim; Lean checks it.
/-! known, walked. -/
set_option linter.unusedVariables false
set_option linter.unusedSimpArgs false
namespace Go.Proofs.YtnnnbeimehfiiaaDoor.Q
open Go Go.RowKit Go.Proofs.YtnnnbeimehfiiaaDoorW.PrintWords Go.Proofs.YtnnnbeimehfiiaaDoorW.PrintLast Go.Proofs.YtnnnbeimehfiiaaDoorW.PrintMore Go.Proofs.YtnnnbeimehfiiaaDoorW.SL
attribute [local go_sem] max2_int min2_int max_two min_two max_three min_three max_four min_four
theorem kn_b : ∀ x ∈ knT, byte x := by intro x hx; simp only [knT, List.mem_cons, List.not_mem_nil, or_false] at hx; unfold byte; omega
theorem kn_b2 : ∀ x ∈ ([60, 60, 60, 60, 60, 60, 60, 10] : List Int), byte x := by intro x hx; simp only [List.mem_cons, List.not_mem_nil, or_false] at hx; unfold byte; omega
theorem kn_s : strOfNums knT = (⟨#[60, 60, 60, 60, 60, 60, 60, 32, 97, 10, 120, 10, 124, 124, 124, 124, 124, 124, 124, 32, 98, 10, 121, 10, 61, 61, 61, 61, 61, 61, 61, 10, 122, 10, 62, 62, 62, 62, 62, 62, 62, 32, 99, 10]⟩ : ByteArray) := by kernel_rfl
theorem kn_s2 : strOfNums [122, 10] = (⟨#[122, 10]⟩ : ByteArray) := by kernel_rfl
theorem five_at (w : World) (o1 o2 o3 o4 o5 : Obj) : (((((w.alloc o1).alloc o2).alloc o3).alloc o4).alloc o5).heap[w.heap.size]? = some o1 ∧ (((((w.alloc o1).alloc o2).alloc o3).alloc o4).alloc o5).heap[w.heap.size + 1]? = some o2 ∧ (((((w.alloc o1).alloc o2).alloc o3).alloc o4).alloc o5).heap[w.heap.size + 1 + 1]? = some o3 ∧ (((((w.alloc o1).alloc o2).alloc o3).alloc o4).alloc o5).heap[w.heap.size + 1 + 1 + 1 + 1]? = some o5 ∧ Below w.heap.size w (((((w.alloc o1).alloc o2).alloc o3).alloc o4).alloc o5) ∧ w.heap.size ≤ (((((w.alloc o1).alloc o2).alloc o3).alloc o4).alloc o5).heap.size := by
  have z1 : (w.alloc o1).heap.size = w.heap.size + 1 := by simp
  obtain ⟨w1, h1⟩ : ∃ w1, w.alloc o1 = w1 := ⟨_, rfl⟩
  have e1 : w1.heap[w.heap.size]? = some o1 := by rw [← h1]; exact heap_alloc_new w o1
  have b1 : Below w.heap.size w w1 := by rw [← h1]; exact below_alloc (Below.refl _ _) _
  rw [h1] at z1 ⊢
  have z2 : (w1.alloc o2).heap.size = w.heap.size + 1 + 1 := by simp [z1]
  obtain ⟨w2, h2⟩ : ∃ w2, w1.alloc o2 = w2 := ⟨_, rfl⟩
  have e2 : w2.heap[w.heap.size + 1]? = some o2 := by rw [← h2, ← z1]; exact heap_alloc_new w1 o2
  have b2 : Below w1.heap.size w1 w2 := by rw [← h2]; exact below_alloc (Below.refl _ _) _
  rw [h2] at z2 ⊢
  have z3 : (w2.alloc o3).heap.size = w.heap.size + 1 + 1 + 1 := by simp [z2]
  obtain ⟨w3, h3⟩ : ∃ w3, w2.alloc o3 = w3 := ⟨_, rfl⟩
  have e3 : w3.heap[w.heap.size + 1 + 1]? = some o3 := by rw [← h3, ← z2]; exact heap_alloc_new w2 o3
  have b3 : Below w2.heap.size w2 w3 := by rw [← h3]; exact below_alloc (Below.refl _ _) _
  rw [h3] at z3 ⊢
  have z4 : (w3.alloc o4).heap.size = w.heap.size + 1 + 1 + 1 + 1 := by simp [z3]
  obtain ⟨w4, h4⟩ : ∃ w4, w3.alloc o4 = w4 := ⟨_, rfl⟩
  have b4 : Below w3.heap.size w3 w4 := by rw [← h4]; exact below_alloc (Below.refl _ _) _
  rw [h4] at z4 ⊢
  obtain ⟨w5, h5⟩ : ∃ w5, w4.alloc o5 = w5 := ⟨_, rfl⟩
  have e5 : w5.heap[w.heap.size + 1 + 1 + 1 + 1]? = some o5 := by rw [← h5, ← z4]; exact heap_alloc_new w4 o5
  have b5 : Below w4.heap.size w4 w5 := by rw [← h5]; exact below_alloc (Below.refl _ _) _
  rw [h5]
  have s5 := b5.size
  refine ⟨?_, ?_, ?_, e5, ?_, by omega⟩
  · rw [b5.block _ (by omega), b4.block _ (by omega), b3.block _ (by omega), b2.block _ (by omega)]; exact e1
  · rw [b5.block _ (by omega), b4.block _ (by omega), b3.block _ (by omega)]; exact e2
  · rw [b5.block _ (by omega), b4.block _ (by omega)]; exact e3
  · exact (((b1.trans (below_lo b2 (by omega))).trans (below_lo b3 (by omega))).trans (below_lo b4 (by omega))).trans (below_lo b5 (by omega))
theorem kn_C {W : World} {g a1 a2 a3 t : Nat} (h : W.heap[g]? = some (.cells #[.bool true, .slice none 0 0, .slice (some ⟨a1, 0, none⟩) 1 1, .slice (some ⟨a2, 0, none⟩) 1 1, .slice (some ⟨a3, 0, none⟩) 1 1] t (0, 0))) (h1 : W.heap[a1]? = some (.cells #[.int .u8 120] 5 (1, 2))) (h2 : W.heap[a2]? = some (.cells #[.int .u8 121] 5 (1, 2))) (h3 : W.heap[a3]? = some (.cells #[.int .u8 122] 5 (1, 2))) :
    Kd.C kP W (some ⟨g, 0, none⟩) [knP].length [knP] := by
  refine ⟨rfl, by decide, fun _ => ⟨_, rfl, fun j x hj => ?_⟩⟩
  cases j with
  | zero =>
    simp only [List.getElem?_cons_zero, Option.some.injEq] at hj
    subst hj
    refine ⟨_, by rfl, kP_mk W knP (A1 := none) (c1 := 0) (A2 := some ⟨a1, 0, none⟩) (c2 := 1) (A3 := some ⟨a2, 0, none⟩) (c3 := 1) (A4 := some ⟨a3, 0, none⟩) (c4 := 1) ⟨Nat.le_refl _, Kd.C_nil B8 _⟩ ⟨Nat.le_refl _, lit_C (cs := [120]) h1 (by decide)⟩ ⟨Nat.le_refl _, lit_C (cs := [121]) h2 (by decide)⟩ ⟨Nat.le_refl _, lit_C (cs := [122]) h3 (by decide)⟩, fun i u hi => ?_⟩
    rw [base_add, blk_cell h]
    rw [← Array.getElem?_toList]
    refine Eq.trans ?_ hi
    simp [knP]
  | succ j => simp at hj
set_option maxHeartbeats 16000000 in
set_option maxRecDepth 100000 in
theorem known_walk (w : World) : Calls Tryd.prog 11 #[] w fun e w' => e = .returned (.bool true) ∧ Below w.heap.size w w' := by
  obtain ⟨wa, hwa⟩ : ∃ wa, wa = w.alloc (.cells #[.int .u8 120] 5 (1, 2)) := ⟨_, rfl⟩
  obtain ⟨wb, hwb⟩ : ∃ wb, wb = wa.alloc (.cells #[.int .u8 121] 5 (1, 2)) := ⟨_, rfl⟩
  have hca := Go.Joins.run_convert_bytes_const_at (P := Tryd.prog) w 22 5 #[.int .u8 120] 1 1 w.heap.size rfl Tryd.underlying22 Tryd.underlying5
  have hcb := Go.Joins.run_convert_bytes_const_at (P := Tryd.prog) wa 22 5 #[.int .u8 121] 1 1 (w.heap.size + 1) (by rw [hwa]; simp) Tryd.underlying22 Tryd.underlying5
  have hcc := Go.Joins.run_convert_bytes_const_at (P := Tryd.prog) wb 22 5 #[.int .u8 122] 1 1 (w.heap.size + 1 + 1) (by rw [hwb, hwa]; simp) Tryd.underlying22 Tryd.underlying5
  rw [hwb, hwa] at hcc
  rw [hwa] at hcb
  clear hwa hwb
  go_enter Tryd.func11, Tryd.ntmps11
  go_wp2_with (first | (go_at_call 19; refine (Write_calls 7 ⟨#[97]⟩ ⟨#[98]⟩ ⟨#[99]⟩ (some ⟨w.heap.size + 1 + 1 + 1 + 1, 0, none⟩) 1 [knP] _ (kn_C (t := 50) (a1 := w.heap.size) (a2 := w.heap.size + 1) (a3 := w.heap.size + 1 + 1) (five_at w _ _ _ _ _).2.2.2.1 (five_at w _ _ _ _ _).1 (five_at w _ _ _ _ _).2.1 (five_at w _ _ _ _ _).2.2.1) (Nat.le_refl _) (by decide) (by intro p hp; rw [List.mem_singleton] at hp; subst hp; decide) (by decide) (by decide) (by decide)).mono ?_; rw [kn_w]; rintro e w1 ⟨A1, c1, rfl, hc1, hC1, hb1⟩; have HB1 : Aside0 (Below w.heap.size w w1) := ⟨(five_at w _ _ _ _ _).2.2.2.2.1.trans (below_lo hb1 (five_at w _ _ _ _ _).2.2.2.2.2)⟩; replace hC1 := Aside0.mk hC1; replace hc1 := Aside0.mk hc1; clear hb1) | (go_at_call 9; refine (read_calls 7 A1 c1 knT w1 hC1.out hc1.out kn_b (by decide)).mono ?_; rw [kn_r]; rintro e w2 ⟨A2, c2, rfl, hc2, hC2, hb2⟩; have HB2 := Aside0.mk (HB1.out.trans (below_lo hb2 HB1.out.size)); replace hC1 := Aside0.mk (Kd.C_below hC1.out hb2); replace hC2 := Aside0.mk hC2; have hcd := Go.Joins.run_convert_bytes_const_at (P := Tryd.prog) w2 22 5 #[.int .u8 60, .int .u8 60, .int .u8 60, .int .u8 60, .int .u8 60, .int .u8 60, .int .u8 60, .int .u8 10] 8 8 w2.heap.size rfl Tryd.underlying22 Tryd.underlying5; clear hb2) | (go_at_call 9; refine (read_calls 7 (some ⟨w2.heap.size, 0, none⟩) 8 [60, 60, 60, 60, 60, 60, 60, 10] _ (lit_C (cs := [60, 60, 60, 60, 60, 60, 60, 10]) (heap_alloc_new w2 _) (by decide)) (Nat.le_refl _) kn_b2 (by decide)).mono ?_; rw [kn_e]; rintro e w3 ⟨A3, c3, rfl, _, _, hb3⟩; have hb3_ := (below_alloc (Below.refl _ _) _).trans (below_lo hb3 (by simp)); have HB3 := Aside0.mk (HB2.out.trans (below_lo hb3_ HB2.out.size)); replace hC1 := Kd.C_below hC1.out hb3_; replace hC2 := Kd.C_below hC2.out hb3_; clear hb3 hb3_; have hst1 := Kd.C_string (P := Tryd.prog) (c := c1) Tryd.underlying22 Tryd.underlying5 Tryd.underlying9 hC1; rw [kn_s] at hst1; obtain ⟨a2, x2, B1, d1, B2, d2, B3, d3, B4, d4, rfl, hx2, _, q0, q1, q2, q3, q4, k1, k2, k3, k4⟩ := at_Pt (Kd.C_F kP_heap hC2) 0 (Int.le_refl _) (by decide); obtain rfl : knQ = x2 := Option.some.inj hx2; have hst2 := Kd.C_string (P := Tryd.prog) (c := d4) Tryd.underlying22 Tryd.underlying5 Tryd.underlying9 (Kd.F_now k4.2); rw [show knQ.s2 = [122, 10] from rfl, kn_s2] at hst2; have e0_ : a2.add ((0 : Int).toNat * 5) = a2 := (by simp [Addr.add]); rw [e0_] at q0 q4; replace q0 : w3.cell? a2 = some (.bool true) := q0; replace q4 : w3.cell? ⟨a2.block, a2.off + 4, none⟩ = some (.slice B4 2 d4) := q4; replace hst2 : (convert 22 9 (.slice B4 2 d4)).run Tryd.prog w3 = .ok (.string ⟨#[122, 10]⟩) w3 := hst2; clear e0_ q1 q2 q3; replace hC1 := Aside0.mk hC1; replace hC2 := Aside0.mk hC2; clear k1 k2 k3 k4 hx2))
  go_ret
  exact ⟨rfl, HB3.out⟩
end Go.Proofs.YtnnnbeimehfiiaaDoor.Q
/-! MarkMoves in plain Lean: a text behind another; longer markers than any. -/
set_option linter.unusedVariables false
set_option linter.unusedSimpArgs false
namespace Go.Proofs.YtnnnbeimehfiiaaDoor.Q
open Go Go.RowKit Go.Proofs.YtnnnbeimehfiiaaDoorW.PrintWords Go.Proofs.YtnnnbeimehfiiaaDoorW.SL
theorem linesOf_cons (x : Int) (r : List Int) : linesOf (x :: r) = if x = 10 then [10] :: linesOf r else match linesOf r with | [] => [[x]] | y :: ys => (x :: y) :: ys := rfl
theorem linesOf_two : ∀ (p y : List Int), linesOf (p ++ 10 :: y) = linesOf (p ++ [10]) ++ linesOf y
  | [], y => by simp [linesOf]
  | z :: p, y => by
    have ih := linesOf_two p y
    rw [List.cons_append, List.cons_append, linesOf_cons, linesOf_cons, ih]
    by_cases hz : z = 10
    · rw [if_pos hz, if_pos hz]; rfl
    · rw [if_neg hz, if_neg hz]
      cases h : linesOf (p ++ [10]) with
      | nil =>
        exfalso
        cases p with
        | nil => simp [linesOf] at h
        | cons u q =>
          rw [List.cons_append, linesOf_cons] at h
          split at h
          · cases h
          · split at h <;> cases h
      | cons u us => rfl
def mg (q p : Pt) : Pt := ⟨false, q.text ++ p.text, p.s0, p.s1, p.s2⟩
def glue (l m : List Pt) : List Pt := match m with
  | [] => l
  | p :: r => match l.getLast? with
    | some q => if q.region = false ∧ p.region = false then l.dropLast ++ mg q p :: r else l ++ p :: r
    | none => p :: r
theorem glue_snoc (l m : List Pt) (q : Pt) (hm : m ≠ []) : glue l (m ++ [q]) = glue l m ++ [q] := by
  cases m with
  | nil => exact absurd rfl hm
  | cons p r =>
    simp only [List.cons_append, glue]
    cases l.getLast? with
    | none => rfl
    | some u => simp only; split <;> simp
/-- What is done to the last part is done to the last part of what is glued. -/
theorem glue_onLast (l : List Pt) (f : Pt → Pt) (hf : ∀ q p, f (mg q p) = mg q (f p)) (hr : ∀ p, (f p).region = p.region) : ∀ (m : List Pt), m ≠ [] → glue l (onLast f m) = onLast f (glue l m)
  | [], h => absurd rfl h
  | [p], _ => by
    simp only [onLast, glue]
    cases h : l.getLast? with
    | none => rfl
    | some u =>
      simp only [hr]
      split
      · rw [onLast_snoc, hf]
      · rw [onLast_snoc]
  | p :: q :: r, _ => by
    have e : onLast f (p :: q :: r) = p :: onLast f (q :: r) := rfl
    rw [e]
    have hs : ∀ (a : List Pt), onLast f (a ++ q :: r) = a ++ onLast f (q :: r) := by
      intro a
      induction a with
      | nil => rfl
      | cons u a ih =>
        cases a with
        | nil => rfl
        | cons v a => show u :: onLast f (v :: a ++ q :: r) = _; rw [ih]; rfl
    simp only [glue]
    cases h : l.getLast? with
    | none => rfl
    | some u =>
      simp only
      split
      · have := hs (l.dropLast ++ [mg u p]); simp only [List.append_assoc, List.singleton_append] at this; rw [this]
      · have := hs (l ++ [p]); simp only [List.append_assoc, List.singleton_append] at this; rw [this]
theorem glue_last (l m : List Pt) (p : Pt) : (glue l (m ++ [p])).getLast? = some p ∨ ∃ q, m = [] ∧ l.getLast? = some q ∧ q.region = false ∧ p.region = false ∧ (glue l (m ++ [p])).getLast? = some (mg q p) := by
  cases m with
  | cons u r => left; rw [glue_snoc _ _ _ (by simp)]; simp
  | nil =>
    simp only [List.nil_append, glue]
    cases h : l.getLast? with
    | none => left; simp
    | some q =>
      simp only
      split
      · rename_i h2; right; exact ⟨q, by first | rfl | trivial, by first | rfl | trivial | exact h, h2.1, h2.2, by simp⟩
      · left; simp
/-- Plain parts have no sides. -/
def PlainOk (l : List Pt) : Prop := ∀ p ∈ l, p.region = false → p.s0 = [] ∧ p.s1 = [] ∧ p.s2 = []
theorem step_glue {n : Nat} (l : List Pt) (hl : PlainOk l) {m : List Pt} {st : Nat} {x : List Int} (hne : st ≠ 0 → m ≠ []) : rdStep n (glue l m, st) x = (rdStep n (m, st) x).map (fun t => (glue l t.1, t.2)) := by
  unfold rdStep
  by_cases h0 : mkOf n x = 0
  · rw [if_pos h0, if_pos h0]
    by_cases hs : st = 0
    · subst hs
      simp only [if_true]
      rcases snoc_cases m with rfl | ⟨fr, p, rfl⟩
      · simp only [glue, List.getLast?_nil]
        cases h : l.getLast? with
        | none =>
          have : l = [] := by simpa using h
          subst this
          simp [glue]
        | some q =>
          obtain ⟨l', rfl⟩ : ∃ l', l = l' ++ [q] := by
            rcases snoc_cases l with rfl | ⟨l', u, rfl⟩
            · simp at h
            · simp at h; subst h; exact ⟨l', rfl⟩
          cases hq : q.region with
          | true => simp [glue, hq]
          | false =>
            obtain ⟨h1, h2, h3⟩ := hl q (by simp) hq
            simp [glue, hq, onLast_snoc, mg, addText]
            cases q; simp_all
      · have hp : (fr ++ [p]).getLast? = some p := by simp
        rw [hp]
        rcases glue_last l fr p with h | ⟨q, rfl, hq, hqr, hpr, h⟩
        · rw [h]
          simp only
          split
          · rw [Option.map_some]; simp only; rw [glue_snoc l (fr ++ [p]) _ (by simp)]
          · rw [Option.map_some]
            simp only
            rw [glue_onLast l (addText · x) (fun q p => by simp [addText, mg]) (fun p => rfl) _ (by simp)]
        · rw [h]
          simp only [mg, hpr, Bool.false_eq_true, if_false, Option.map_some]
          rw [glue_onLast l (addText · x) (fun q p => by simp [addText, mg]) (fun p => rfl) _ (by simp)]
    · rw [if_neg hs, if_neg hs, Option.map_some]
      simp only
      rw [glue_onLast l (addSide · (st - 1) x) (fun q p => by rcases st - 1 with _ | _ | k <;> rfl) (fun p => by rcases st - 1 with _ | _ | k <;> rfl) _ (hne hs)]
  · rw [if_neg h0, if_neg h0]
    split
    · rename_i h1
      rw [Option.map_some]
      simp only
      congr 2
      rcases snoc_cases m with rfl | ⟨fr, p, rfl⟩
      · simp only [glue, List.nil_append]
        cases h : l.getLast? with
        | none => have : l = [] := by simpa using h
                  subst this; rfl
        | some q => simp
      · rw [glue_snoc l (fr ++ [p]) _ (by simp)]
    · split
      · rfl
      · split <;> rfl
theorem all_glue {n : Nat} (l : List Pt) (hl : PlainOk l) : ∀ (r : List (List Int)) (m : List Pt) (st : Nat), (st ≠ 0 → m ≠ []) → rdAll n r (glue l m, st) = (rdAll n r (m, st)).map (fun t => (glue l t.1, t.2))
  | [], m, st, _ => rfl
  | x :: r, m, st, hne => by
    simp only [rdAll]
    rw [step_glue l hl hne]
    cases h : rdStep n (m, st) x with
    | none => rfl
    | some t =>
      obtain ⟨m2, st2⟩ := t
      exact all_glue l hl r m2 st2 (rdStep_ne h hne)
theorem lines_flat : ∀ l : List Int, (linesOf l).flatten = l
  | [] => rfl
  | x :: r => by
    have ih := lines_flat r
    rw [linesOf_cons]
    split
    · rename_i h; rw [List.flatten_cons, ih, h]; rfl
    · cases h : linesOf r with
      | nil => rw [h] at ih; rw [← ih]; rfl
      | cons y ys => rw [h] at ih; rw [← ih]; rfl
theorem stepL_ge (n : Int) (x : List Int) : n ≤ stepL n x ∧ (0 < (sgn x).1 → (((sgn x).1 : Nat) : Int) < stepL n x) := by
  unfold stepL mx
  split
  · split <;> omega
  · omega
theorem fold_ge : ∀ (l : List (List Int)) (n : Int), n ≤ l.foldl stepL n ∧ ∀ x ∈ l, 0 < (sgn x).1 → (((sgn x).1 : Nat) : Int) < l.foldl stepL n
  | [], n => ⟨Int.le_refl _, by simp⟩
  | y :: r, n => by
    have h := stepL_ge n y
    have ih := fold_ge r (stepL n y)
    refine ⟨Int.le_trans h.1 ih.1, fun x hx h0 => ?_⟩
    rcases List.mem_cons.1 hx with rfl | hx
    · have := h.2 h0; have := ih.1; simp only [List.foldl_cons]; omega
    · exact ih.2 x hx h0
theorem fold_le (B : Int) : ∀ (l : List (List Int)) (n : Int), n ≤ B + 1 → (∀ x ∈ l, (x.length : Int) ≤ B) → l.foldl stepL n ≤ B + 1
  | [], n, h, _ => h
  | y :: r, n, h, hx => by
    refine fold_le B r (stepL n y) ?_ (fun x hx2 => hx x (List.mem_cons_of_mem _ hx2))
    have h1 := sgn_le y
    have h2 := hx y List.mem_cons_self
    unfold stepL mx
    split
    · split <;> omega
    · exact h
theorem all_plain {N : Nat} : ∀ (r : List (List Int)) (T : List Int), (∀ x ∈ r, mkOf N x = 0) → rdAll N r ([⟨false, T, [], [], []⟩], 0) = some ([⟨false, T ++ r.flatten, [], [], []⟩], 0)
  | [], T, _ => by simp [rdAll]
  | x :: r, T, h => by
    have h1 : rdStep N ([⟨false, T, [], [], []⟩], 0) x = some ([⟨false, T ++ x, [], [], []⟩], 0) := by simp [rdStep, h x List.mem_cons_self, onLast, addText]
    simp only [rdAll, h1, Option.bind_some]
    rw [all_plain r (T ++ x) (fun y hy => h y (List.mem_cons_of_mem _ hy))]
    simp
end Go.Proofs.YtnnnbeimehfiiaaDoor.Q
/-! MarkBack and MarkPicks in plain Lean: what was written is read as it was, joined; a side of it is that side. -/
set_option linter.unusedVariables false
set_option linter.unusedSimpArgs false
namespace Go.Proofs.YtnnnbeimehfiiaaDoor.Q
open Go Go.RowKit Go.Proofs.YtnnnbeimehfiiaaDoorW.PrintWords Go.Proofs.YtnnnbeimehfiiaaDoorW.SL
def jTxt (last : Bool) (p : Pt) : List Int := if last then p.text else endNl p.text
def jAdd (t : List Int) (q : Pt) : Pt := ⟨q.region, endNl q.text ++ t, q.s0, q.s1, q.s2⟩
def jPart (last : Bool) (out : List Pt) (p : Pt) : List Pt :=
  if p.region then out ++ [⟨true, [], endNl p.s0, endNl p.s1, endNl p.s2⟩] else
  if jTxt last p = [] then out else match out.getLast? with
    | some q => if q.region then out ++ [⟨false, jTxt last p, [], [], []⟩] else onLast (jAdd (jTxt last p)) out
    | none => [⟨false, jTxt last p, [], [], []⟩]
def jAll : List Pt → List Pt → List Pt
  | [], out => out
  | p :: r, out => jAll r (jPart r.isEmpty out p)
def chunk (n : Nat) (s0 s1 s2 : ByteArray) (last : Bool) (p : Pt) : List Int :=
  if p.region then mkLine 60 n s0 ++ (endNl p.s0 ++ (mkLine 124 n s1 ++ (endNl p.s1 ++ (mkLine 61 n ⟨#[]⟩ ++ (endNl p.s2 ++ mkLine 62 n s2))))) else jTxt last p
theorem wr_chunk (n : Nat) (s0 s1 s2 : ByteArray) (last : Bool) {acc : List Int} (h : endNl acc = acc) (p : Pt) : wrPart n s0 s1 s2 last acc p = acc ++ chunk n s0 s1 s2 last p := by
  unfold wrPart chunk wrReg jTxt
  split
  · rw [endNl_app (endNl_line _ _ _ _), endNl_app (endNl_line _ _ _ _), endNl_app (endNl_line _ _ _ _)]
    simp only [List.append_assoc]
  · split
    · rfl
    · rw [endNl_app h]
theorem chunk_end (n : Nat) (s0 s1 s2 : ByteArray) {acc : List Int} (h : endNl acc = acc) (p : Pt) : endNl (acc ++ chunk n s0 s1 s2 false p) = acc ++ chunk n s0 s1 s2 false p := by
  unfold chunk jTxt
  split
  · simp only [← List.append_assoc]; rw [endNl_line]
  · simp only [Bool.false_eq_true, if_false]; rw [endNl_app h, endNl_idem]
theorem ended_cases {a : List Int} (h : endNl a = a) : a = [] ∨ ∃ p, a = p ++ [10] := by
  rcases List.eq_nil_or_concat a with rfl | ⟨r, x, hs⟩
  · exact .inl rfl
  · have h2 : a = r ++ [x] := by simpa using hs
    subst h2
    rw [endNl_snoc] at h
    split at h
    · rename_i hx; subst hx; exact .inr ⟨r, rfl⟩
    · have := congrArg List.length h; simp at this
theorem lines_app {a : List Int} (h : endNl a = a) (y : List Int) : linesOf (a ++ y) = linesOf a ++ linesOf y := by
  rcases ended_cases h with rfl | ⟨p, rfl⟩
  · rfl
  · rw [List.append_assoc]; exact linesOf_two p y
theorem lines_ne {t : List Int} (h : t ≠ []) : linesOf t ≠ [] := fun hL => by
  have := lines_flat t
  rw [hL] at this
  exact h this.symm
def nlLast : List (List Int) → List (List Int)
  | [] => []
  | [y] => [y ++ [10]]
  | y :: z :: r => y :: nlLast (z :: r)
theorem lines_nl : ∀ (t : List Int) (x : Int), x ≠ 10 → linesOf (t ++ [x] ++ [10]) = nlLast (linesOf (t ++ [x]))
  | [], x, h => by simp [linesOf, h, nlLast]
  | y :: t, x, h => by
    have ih := lines_nl t x h
    have hne : linesOf (t ++ [x]) ≠ [] := lines_ne (by simp)
    rw [List.cons_append, List.cons_append, linesOf_cons, linesOf_cons, ih]
    cases hL : linesOf (t ++ [x]) with
    | nil => exact absurd hL hne
    | cons z r => cases r with
      | nil => split <;> simp [nlLast]
      | cons u r => split <;> simp [nlLast]
theorem nlLast_mem : ∀ (l : List (List Int)) (y : List Int), y ∈ nlLast l → y ∈ l ∨ ∃ x ∈ l, y = x ++ [10]
  | [], y, h => by simp [nlLast] at h
  | [z], y, h => by
    simp only [nlLast, List.mem_singleton] at h
    exact .inr ⟨z, by simp, h⟩
  | z :: u :: r, y, h => by
    simp only [nlLast] at h
    rcases List.mem_cons.1 h with rfl | h
    · exact .inl (by simp)
    · rcases nlLast_mem (u :: r) y h with h | ⟨x, hx, h⟩
      · exact .inl (List.mem_cons_of_mem _ h)
      · exact .inr ⟨x, List.mem_cons_of_mem _ hx, h⟩
theorem rl_app {c : Int} (z : Int) (r : List Int) (hz : z ≠ c) : ∀ l : List Int, rl c (l ++ z :: r) = rl c l
  | [] => by simp [rl, hz]
  | x :: l => by
    have ih := rl_app z r hz l
    rw [List.cons_append]
    unfold rl
    rw [ih]
theorem sgCh_ne {x : Int} (h : sgCh x = true) : (10 : Int) ≠ x ∧ (32 : Int) ≠ x := by
  simp only [sgCh, Bool.or_eq_true, beq_iff_eq] at h
  omega
theorem sgn_nl : ∀ (x : List Int), (sgn (x ++ [10])).1 = (sgn x).1
  | [] => by simp [sgn, sgCh]
  | z :: r => by
    simp only [List.cons_append, sgn]
    split
    · rename_i h
      exact rl_app 10 [] (sgCh_ne h).1 (z :: r)
    · rfl
/-- No line of a text begins with so many signs. -/
def Good (N : Nat) (t : List Int) : Prop := ∀ x ∈ linesOf t, (sgn x).1 < N
theorem Good.ended {N : Nat} {t : List Int} (h : Good N t) : Good N (endNl t) := by
  rcases List.eq_nil_or_concat t with rfl | ⟨r, x, hs⟩
  · exact h
  · have h2 : t = r ++ [x] := by simpa using hs
    subst h2
    rw [endNl_snoc]
    split
    · exact h
    · rename_i hx
      intro y hy
      rw [lines_nl r x hx] at hy
      rcases nlLast_mem _ _ hy with hy | ⟨z, hz, rfl⟩
      · exact h y hy
      · rw [sgn_nl]; exact h z hz
theorem Good.mk {N : Nat} {t : List Int} (h : Good N t) : ∀ x ∈ linesOf t, mkOf N x = 0 := fun x hx => by
  unfold mkOf
  rw [if_neg]
  rintro ⟨h3, _⟩
  have := h x hx
  omega
theorem sb_lab (s : ByteArray) : ∀ x ∈ sb (labB s), x ≠ 10 := by
  have hf : ∀ c : UInt8, bnum (fixC c) ≠ 10 := by
    intro c
    unfold fixC
    split
    · decide
    · rename_i h
      intro h2
      apply h
      left
      have : c.toNat = 10 := by unfold bnum at h2; omega
      rw [UInt8.lt_iff_toNat_lt, this]
      decide
  intro x hx
  unfold sb labB at hx
  simp only [List.mem_map] at hx
  obtain ⟨c, hc, rfl⟩ := hx
  unfold Lib.trimRightB at hc
  have hc2 := (List.dropWhile_sublist _).subset (List.mem_reverse.1 hc)
  rw [List.mem_reverse, List.mem_map] at hc2
  obtain ⟨d, _, rfl⟩ := hc2
  exact hf d
def mkTail (s : ByteArray) : List Int := if labB s = ⟨#[]⟩ then [] else 32 :: sb (labB s)
theorem mkTail_no (s : ByteArray) : ∀ x ∈ mkTail s, x ≠ 10 := by
  intro x hx
  unfold mkTail at hx
  split at hx
  · simp at hx
  · rcases List.mem_cons.1 hx with rfl | hx
    · decide
    · exact sb_lab s x hx
theorem mkLine_lines {x : UInt8} (hx : bnum x ≠ 10) (n : Nat) (s : ByteArray) : linesOf (mkLine x n s) = [mkLine x n s] := by
  have h := linesOf_nl (List.replicate n (bnum x) ++ mkTail s) [] (fun y hy => by
    rcases List.mem_append.1 hy with hy | hy
    · rw [(List.mem_replicate.1 hy).2]; exact hx
    · exact mkTail_no s y hy)
  exact h
theorem rl_rep (c : Int) : ∀ n : Nat, rl c (List.replicate n c) = n
  | 0 => rfl
  | n + 1 => by
    rw [List.replicate_succ]
    unfold rl
    rw [if_pos rfl, rl_rep c n]
theorem trimNl_snoc (l : List Int) : trimNl (l ++ [10]) = l := by simp [trimNl]
theorem mkLine_mk {x : UInt8} (hx : sgCh (bnum x) = true) {n : Nat} (hn : 1 ≤ n) (s : ByteArray) (hs : bnum x = 61 → labB s = ⟨#[]⟩) : mkOf n (mkLine x n s) = bnum x := by
  have e : mkLine x n s = List.replicate n (bnum x) ++ (mkTail s ++ [10]) := by unfold mkLine mkTail; rw [List.append_assoc]
  have hne := sgCh_ne hx
  obtain ⟨z, r, hz, hzr⟩ : ∃ z r, z ≠ bnum x ∧ mkTail s ++ [10] = z :: r := by
    unfold mkTail
    split
    · exact ⟨10, [], hne.1, rfl⟩
    · exact ⟨32, _, hne.2, rfl⟩
  have hsg : sgn (mkLine x n s) = (n, bnum x) := by
    have h1 : rl (bnum x) (mkLine x n s) = n := by rw [e, hzr, rl_app z r hz, rl_rep]
    obtain ⟨m, rfl⟩ : ∃ m, n = m + 1 := ⟨n - 1, by omega⟩
    have h2 : mkLine x (m + 1) s = bnum x :: (List.replicate m (bnum x) ++ (mkTail s ++ [10])) := by rw [e, List.replicate_succ]; rfl
    rw [h2] at h1 ⊢
    simp only [sgn, hx, if_true]
    rw [h1]
  unfold mkOf
  rw [hsg, e, List.drop_left' (by simp), trimNl_snoc, if_pos]
  refine ⟨rfl, ?_⟩
  unfold mkTail
  split
  · rfl
  · rename_i h
    have : bnum x ≠ 61 := fun h2 => h (hs h2)
    simp [okTail, this]
theorem addSide_nil (p : Pt) (j : Nat) : addSide p j [] = p := by rcases j with _ | _ | j <;> simp [addSide]
theorem addSide_app (p : Pt) (j : Nat) (x y : List Int) : addSide (addSide p j x) j y = addSide p j (x ++ y) := by rcases j with _ | _ | j <;> simp [addSide]
theorem all_side {N k : Nat} (hk : k ≠ 0) : ∀ (r : List (List Int)) (p : Pt), (∀ x ∈ r, mkOf N x = 0) → rdAll N r ([p], k) = some ([addSide p (k - 1) r.flatten], k)
  | [], p, _ => by simp [rdAll, addSide_nil]
  | x :: r, p, h => by
    have h1 : rdStep N ([p], k) x = some ([addSide p (k - 1) x], k) := by simp [rdStep, h x List.mem_cons_self, hk, onLast]
    simp only [rdAll, h1, Option.bind_some]
    rw [all_side hk r _ (fun y hy => h y (List.mem_cons_of_mem _ hy)), addSide_app, List.flatten_cons]
theorem read_region {N : Nat} (h1 : 1 ≤ N) (s0 s1 s2 : ByteArray) {a b c : List Int} (ha : endNl a = a) (hb : endNl b = b) (hc : endNl c = c) (ga : Good N a) (gb : Good N b) (gc : Good N c) :
    rdAll N (linesOf (mkLine 60 N s0 ++ (a ++ (mkLine 124 N s1 ++ (b ++ (mkLine 61 N ⟨#[]⟩ ++ (c ++ mkLine 62 N s2))))))) ([], 0) = some ([⟨true, [], a, b, c⟩], 0) := by
  have e0 : ∀ (x : UInt8) (s : ByteArray), endNl (mkLine x N s) = mkLine x N s := fun x s => endNl_line [] x N s
  have m1 := mkLine_mk (x := 60) (by decide) h1 s0 (fun h => by simp [bnum] at h)
  have m2 := mkLine_mk (x := 124) (by decide) h1 s1 (fun h => by simp [bnum] at h)
  have m3 := mkLine_mk (x := 61) (by decide) h1 ⟨#[]⟩ (fun h => by rfl)
  have m4 := mkLine_mk (x := 62) (by decide) h1 s2 (fun h => by simp [bnum] at h)
  have b1 : bnum 60 = 60 := rfl
  have b2 : bnum 124 = 124 := rfl
  have b3 : bnum 61 = 61 := rfl
  have b4 : bnum 62 = 62 := rfl
  rw [b1] at m1; rw [b2] at m2; rw [b3] at m3; rw [b4] at m4
  rw [lines_app (e0 _ _), lines_app ha, lines_app (e0 _ _), lines_app hb, lines_app (e0 _ _), lines_app hc, mkLine_lines (by decide), mkLine_lines (by decide), mkLine_lines (by decide), mkLine_lines (by decide)]
  have r1 : rdAll N [mkLine 60 N s0] ([], 0) = some ([⟨true, [], [], [], []⟩], 1) := by simp [rdAll, rdStep, m1]
  have r2 : rdAll N (linesOf a) ([⟨true, [], [], [], []⟩], 1) = some ([⟨true, [], a, [], []⟩], 1) := by
    have := all_side (N := N) (k := 1) (by decide) (linesOf a) ⟨true, [], [], [], []⟩ ga.mk
    rw [lines_flat] at this; exact this
  have r3 : ∀ l, rdAll N [mkLine 124 N s1] (l, 1) = some (l, 2) := by intro l; simp [rdAll, rdStep, m2]
  have r4 : rdAll N (linesOf b) ([⟨true, [], a, [], []⟩], 2) = some ([⟨true, [], a, b, []⟩], 2) := by
    have := all_side (N := N) (k := 2) (by decide) (linesOf b) ⟨true, [], a, [], []⟩ gb.mk
    rw [lines_flat] at this; exact this
  have r5 : ∀ l, rdAll N [mkLine 61 N ⟨#[]⟩] (l, 2) = some (l, 3) := by intro l; simp [rdAll, rdStep, m3]
  have r6 : rdAll N (linesOf c) ([⟨true, [], a, b, []⟩], 3) = some ([⟨true, [], a, b, c⟩], 3) := by
    have := all_side (N := N) (k := 3) (by decide) (linesOf c) ⟨true, [], a, b, []⟩ gc.mk
    rw [lines_flat] at this; exact this
  have r7 : ∀ l, rdAll N [mkLine 62 N s2] (l, 3) = some (l, 0) := by intro l; simp [rdAll, rdStep, m4]
  rw [rdAll_app, r1, Option.bind_some, rdAll_app, r2, Option.bind_some, rdAll_app, r3, Option.bind_some, rdAll_app, r4, Option.bind_some, rdAll_app, r5, Option.bind_some, rdAll_app, r6, Option.bind_some, r7]
theorem read_plain {N : Nat} {t : List Int} (ht : t ≠ []) (g : Good N t) : rdAll N (linesOf t) ([], 0) = some ([⟨false, t, [], [], []⟩], 0) := by
  cases hL : linesOf t with
  | nil => exact absurd hL (lines_ne ht)
  | cons y r =>
    have hm := g.mk
    rw [hL] at hm
    have h3 : rdStep N ([], 0) y = some ([⟨false, y, [], [], []⟩], 0) := by simp [rdStep, hm y List.mem_cons_self]
    have h4 := all_plain r y (fun z hz => hm z (List.mem_cons_of_mem _ hz))
    simp only [rdAll, h3, Option.bind_some, h4]
    have h5 := lines_flat t
    rw [hL, List.flatten_cons] at h5
    rw [h5]
structure GoodP (N : Nat) (p : Pt) : Prop where
  plain : p.region = false → Good N p.text
  side : p.region = true → Good N p.s0 ∧ Good N p.s1 ∧ Good N p.s2
theorem read_chunk {N : Nat} (h1 : 1 ≤ N) (s0 s1 s2 : ByteArray) (last : Bool) {p : Pt} (g : GoodP N p) : rdAll N (linesOf (chunk N s0 s1 s2 last p)) ([], 0) = some (jPart last [] p, 0) := by
  unfold chunk jPart
  cases hr : p.region with
  | true =>
    obtain ⟨g0, g1, g2⟩ := g.side hr
    simp only [if_true]
    exact read_region h1 s0 s1 s2 (endNl_idem _) (endNl_idem _) (endNl_idem _) g0.ended g1.ended g2.ended
  | false =>
    have gt := g.plain hr
    simp only [Bool.false_eq_true, if_false]
    by_cases ht : jTxt last p = []
    · rw [ht]; rfl
    · rw [if_neg ht]
      refine read_plain ht ?_
      unfold jTxt
      split
      · exact gt
      · exact gt.ended
/-- What is joined: plain parts end in a newline and have no sides. -/
def JOk (l : List Pt) : Prop := ∀ p ∈ l, p.region = false → endNl p.text = p.text ∧ p.s0 = [] ∧ p.s1 = [] ∧ p.s2 = []
theorem JOk.plain {l : List Pt} (h : JOk l) : PlainOk l := fun p hp hr => (h p hp hr).2
theorem JOk.glue {out : List Pt} (h : JOk out) (last : Bool) (p : Pt) : glue out (jPart last [] p) = jPart last out p := by
  unfold jPart
  split
  · rcases snoc_cases out with rfl | ⟨fr, q, rfl⟩
    · rfl
    · simp [Q.glue]
  · split
    · rfl
    · rcases snoc_cases out with rfl | ⟨fr, q, rfl⟩
      · simp [Q.glue]
      · cases hq : q.region with
        | true => simp [Q.glue, hq]
        | false =>
          obtain ⟨h1, h2, h3, h4⟩ := h q (by simp) hq
          simp [Q.glue, hq, onLast_snoc, mg, jAdd, h1, h2, h3, h4]
theorem JOk.next {out : List Pt} (h : JOk out) (p : Pt) : JOk (jPart false out p) := by
  unfold jPart
  have hs : ∀ (l : List Pt) (q : Pt), JOk l → (q.region = false → endNl q.text = q.text ∧ q.s0 = [] ∧ q.s1 = [] ∧ q.s2 = []) → JOk (l ++ [q]) := fun l q hl hq r hr => by
    rcases List.mem_append.1 hr with hr | hr
    · exact hl r hr
    · rw [List.mem_singleton] at hr; subst hr; exact hq
  have ht : jTxt false p = endNl p.text := rfl
  split
  · exact hs _ _ h (fun h => by cases h)
  · split
    · exact h
    · rcases snoc_cases out with rfl | ⟨fr, q, rfl⟩
      · exact hs [] _ h (fun _ => ⟨by rw [ht]; exact endNl_idem _, rfl, rfl, rfl⟩)
      · have hl : (fr ++ [q]).getLast? = some q := by simp
        rw [hl]
        simp only
        cases hq : q.region with
        | true => simp only [if_true]; exact hs _ _ h (fun _ => ⟨by rw [ht]; exact endNl_idem _, rfl, rfl, rfl⟩)
        | false =>
          obtain ⟨h1, h2⟩ := h q (by simp) hq
          simp only [Bool.false_eq_true, if_false, onLast_snoc]
          refine hs _ _ (fun r hr => h r (List.mem_append_left _ hr)) (fun _ => ⟨?_, h2⟩)
          simp only [jAdd, ht]
          rw [endNl_app (endNl_idem _), endNl_idem]
/-- What was written is read as it was, joined. -/
theorem back_all {N : Nat} (h1 : 1 ≤ N) (s0 s1 s2 : ByteArray) : ∀ (r : List Pt) (acc : List Int) (out : List Pt), (∀ p ∈ r, GoodP N p) → endNl acc = acc → rdAll N (linesOf acc) ([], 0) = some (out, 0) → JOk out → rdAll N (linesOf (wrAll N s0 s1 s2 r acc)) ([], 0) = some (jAll r out, 0)
  | [], acc, out, _, _, h, _ => h
  | p :: r, acc, out, hg, ha, h, hj => by
    have hstep : ∀ last, rdAll N (linesOf (acc ++ chunk N s0 s1 s2 last p)) ([], 0) = some (jPart last out p, 0) := fun last => by
      rw [lines_app ha, rdAll_app, h, Option.bind_some]
      have h3 := all_glue (n := N) out hj.plain (linesOf (chunk N s0 s1 s2 last p)) [] 0 (fun h => absurd rfl h)
      have e2 : glue out [] = out := rfl
      rw [e2, read_chunk h1 s0 s1 s2 last (hg p List.mem_cons_self)] at h3
      rw [h3, Option.map_some]
      simp only
      rw [hj.glue]
    show rdAll N (linesOf (wrAll N s0 s1 s2 r (wrPart N s0 s1 s2 r.isEmpty acc p))) ([], 0) = some (jAll r (jPart r.isEmpty out p), 0)
    rw [wr_chunk N s0 s1 s2 _ ha p]
    cases r with
    | nil => exact hstep true
    | cons q t => exact back_all h1 s0 s1 s2 (q :: t) _ _ (fun u hu => hg u (List.mem_cons_of_mem _ hu)) (chunk_end N s0 s1 s2 ha p) (hstep false) (hj.next p)
theorem read_back {N : Int} (h1 : 1 ≤ N) (h2 : N ≤ 16777216) (s0 s1 s2 : ByteArray) (ps : List Pt) (hg : ∀ p ∈ ps, GoodP N.toNat p) : writeOf N s0 s1 s2 ps = (wrAll N.toNat s0 s1 s2 ps [], 0) ∧ readOf N (wrAll N.toNat s0 s1 s2 ps []) = (jAll ps [], 0) := by
  refine ⟨by unfold writeOf; rw [if_pos ⟨h1, h2⟩], ?_⟩
  unfold readOf
  rw [if_pos ⟨h1, h2⟩, back_all (by omega) s0 s1 s2 ps [] [] hg rfl rfl (fun p hp => by cases hp)]
  rfl
/-- Bounds of what is joined. -/
def JB (K : Nat) (l : List Pt) : Prop := ∀ p ∈ l, p.text.length ≤ K ∧ p.s0.length ≤ 501 ∧ p.s1.length ≤ 501 ∧ p.s2.length ≤ 501
theorem JB.next {K : Nat} {out : List Pt} (h : JB K out) {p : Pt} (hp : p.text.length ≤ 500 ∧ p.s0.length ≤ 500 ∧ p.s1.length ≤ 500 ∧ p.s2.length ≤ 500) (last : Bool) : JB (K + 502) (jPart last out p) ∧ (jPart last out p).length ≤ out.length + 1 := by
  have hs : ∀ (l : List Pt) (q : Pt), JB (K + 502) l → (q.text.length ≤ K + 502 ∧ q.s0.length ≤ 501 ∧ q.s1.length ≤ 501 ∧ q.s2.length ≤ 501) → JB (K + 502) (l ++ [q]) := fun l q hl hq r hr => by
    rcases List.mem_append.1 hr with hr | hr
    · exact hl r hr
    · rw [List.mem_singleton] at hr; subst hr; exact hq
  have hw : JB (K + 502) out := fun q hq => ⟨Nat.le_trans (h q hq).1 (by omega), (h q hq).2⟩
  have ht : (jTxt last p).length ≤ 501 := by
    unfold jTxt
    split
    · omega
    · have := endNl_le p.text; omega
  unfold jPart
  split
  · refine ⟨hs _ _ hw ⟨by simp, ?_, ?_, ?_⟩, by simp⟩
    · have := endNl_le p.s0; simp only; omega
    · have := endNl_le p.s1; simp only; omega
    · have := endNl_le p.s2; simp only; omega
  · split
    · exact ⟨hw, by omega⟩
    · rcases snoc_cases out with rfl | ⟨fr, q, rfl⟩
      · exact ⟨hs [] _ hw ⟨by simp only; omega, by simp, by simp, by simp⟩, by simp⟩
      · have hl : (fr ++ [q]).getLast? = some q := by simp
        rw [hl]
        simp only
        split
        · exact ⟨hs _ _ hw ⟨by simp only; omega, by simp, by simp, by simp⟩, by simp⟩
        · rw [onLast_snoc]
          have h1 := h q (by simp)
          have h2 := endNl_le q.text
          refine ⟨hs _ _ (fun r hr => hw r (List.mem_append_left _ hr)) ⟨?_, h1.2⟩, by simp⟩
          simp only [jAdd, List.length_append]
          omega
theorem JB.all : ∀ (r : List Pt) (K : Nat) (out : List Pt), JB K out → (∀ p ∈ r, p.text.length ≤ 500 ∧ p.s0.length ≤ 500 ∧ p.s1.length ≤ 500 ∧ p.s2.length ≤ 500) → JB (K + r.length * 502) (jAll r out) ∧ (jAll r out).length ≤ out.length + r.length
  | [], K, out, h, _ => by simpa [jAll] using h
  | p :: r, K, out, h, hp => by
    have h1 := h.next (hp p List.mem_cons_self) r.isEmpty
    have ih := JB.all r (K + 502) _ h1.1 (fun q hq => hp q (List.mem_cons_of_mem _ hq))
    refine ⟨?_, ?_⟩
    · have e : K + (p :: r).length * 502 = K + 502 + r.length * 502 := by simp only [List.length_cons]; omega
      rw [e]; exact ih.1
    · have := ih.2; have := h1.2; simp only [jAll, List.length_cons]; omega
theorem joined_small {ps : List Pt} (hl : ps.length ≤ 20) (hp : ∀ p ∈ ps, p.text.length ≤ 500 ∧ p.s0.length ≤ 500 ∧ p.s1.length ≤ 500 ∧ p.s2.length ≤ 500) : (jAll ps []).length ≤ 20 ∧ ∀ p ∈ jAll ps [], p.text.length ≤ 20000 ∧ p.s0.length ≤ 501 ∧ p.s1.length ≤ 501 ∧ p.s2.length ≤ 501 := by
  have h := JB.all ps 0 [] (fun p hp => by cases hp) hp
  refine ⟨by have := h.2; simp at this; omega, fun p hq => ?_⟩
  have := h.1 p hq
  omega
end Go.Proofs.YtnnnbeimehfiiaaDoor.Q
