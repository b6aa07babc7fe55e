/- The texts of this claim that lie below its row, in their order: KRr KSame KPg KPgM KWr0 KWr KKn0 KKn KReadsL. -/
import Derived.Deep.DeepMust
import Derived.Test.YtnnnbeimehfiiaaDoorZM2
-- Written by a program of this session (wip/gen_rref.py) for this claim; Lean checks it.
/-! The document's Read, walked. -/
set_option linter.unusedVariables false
set_option linter.unusedSimpArgs false
namespace Go.Proofs.YtnnnbeimehfiiaaDoor.Q
open Go Go.RowKit Go.Proofs.YtnnnbeimehfiiaaDoorW.PrintWords Go.Proofs.YtnnnbeimehfiiaaDoorW.PrintLast Go.Proofs.YtnnnbeimehfiiaaDoorW.PrintMore Go.Proofs.YtnnnbeimehfiiaaDoorW.SL
attribute [local go_sem] max2_int min2_int max_two min_two max_three min_three max_four min_four
def rref.T18 : Bool × List (List Nat × List Nat) := (true, [([], []), ([], []), ([1], [1]), ([0, 2], [0, 2]), ([3], [3]), ([4], [4]), ([4], [4]), ([4], [4]), ([6, 7, 4], [4, 6, 7]), ([8, 4], [4, 8]), ([4], [4]), ([10, 4], [4, 10]), ([11, 4], [4, 11]), ([5, 9, 12, 4, 4], [4, 5, 9, 12]), ([13, 4], [4, 13]), ([4, 14], [4, 14])])
def rref.B18 : List Nat := [0, 0, 2, 7, 15, 31, 31, 31, 223, 479, 31, 1055, 3103, 8191, 16383, 32767]
theorem rref.tab18 : rtab .any (opsOf Tryd.f10 18) = rref.T18 := by kernel_rfl
theorem rref.bits18 : waitsOk rref.T18.2 rref.B18 = true := by kernel_rfl
def rref.T22 : Bool × List (List Nat × List Nat) := (true, [([], []), ([], []), ([], []), ([2, 1], [1, 2]), ([3], [3]), ([], []), ([], []), ([5, 6], [5, 6]), ([7], [7]), ([4, 8], [4, 8]), ([], []), ([10, 0, 0, 1, 2, 3, 4, 5, 6, 7, 8, 9], [0, 10]), ([11, 9, 9, 0, 1, 2, 3, 4, 5, 6, 7, 8, 9], [9, 11])])
def rref.B22 : List Nat := [0, 0, 0, 6, 14, 0, 0, 96, 224, 510, 0, 2047, 4095]
theorem rref.tab22 : rtab .any (opsOf Tryd.f10 22) = rref.T22 := by kernel_rfl
theorem rref.bits22 : waitsOk rref.T22.2 rref.B22 = true := by kernel_rfl
set_option maxHeartbeats 16000000 in
set_option maxRecDepth 100000 in
theorem rread_calls (n : Int) (A : Option Addr) (c : Nat) (b : List Int) (w : World) (hr : Kd.C B8 w A b.length b) (hc : b.length ≤ c) (hb : ∀ x ∈ b, byte x) (hlen : b.length ≤ 5000000) :
  Calls Tryd.prog 10 #[.int .i64 n, .slice A b.length c] w fun e w' => ∃ (A' : Option Addr) (c' : Nat), e = .returned (.tuple #[.slice A' (readOf n b).1.length c', .int .i64 (readOf n b).2]) ∧ (readOf n b).1.length ≤ c' ∧ Kd.C kP w' A' (readOf n b).1.length (readOf n b).1 ∧ Below w.heap.size w w' := by
 have HR := Aside0.mk hr; have HC := Aside0.mk hc; have HB := Aside0.mk hb; have HLEN := Aside0.mk hlen
 clear hr hc hb hlen
 by_cases hn : n ≥ 1 ∧ n ≤ 16777216
 · obtain ⟨N, hN⟩ := Int.eq_ofNat_of_zero_le (by omega : 0 ≤ n)
   have hN1 : 1 ≤ N := by omega
   have hres : readOf n b = match rdAll N (linesOf b) ([], 0) with | some (ps, st) => if st = 0 then (ps, 0) else ([], 5) | none => ([], 5) := by
     unfold readOf; rw [if_pos hn, hN]; rfl
   obtain ⟨R, hR⟩ : ∃ R, readOf n b = R := ⟨_, rfl⟩
   rw [hR] at hres ⊢
   have HRES := Aside0.mk hres
   subst hN
   have hnl := eq_false (show ¬ (N : Int) < 1 by omega)
   have hng := eq_false (show ¬ (16777216 : Int) < (N : Int) by omega)
   have hnl2 := eq_true (show (1 : Int) ≤ (N : Int) by omega)
   have hng2 := eq_true (show (N : Int) ≤ 16777216 by omega)
   clear hres hR hn
   obtain ⟨kS, hS⟩ := (split_ev b (by have := HLEN.out; omega)).has
   obtain ⟨L, hL⟩ : ∃ L, linesOf b = L := ⟨_, rfl⟩
   rw [hL] at HRES hS
   have HLN := Aside0.mk (show L.length ≤ 5000000 by rw [← hL]; exact Nat.le_trans (linesOf_len b) HLEN.out)
   have HLX := Aside0.mk (show ∀ x ∈ L, x ≠ [] ∧ (∀ y ∈ x, byte y) ∧ x.length ≤ 5000000 by rw [← hL]; exact fun x hx => ⟨linesOf_ne b x hx, linesOf_all byte b x HB.out hx, Nat.le_trans (linesOf_mem b x hx) HLEN.out⟩)
   replace hL := Aside0.mk hL
   replace hS := Aside0.mk hS
   replace hN1 := Aside0.mk hN1
   go_enter Tryd.func10, Tryd.ntmps10
   go_wp2_with (go_at_call 27; refine (scarfref02_Split.calls kS A c b L _ HR.out HC.out hS.out).mono ?_; rintro e w2 ⟨vl, rfl, hR, hb2⟩; obtain ⟨AL, cL, rfl, hrd⟩ := rd_S hR; replace hR := Aside0.mk hR)
   have hF0 : ∀ a ∈ [rdV kB AL cL L], a.P w2 (fun k => k < w2.heap.size) := by
     intro a ha; rw [List.mem_singleton] at ha; subst ha
     exact FA.step _ hrd (fun _ _ _ => rfl) (fun k hk => hk.2)
   have HS := Aside0.mk (AsI.start (Stt.start w2 hF0))
   have hB2 := Aside0.mk hb2
   clear hF0 hrd hb2
   go_loopg [7, 8] L.length (fun kq v7 v8 W => ∃ (ps : List Pt) (ii : Int) (i : Nat), v8 = .int .i64 ii ∧ Aside0 (ii = (i : Int)) ∧ i ≤ L.length ∧ kq = L.length - i ∧ Aside0 (rdAll N (L.take i) ([], 0) = some (ps, 0)) ∧ Aside0 (Sz ps i) ∧ Aside0 (∀ x, L[i]? = some x → mkOf N x = 0 → ps = [] ∨ ∃ fr p, ps = fr ++ [p] ∧ p.region = true) ∧ Aside0 (AsI w2 [rdV kB AL cL L] ps v7 W))
   case atStart => exact ⟨[], 0, 0, rfl, ⟨rfl⟩, Nat.zero_le _, rfl, ⟨rfl⟩, ⟨sz_nil⟩, ⟨fun _ _ _ => .inl rfl⟩, HS⟩
   case round =>
    obtain ⟨ps, ii, i, rfl, hii, hi, hgk, hall, hsz, hreg, hI⟩ := hrel
    obtain ⟨wb, rfl⟩ : ∃ q, q = wr := ⟨_, rfl⟩
    by_cases hin : ii < (L.length : Int)
    · have p0 : 0 ≤ ii := by have := hii.out; omega
      have e0 : ii.toNat = i := by have := hii.out; omega
      obtain ⟨Z, hZ⟩ := hI.out.fr
      obtain ⟨x, hxi⟩ : ∃ x, L[i]? = some x := ⟨_, List.getElem?_eq_getElem (by have := hii.out; omega)⟩
      have hxm := HLX.out x (List.mem_of_getElem? hxi)
      obtain ⟨al, ax, cX, rfl, hx0, hxc, hxC, _⟩ := line_at (hZ _ List.mem_cons_self) hxi hxm.1
      rw [← e0] at hx0
      have HX := Aside0.mk (⟨hxi, hxm, hxc, hxC, hi, hgk⟩ : _ ∧ _ ∧ _ ∧ _ ∧ _ ∧ _)
      have HAN0 := any_calls N hN1.out (some ax) cX x wb hxC hxc hxm.2.1 (by have := hxm.2.2; omega)
      rw [anyOf_eq hN1.out x] at HAN0
      obtain ⟨Ao, co, eo⟩ := hI.out.form
      obtain ⟨m, hm⟩ : ∃ m, m = ps.length := ⟨_, rfl⟩
      rw [← hm] at eo
      subst eo
      replace hm := Aside0.mk hm
      have hi5 : i ≤ 5000000 := by have := HLN.out; omega
      have hps5 := Aside0.mk (Nat.le_trans hsz.out.1 hi5)
      have hinb := eq_true hin
      have p0b := eq_true p0
      replace e0 := Aside0.mk e0
      clear hZ hxi hxm hxc hxC hi hgk
      by_cases hx : mkOf N x = 0
      · rw [show decide (mkOf N x ≠ 0) = false by simp [hx]] at HAN0
        have HAN := Aside0.mk HAN0
        have hfirst := Aside0.mk (plain_first hx (hreg.out x HX.out.1 hx))
        replace hx := Aside0.mk hx
        clear HAN0
        go_wp2_with (go_at_call 28; refine HAN.out.mono ?_; rintro e w3 ⟨rfl, hb3⟩)
        have HT := Aside0.mk (TxI.start (hI.out.keep hb3))
        clear hx0 HAN hb3
        go_loopg [8, 9] (L.length - i) (fun kq v8 v9 W => ∃ (T : List Int) (jj : Int) (j : Nat), v8 = .int .i64 jj ∧ Aside0 (jj = (j : Int)) ∧ i ≤ j ∧ j ≤ L.length ∧ kq = L.length - j ∧ Aside0 (j = i ∧ T = [] ∨ i < j ∧ rdAll N (L.take j) ([], 0) = some (ps ++ [⟨false, T, [], [], []⟩], 0)) ∧ Aside0 (T.length ≤ 5000000 * j) ∧ Aside0 (TxI w2 [rdV kB (some al) cL L] ps (.slice Ao m co) T v9 W))
        case atStart => exact ⟨[], ii, i, rfl, hii, Nat.le_refl _, HX.out.2.2.2.2.1, rfl, ⟨.inl ⟨rfl, rfl⟩⟩, ⟨Nat.zero_le _⟩, HT⟩
        case round =>
          obtain ⟨T, jj, j, rfl, hjj, hij, hj, hgk2, hor, hT, hTx⟩ := hrel
          obtain ⟨wc, rfl⟩ : ∃ q, q = wr := ⟨_, rfl⟩
          obtain ⟨ak, ck, rfl, _⟩ := own_form hTx.out.own
          have q0 : 0 ≤ jj := by have := hjj.out; omega
          have hj5 : j ≤ 5000000 := by have := HLN.out; omega
          have hw1 : wrap64 (jj + 1) = jj + 1 := by have := hjj.out; unfold wrap64; omega
          have q0b := eq_true q0
          have HJ := Aside0.mk (⟨hij, hj, hgk2, hj5⟩ : _ ∧ _ ∧ _ ∧ _)
          clear hij hj hgk2 hj5
          by_cases hjn : jj < (L.length : Int)
          · have f0 : jj.toNat = j := by have := hjj.out; omega
            obtain ⟨Z, hZ⟩ := hTx.out.fr
            obtain ⟨y, hyj⟩ : ∃ y, L[j]? = some y := ⟨_, List.getElem?_eq_getElem (by have := hjj.out; omega)⟩
            have hym := HLX.out y (List.mem_of_getElem? hyj)
            obtain ⟨al', ay, cY, eal, hy0, hyc, hyC, _⟩ := line_at (hZ _ List.mem_cons_self) hyj hym.1
            injection eal with eal
            subst eal
            rw [← f0] at hy0
            have HAN0 := any_calls N hN1.out (some ay) cY y wc hyC hyc hym.2.1 (by have := hym.2.2; omega)
            rw [anyOf_eq hN1.out y] at HAN0
            have HY := Aside0.mk (⟨hym, hyc, hyC⟩ : _ ∧ _ ∧ _)
            have hjnb := eq_true hjn
            replace f0 := Aside0.mk f0
            replace hyj := Aside0.mk hyj
            clear hZ hym hyc hyC
            by_cases hy : mkOf N y = 0
            · rw [show decide (mkOf N y ≠ 0) = false by simp [hy]] at HAN0
              have HAN := Aside0.mk HAN0
              clear HAN0
              have hyes : rdAll N (L.take (j + 1)) ([], 0) = some (ps ++ [⟨false, T ++ y, [], [], []⟩], 0) := by
                rcases hor.out with ⟨h1, h2⟩ | ⟨_, h2⟩
                · rw [h1, rdAll_next hall.out HX.out.1, h2]
                  have h3 := hyj.out
                  rw [h1, HX.out.1] at h3
                  injection h3 with h3
                  rw [← h3]
                  exact hfirst.out
                · rw [rdAll_next h2 hyj.out]; exact plain_more hy
              replace hyes := Aside0.mk hyes
              replace hy := Aside0.mk hy
              have hln : T.length + y.length ≤ 140737488355328 := by have := hT.out; have := HY.out.1.2.2; have := HJ.out.2.2.2; omega
              replace hln := Aside0.mk hln
              go_wp2_with (first | (go_at_call 28; refine HAN.out.mono ?_; rintro e w4 ⟨rfl, hb4⟩; have hT4 := Aside0.mk (hTx.out.keep hb4); have hC4 := Aside0.mk (Kd.C_below HY.out.2.2 hb4); have hy4 := (hb4.cell (World.block_lt_of_cell? _ _ hy0)).trans hy0; clear hb4) | ((with_reducible refine gate_builtin (b := .append) (xs := #[.tmp 45, .tmp 49]) rfl ?_); at_builtin; go_must ((refine app_spread rfl (.tmp 45) (.tmp 49) rfl Tryd.underlying22 inf5 _ _ _ y ay cY rfl rfl hT4.out.own hC4.out hln.out ?_; intro v5_ w5 ho5 hg5 hat5; obtain ⟨A5, c5, rfl, _⟩ := own_form ho5; have hT5 := Aside0.mk (hT4.out.app y ho5 hg5 hat5); clear ho5 hg5 hat5))))
              go_roundg (L.length - (j + 1))
              case rel => exact ⟨T ++ y, wrap64 (jj + 1), j + 1, by first | rfl | (simp; done) | (simp [hw1]; done), ⟨by rw [hw1]; have := hjj.out; omega⟩, by have := HJ.out.1; omega, by have := hjj.out; omega, rfl, ⟨.inr ⟨by have := HJ.out.1; omega, hyes.out⟩⟩, ⟨by have := hT.out; have := HY.out.1.2.2; simp; omega⟩, hT5⟩
              case measure => have := hjj.out; have := HJ.out.2.2.1; omega
            · rw [show decide (mkOf N y ≠ 0) = true by simp [hy]] at HAN0
              have HAN := Aside0.mk HAN0
              clear HAN0
              replace hy := Aside0.mk hy
              have hcs : ∀ u ∈ [Value.bool false, .slice ak T.length ck, .slice none 0 0, .slice none 0 0, .slice none 0 0], u.oneCell' = true := by simp [Value.oneCell']
              replace hcs := Aside0.mk hcs
              go_wp2_with (first | (go_at_call 28; refine HAN.out.mono ?_; rintro e w4 ⟨rfl, hb4⟩; have hD := TxI.done (hTx.out.keep hb4); clear hb4) | ((with_reducible refine gate_builtin (b := .append) (xs := #[.tmp 53, .tmp 56]) rfl ?_); at_builtin; go_must ((refine app_elem rfl (.tmp 53) (.tmp 56) 104 rfl Tryd.underlying27 inf44 (by decide) hD hps5.out m hm.out.symm ⟨false, T, [], [], []⟩ [.bool false, .slice ak T.length ck, .slice none 0 0, .slice none 0 0, .slice none 0 0] rfl hcs.out (fun Z hZ => hZ _ List.mem_cons_self) rfl rfl ?_; intro A5 c5 w5 hI5; replace hI5 := Aside0.mk (AsI.less hI5)))))
              have hlt : i < j ∧ rdAll N (L.take j) ([], 0) = some (ps ++ [⟨false, T, [], [], []⟩], 0) := by
                rcases hor.out with h | h
                · exfalso; have h3 := hyj.out; rw [h.1, HX.out.1] at h3; injection h3 with h3; exact hy.out (h3 ▸ hx.out)
                · exact h
              go_roundg (L.length - j)
              case rel => exact ⟨_, jj, j, rfl, hjj, HJ.out.2.1, rfl, Aside0.mk hlt.2, ⟨sz_end hsz.out (by have := hT.out; simp [Szp]; exact this) hlt.1⟩, ⟨fun y' h1 h2 => by rw [hyj.out] at h1; injection h1 with h1; exact absurd (h1 ▸ h2) hy.out⟩, hI5⟩
              case measure => have := hlt.1; have := HJ.out.2.1; have := HX.out.2.2.2.2.2; omega
          · have hjnb := eq_false hjn
            have hjge := eq_true (show (L.length : Int) ≤ jj by omega)
            have hcs : ∀ u ∈ [Value.bool false, .slice ak T.length ck, .slice none 0 0, .slice none 0 0, .slice none 0 0], u.oneCell' = true := by simp [Value.oneCell']
            replace hcs := Aside0.mk hcs
            have hD := TxI.done hTx.out
            go_wp2_with ((with_reducible refine gate_builtin (b := .append) (xs := #[.tmp 53, .tmp 56]) rfl ?_); at_builtin; go_must ((refine app_elem rfl (.tmp 53) (.tmp 56) 104 rfl Tryd.underlying27 inf44 (by decide) hD hps5.out m hm.out.symm ⟨false, T, [], [], []⟩ [.bool false, .slice ak T.length ck, .slice none 0 0, .slice none 0 0, .slice none 0 0] rfl hcs.out (fun Z hZ => hZ _ List.mem_cons_self) rfl rfl ?_; intro A5 c5 w5 hI5; replace hI5 := Aside0.mk (AsI.less hI5))))
            have hlt : i < j ∧ rdAll N (L.take j) ([], 0) = some (ps ++ [⟨false, T, [], [], []⟩], 0) := by
              rcases hor.out with h | h
              · exfalso; have := HX.out.1; have h3 := h.1; have := hjj.out; have := hii.out; omega
              · exact h
            go_roundg (L.length - j)
            case rel => exact ⟨_, jj, j, rfl, hjj, HJ.out.2.1, rfl, Aside0.mk hlt.2, ⟨sz_end hsz.out (by have := hT.out; simp [Szp]; exact this) hlt.1⟩, ⟨fun y' h1 h2 => by have h3 := hjj.out; have h4 := (List.getElem?_eq_some_iff.1 h1).1; omega⟩, hI5⟩
            case measure => have := hlt.1; have := HJ.out.2.1; have := HX.out.2.2.2.2.2; omega
      · rw [show decide (mkOf N x ≠ 0) = true by simp [hx]] at HAN0
        have HAN := Aside0.mk HAN0
        replace hx := Aside0.mk hx
        clear HAN0
        go_wp2_with (go_at_call 28; refine HAN.out.mono ?_; rintro e w3 ⟨rfl, hb3⟩; have hI3 := Aside0.mk (hI.out.keep hb3); clear hb3)
        have HBx := Aside0.mk (BxI.start hI3.out (Obj.cells #[.int .u8 60, .int .u8 124, .int .u8 61, .int .u8 62] 61) #[.int .u8 60, .int .u8 124, .int .u8 61, .int .u8 62] 61 rfl)
        generalize ((w3.alloc (Obj.cells #[.bool true, .slice none 0 0, .slice none 0 0, .slice none 0 0, .slice none 0 0] 44)).alloc (Obj.cells #[.int .u8 60, .int .u8 124, .int .u8 61, .int .u8 62] 61)) = w4 at HBx ⊢
        generalize w3.heap.size + 1 = gs at HBx ⊢
        generalize w3.heap.size = g at HBx ⊢
        clear hI3 HAN hx0
        go_loopg [8, 12] 4 (fun kq v8 v12 W => ∃ (p : Pt) (kk : Int) (k : Nat) (jj : Int) (j : Nat), v8 = .int .i64 jj ∧ v12 = .int .i64 kk ∧ Aside0 (kk = (k : Int)) ∧ Aside0 (jj = (j : Int)) ∧ k ≤ 4 ∧ j ≤ L.length ∧ kq = 4 - k ∧ Aside0 (rdAll N (L.take j) ([], 0) = some (stk ps p k)) ∧ Aside0 (k = 0 → p = nwPt true ∧ j = i) ∧ Aside0 (1 ≤ k → i < j) ∧ Aside0 (p.region = true) ∧ Aside0 (k < 4 → ∀ y, L[j]? = some y → mkOf N y ≠ 0) ∧ Aside0 (Szp p j) ∧ Aside0 (BxI w2 [bkF gs 61 #[.int .u8 60, .int .u8 124, .int .u8 61, .int .u8 62], rdV kB (some al) cL L] ps (.slice Ao m co) g p W))
        case atStart => exact ⟨nwPt true, 0, 0, ii, i, rfl, rfl, ⟨rfl⟩, hii, by decide, HX.out.2.2.2.2.1, rfl, ⟨by rw [hall.out]; rfl⟩, ⟨fun _ => ⟨rfl, rfl⟩⟩, ⟨fun h => absurd h (by decide)⟩, ⟨rfl⟩, ⟨fun _ y h => by rw [HX.out.1] at h; injection h with h; exact h ▸ hx.out⟩, ⟨szp_nw i⟩, HBx⟩
        case round =>
          obtain ⟨p, kk, k, jj, j, rfl, rfl, hkk, hjj, hk4, hj, hgk2, hst, hp0, hp1, hpr, hmk, hsp, hBx⟩ := hrel
          obtain ⟨wc, rfl⟩ : ∃ q, q = wr := ⟨_, rfl⟩
          have q0 : 0 ≤ jj := by have := hjj.out; omega
          have k0 : 0 ≤ kk := by have := hkk.out; omega
          have q0b := eq_true q0
          have k0b := eq_true k0
          have hj5 : j ≤ 5000000 := by have := HLN.out; omega
          have hw1 : wrap64 (jj + 1) = jj + 1 := by have := hjj.out; unfold wrap64; omega
          have hwk : wrap64 (kk + 1) = kk + 1 := by have := hkk.out; unfold wrap64; omega
          have hij1 : i ≤ j := by
            rcases Nat.eq_zero_or_pos k with h | h
            · have := (hp0.out h).2; omega
            · have := hp1.out h; omega
          replace hij1 := Aside0.mk hij1
          have HJ := Aside0.mk (⟨hk4, hj, hgk2, hj5⟩ : _ ∧ _ ∧ _ ∧ _)
          clear hk4 hj hgk2 hj5
          by_cases hkl : kk < 4
          · have hklb := eq_true hkl
            have hk : k < 4 := by have := hkk.out; omega
            replace hk := Aside0.mk hk
            have hBd := Aside0.mk (hBx.out.keep (below_drew1 (Below.refl wc.heap.size wc)))
            by_cases hjn : jj < (L.length : Int)
            · have f0 : jj.toNat = j := by have := hjj.out; omega
              have fk : kk.toNat = k := by have := hkk.out; omega
              obtain ⟨Z, hZ⟩ := hBd.out.fr
              obtain ⟨y, hyj⟩ : ∃ y, L[j]? = some y := ⟨_, List.getElem?_eq_getElem (by have := hjj.out; omega)⟩
              have hym := HLX.out y (List.mem_of_getElem? hyj)
              obtain ⟨al', ay, cY, eal, hy0, hyc, hyC, _⟩ := line_at (hZ (rdV kB (some al) cL L) (by simp)) hyj hym.1
              injection eal with eal
              subst eal
              have hs0 := sgk_cell (hZ _ List.mem_cons_self) hk.out
              rw [← f0] at hy0
              rw [← fk] at hs0
              have HIS0 := is_calls N hN1.out (some ay) cY y (sgk k) wc.drew hyC hyc hym.2.1 (by have := hym.2.2; omega)
              rw [isOf_eq hN1.out y (show sgk k ≠ 0 by have := hk.out; rcases k with _ | _ | _ | _ | k <;> first | (simp [sgk]; done) | omega)] at HIS0
              have hs0' : wc.drew.cell? ⟨gs, kk.toNat, none⟩ = some (.int .u8 (sgk k)) := by rw [hs0, fk]
              replace hs0 := hs0'
              have hjnb := eq_true hjn
              have hjge := eq_false (show ¬ (L.length : Int) ≤ jj by omega)
              replace f0 := Aside0.mk f0
              replace fk := Aside0.mk fk
              replace hyj := Aside0.mk hyj
              have HY := Aside0.mk hym
              clear hZ hym hyc hyC hs0'
              by_cases hy : mkOf N y = sgk k
              · rw [show decide (mkOf N y = sgk k) = true by simp [hy]] at HIS0
                have HIS := Aside0.mk HIS0
                have hnext : rdAll N (L.take (j + 1)) ([], 0) = some (stk ps p (k + 1)) := by rw [rdAll_next hst.out hyj.out]; exact stk_sign hk.out hy (fun h => (hp0.out h).1)
                replace hnext := Aside0.mk hnext
                replace hy := Aside0.mk hy
                clear HIS0
                go_wp2
                have E0 := trivial
                refine start_ (n := 16) (S := fun w' => True) (ds := []) #[false, false, false, false, false, false, false, false, false, false, false, false, false, false, false, false] (by kernel_rfl) rfl rfl trivial (fun hHeld => ?_)
                refine with_tabW rref.tab18 rref.bits18 (fun HT_ HW_ => ?_)
                generalize wc.drew = wd at hy0 hs0 HIS hBd hHeld ⊢
                refine pure_ (i := 0) (N := some 64) (v := ?_) (a' := ?_) #[true, false, false, false, false, false, false, false, false, false, false, false, false, false, false, false] rfl rfl (any_of HT_.out (by kernel_rfl)) (fun _ _ _ h => h) (Or.inl ⟨by rfl, ?_⟩) ?_ ?_
                rotate_left
                · intro w'
                  go_simp
                  with_reducible rfl
                rotate_left
                · simp only [Act.put, List.setIfInBounds_toArray, List.set_cons_zero, List.set_cons_succ, i64_w, i32_w]
                  rfl
                refine pure_ (i := 1) (N := some 65) (v := ?_) (a' := ?_) #[true, true, false, false, false, false, false, false, false, false, false, false, false, false, false, false] rfl rfl (any_of HT_.out (by kernel_rfl)) (fun _ _ _ h => h) (Or.inl ⟨by rfl, ?_⟩) ?_ ?_
                rotate_left
                · intro w'
                  go_simp
                  with_reducible rfl
                rotate_left
                · simp only [Act.put, List.setIfInBounds_toArray, List.set_cons_zero, List.set_cons_succ, i64_w, i32_w]
                  rfl
                refine pure_ (i := 2) (N := some 66) (v := ?_) (a' := ?_) #[true, true, true, false, false, false, false, false, false, false, false, false, false, false, false, false] rfl rfl (any_of HT_.out (by kernel_rfl)) (fun _ _ _ h => h) (Or.inl ⟨by rfl, ?_⟩) ?_ ?_
                rotate_left
                · intro w'
                  go_simp
                  with_reducible rfl
                rotate_left
                · simp only [Act.put, List.setIfInBounds_toArray, List.set_cons_zero, List.set_cons_succ, i64_w, i32_w]
                  rfl
                refine pure_ (i := 3) (N := some 67) (v := ?_) (a' := ?_) #[true, true, true, true, false, false, false, false, false, false, false, false, false, false, false, false] rfl rfl (any_of HT_.out (by kernel_rfl)) (fun _ _ _ h => h) (Or.inl ⟨by rfl, ?_⟩) ?_ ?_
                rotate_left
                · intro w'
                  go_simp
                  with_reducible rfl
                rotate_left
                · simp only [Act.put, List.setIfInBounds_toArray, List.set_cons_zero, List.set_cons_succ, i64_w, i32_w]
                  rfl
                refine pure_ (i := 4) (N := some 68) (v := ?_) (a' := ?_) #[true, true, true, true, true, false, false, false, false, false, false, false, false, false, false, false] rfl rfl (any_of HT_.out (by kernel_rfl)) (fun _ _ _ h => h) (Or.inl ⟨by rfl, ?_⟩) ?_ ?_
                rotate_left
                · intro w'
                  go_simp
                  with_reducible rfl
                rotate_left
                · simp only [Act.put, List.setIfInBounds_toArray, List.set_cons_zero, List.set_cons_succ, i64_w, i32_w]
                  rfl
                refine pure_ (i := 5) (N := some 69) (v := ?_) (a' := ?_) #[true, true, true, true, true, true, false, false, false, false, false, false, false, false, false, false] rfl rfl (any_of HT_.out (by kernel_rfl)) (fun _ _ _ h => h) (Or.inl ⟨by rfl, ?_⟩) ?_ ?_
                rotate_left
                · intro w'
                  go_simp
                  with_reducible rfl
                rotate_left
                · simp only [Act.put, List.setIfInBounds_toArray, List.set_cons_zero, List.set_cons_succ, i64_w, i32_w]
                  rfl
                refine pure_ (i := 6) (N := some 70) (v := ?_) (a' := ?_) #[true, true, true, true, true, true, true, false, false, false, false, false, false, false, false, false] rfl rfl (any_of HT_.out (by kernel_rfl)) (fun _ _ _ h => h) (Or.inl ⟨by rfl, ?_⟩) ?_ ?_
                rotate_left
                · intro w'
                  go_simp
                  with_reducible rfl
                rotate_left
                · simp only [Act.put, List.setIfInBounds_toArray, List.set_cons_zero, List.set_cons_succ, i64_w, i32_w]
                  rfl
                refine pure_ (i := 7) (N := some 71) (v := ?_) (a' := ?_) #[true, true, true, true, true, true, true, true, false, false, false, false, false, false, false, false] rfl rfl (any_of HT_.out (by kernel_rfl)) (fun _ _ _ h => h) (Or.inl ⟨by rfl, ?_⟩) ?_ ?_
                rotate_left
                · intro w'
                  go_simp
                  with_reducible rfl
                rotate_left
                · simp only [Act.put, List.setIfInBounds_toArray, List.set_cons_zero, List.set_cons_succ, i64_w, i32_w]
                  rfl
                refine pure_ (i := 8) (N := some 72) (v := ?_) (a' := ?_) #[true, true, true, true, true, true, true, true, true, false, false, false, false, false, false, false] rfl rfl (any_of HT_.out (by kernel_rfl)) (fun _ _ _ h => h) (Or.inl ⟨by rfl, ?_⟩) ?_ ?_
                rotate_left
                · intro w'
                  go_simp
                  with_reducible rfl
                rotate_left
                · simp only [Act.put, List.setIfInBounds_toArray, List.set_cons_zero, List.set_cons_succ, i64_w, i32_w]
                  rfl
                refine pure_ (i := 10) (N := some 74) (v := ?_) (a' := ?_) #[true, true, true, true, true, true, true, true, true, false, true, false, false, false, false, false] rfl rfl (any_of HT_.out (by kernel_rfl)) (fun _ _ _ h => h) (Or.inl ⟨by rfl, ?_⟩) ?_ ?_
                rotate_left
                · intro w'
                  go_simp
                  with_reducible rfl
                rotate_left
                · simp only [Act.put, List.setIfInBounds_toArray, List.set_cons_zero, List.set_cons_succ, i64_w, i32_w]
                  rfl
                refine pure_ (i := 11) (N := some 75) (v := ?_) (a' := ?_) #[true, true, true, true, true, true, true, true, true, false, true, true, false, false, false, false] rfl rfl (any_of HT_.out (by kernel_rfl)) (fun _ _ _ h => h) (Or.inl ⟨by rfl, ?_⟩) ?_ ?_
                rotate_left
                · intro w'
                  go_simp
                  with_reducible rfl
                rotate_left
                · simp only [Act.put, List.setIfInBounds_toArray, List.set_cons_zero, List.set_cons_succ, i64_w, i32_w]
                  rfl
                refine inv_at [9, 12, 13, 14, 15] (fun a0_ b a w' => a = putSel a0_ b [(9, 73, .slice (some ay) y.length cY), (12, 76, .int .u8 (sgk k)), (13, 77, .bool true), (14, 78, .bool false), (15, 79, .bool false)] ∧ (b 13 = false → w' = wd) ∧ (b 13 = true → Below wd.heap.size wd w')) HT_.out HW_.out (by kernel_rfl) (by kernel_rfl) ?_ ?_ ?_
                · exact ⟨by simp only [putSel, Bool.false_eq_true, if_false], fun _ => rfl, fun h_ => absurd h_ (by decide)⟩
                · skip
                  clear E0
                  refine steps_cons ?_ ?_
                  · rintro b a w' ⟨ha, Q_E0, Q_E1⟩ hb_ hon hoff
                    refine ⟨_, rfl, fun K hK => ?_⟩
                    have e72 : a.tmps[72]? = some (.pointer (some (al.add jj.toNat))) := by rw [ha]; exact (putSel_off rfl).trans rfl
                    have e68 : a.tmps[68]? = some (.bool false) := by rw [ha]; exact (putSel_off rfl).trans rfl
                    replace ha := Aside0.mk ha
                    have E0 := Aside0.mk (Q_E0 (hoff 13 (by kernel_rfl)))
                    have hw_ := E0.out
                    have hc_ := hy0
                    rw [← hw_] at hc_
                    refine value_ (w1 := w') (v := .slice (some ay) y.length cY) (wanted_on rfl rfl rfl (e68.trans (by first | rfl | (simp [*]; done)))) rfl ?_ ?_
                    · go_simp
                      (try simp only [i64_w])
                      try rfl
                    refine hK.out _ _ ⟨(by rw [ha.out]; exact putSel_upk 0 hb_ rfl rfl rfl), Q_E0, fun h0_ => absurd ((hoff 13 (by kernel_rfl)).symm.trans h0_) (by decide)⟩
                  refine steps_cons ?_ ?_
                  · rintro b a w' ⟨ha, Q_E0, Q_E1⟩ hb_ hon hoff
                    refine ⟨_, rfl, fun K hK => ?_⟩
                    have e75 : a.tmps[75]? = some (.pointer (some ⟨gs, kk.toNat, none⟩)) := by rw [ha]; exact (putSel_off rfl).trans rfl
                    have e68 : a.tmps[68]? = some (.bool false) := by rw [ha]; exact (putSel_off rfl).trans rfl
                    replace ha := Aside0.mk ha
                    have E0 := Aside0.mk (Q_E0 (hoff 13 (by kernel_rfl)))
                    have hw_ := E0.out
                    have hc_ := hs0
                    rw [← hw_] at hc_
                    refine value_ (w1 := w') (v := .int .u8 (sgk k)) (wanted_on rfl rfl rfl (e68.trans (by first | rfl | (simp [*]; done)))) rfl ?_ ?_
                    · go_simp
                      (try simp only [i64_w])
                      try rfl
                    refine hK.out _ _ ⟨(by rw [ha.out]; exact putSel_upk 1 hb_ rfl rfl rfl), Q_E0, fun h0_ => absurd ((hoff 13 (by kernel_rfl)).symm.trans h0_) (by decide)⟩
                  refine steps_cons ?_ ?_
                  · rintro b a w' ⟨ha, Q_E0, Q_E1⟩ hb_ hon hoff
                    refine ⟨_, rfl, fun K hK => ?_⟩
                    have e69 : a.tmps[69]? = some (.int .i64 (N : Int)) := by rw [ha]; exact (putSel_off rfl).trans rfl
                    have e73 : a.tmps[73]? = some (.slice (some ay) y.length cY) := by rw [ha]; exact putSel_on (e := (9, 73, .slice (some ay) y.length cY)) 0 rfl rfl (hon 9 (by kernel_rfl)) rfl
                    have e76 : a.tmps[76]? = some (.int .u8 (sgk k)) := by rw [ha]; exact putSel_on (e := (12, 76, .int .u8 (sgk k))) 1 rfl rfl (hon 12 (by kernel_rfl)) rfl
                    have e68 : a.tmps[68]? = some (.bool false) := by rw [ha]; exact (putSel_off rfl).trans rfl
                    replace ha := Aside0.mk ha
                    have E0 := Aside0.mk (Q_E0 hb_)
                    have hw_ := E0.out
                    refine goes_ Tryd.func29 (by kernel_rfl) rfl #[.int .i64 (N : Int), .slice (some ay) y.length cY, .int .u8 (sgk k)] (wanted_on rfl rfl rfl (e68.trans (by first | rfl | (simp [*]; done)))) rfl rfl (by first | (simp only [List.map_toArray, List.map_cons, List.map_nil, Act.eval, Array.getD_eq_getD_getElem?, Option.getD_some, e69, e73, e76, e68]; done) | (simp only [List.map_toArray, List.map_cons, List.map_nil, Act.eval, Array.getD_eq_getD_getElem?, Option.getD_some, e69, e73, e76, e68]; rfl)) ?_
                    refine (hw_ ▸ HIS.out).mono ?_
                    rintro e w24 ⟨rfl, hb⟩
                    refine ⟨_, rfl, ?_⟩
                    have E3_ : Below wd.heap.size wd w24 := hw_ ▸ hb
                    refine hK.out _ _ ⟨(by rw [ha.out]; exact putSel_upk 2 hb_ rfl rfl rfl), fun h0_ => absurd ((up_self b 13).symm.trans h0_) (by decide), fun _ => E3_⟩
                  refine steps_cons ?_ ?_
                  · rintro b a w' ⟨ha, Q_E0, Q_E1⟩ hb_ hon hoff
                    refine ⟨_, rfl, fun K hK => ?_⟩
                    have e77 : a.tmps[77]? = some (.bool true) := by rw [ha]; exact putSel_on (e := (13, 77, .bool true)) 2 rfl rfl (hon 13 (by kernel_rfl)) rfl
                    have e68 : a.tmps[68]? = some (.bool false) := by rw [ha]; exact (putSel_off rfl).trans rfl
                    replace ha := Aside0.mk ha
                    have E1 := Aside0.mk (Q_E1 (hon 13 (by kernel_rfl)))
                    refine value_ (w1 := w') (v := .bool false) (wanted_on rfl rfl rfl (e68.trans (by first | rfl | (simp [*]; done)))) rfl ?_ ?_
                    · go_simp
                      (try simp only [i64_w])
                      try rfl
                    refine hK.out _ _ ⟨(by rw [ha.out]; exact putSel_upk 3 hb_ rfl rfl rfl), fun h0_ => absurd ((hon 13 (by kernel_rfl)).symm.trans h0_) (by decide), Q_E1⟩
                  refine steps_cons ?_ ?_
                  · rintro b a w' ⟨ha, Q_E0, Q_E1⟩ hb_ hon hoff
                    refine ⟨_, rfl, fun K hK => ?_⟩
                    have e68 : a.tmps[68]? = some (.bool false) := by rw [ha]; exact (putSel_off rfl).trans rfl
                    have e78 : a.tmps[78]? = some (.bool false) := by rw [ha]; exact putSel_on (e := (14, 78, .bool false)) 3 rfl rfl (hon 14 (by kernel_rfl)) rfl
                    replace ha := Aside0.mk ha
                    have E1 := Aside0.mk (Q_E1 (hon 13 (by kernel_rfl)))
                    refine value_ (w1 := w') (v := .bool false) (by rfl) rfl ?_ ?_
                    · go_simp
                      (try simp only [i64_w])
                      try rfl
                    refine hK.out _ _ ⟨(by rw [ha.out]; exact putSel_upk 4 hb_ rfl rfl rfl), fun h0_ => absurd ((hon 13 (by kernel_rfl)).symm.trans h0_) (by decide), Q_E1⟩
                  exact steps_nil
                · rintro b a w' hall ⟨ha, Q_E0, Q_E1⟩
                  clear E0
                  have hb9_ := hall 9 (by kernel_rfl)
                  have hb12_ := hall 12 (by kernel_rfl)
                  have hb13_ := hall 13 (by kernel_rfl)
                  have hb14_ := hall 14 (by kernel_rfl)
                  have hb15_ := hall 15 (by kernel_rfl)
                  subst ha
                  simp only [putSel, hb9_, hb12_, hb13_, hb14_, hb15_, if_true, Act.put, List.setIfInBounds_toArray, List.set_cons_zero, List.set_cons_succ]
                  clear Q_E0
                  have E1 := Aside0.mk (Q_E1 hb13_)
                  clear Q_E1
                  clear hall hb9_ hb12_ hb13_ hb14_ hb15_
                  have hB5 := Aside0.mk (hBd.out.keep E1.out)
                  clear hy0 hs0 HIS hBd E1 hjge
                  go_wp2
                  go_loopg [8] (L.length - (j + 1)) (fun kq v8 W => ∃ (q : Pt) (jj2 : Int) (j2 : Nat), v8 = .int .i64 jj2 ∧ Aside0 (jj2 = (j2 : Int)) ∧ j + 1 ≤ j2 ∧ j2 ≤ L.length ∧ kq = L.length - j2 ∧ Aside0 (rdAll N (L.take j2) ([], 0) = some (stk ps q (k + 1))) ∧ Aside0 (q.region = true) ∧ Aside0 (Szp q j2) ∧ Aside0 (BxI w2 [bkF gs 61 #[.int .u8 60, .int .u8 124, .int .u8 61, .int .u8 62], rdV kB (some al) cL L] ps (.slice Ao m co) g q W))
                  case atStart => exact ⟨p, wrap64 (jj + 1), j + 1, by first | rfl | (simp; done) | (simp [hw1]; done), ⟨by rw [hw1]; have := hjj.out; omega⟩, Nat.le_refl _, by have := hjj.out; omega, rfl, hnext, hpr, ⟨szp_mono hsp.out (by omega)⟩, hB5⟩
                  case round =>
                    obtain ⟨q, jj2, j2, rfl, hjj2, hj12, hj2, hgk3, hst2, hqr, hsq, hBx2⟩ := hrel
                    obtain ⟨we, rfl⟩ : ∃ q, q = wr := ⟨_, rfl⟩
                    replace hw1 := Aside0.mk hw1
                    have r0 : 0 ≤ jj2 := by have := hjj2.out; omega
                    have r0b := eq_true r0
                    have hw2 : wrap64 (jj2 + 1) = jj2 + 1 := by have := hjj2.out; have := HLN.out; unfold wrap64; omega
                    have HQ := Aside0.mk (⟨hj12, hj2, hgk3⟩ : _ ∧ _ ∧ _)
                    clear hj12 hj2 hgk3
                    by_cases hk3 : kk < 3
                    · have hk3b := eq_true hk3
                      by_cases hzn : jj2 < (L.length : Int)
                      · have hznb := eq_true hzn
                        have f2 : jj2.toNat = j2 := by have := hjj2.out; omega
                        obtain ⟨Z, hZ⟩ := hBx2.out.fr
                        obtain ⟨z, hzj⟩ : ∃ z, L[j2]? = some z := ⟨_, List.getElem?_eq_getElem (by have := hjj2.out; omega)⟩
                        have hzm := HLX.out z (List.mem_of_getElem? hzj)
                        obtain ⟨al', az, cZ, eal, hz0, hzc, hzC, _⟩ := line_at (hZ (rdV kB (some al) cL L) (by simp)) hzj hzm.1
                        injection eal with eal
                        subst eal
                        rw [← f2] at hz0
                        have HAN0 := any_calls N hN1.out (some az) cZ z we hzC hzc hzm.2.1 (by have := hzm.2.2; omega)
                        rw [anyOf_eq hN1.out z] at HAN0
                        have HZ := Aside0.mk (⟨hzm, hzc, hzC⟩ : _ ∧ _ ∧ _)
                        replace f2 := Aside0.mk f2
                        replace hzj := Aside0.mk hzj
                        clear hZ hzm hzc hzC
                        by_cases hz : mkOf N z = 0
                        · rw [show decide (mkOf N z ≠ 0) = false by simp [hz]] at HAN0
                          have HAN := Aside0.mk HAN0
                          have hyes : rdAll N (L.take (j2 + 1)) ([], 0) = some (stk ps (addF q z (k + 1)) (k + 1)) := by rw [rdAll_next hst2.out hzj.out]; exact stk_line (by omega) (by have := hkk.out; omega) hz
                          replace hyes := Aside0.mk hyes
                          replace hz := Aside0.mk hz
                          clear HAN0
                          go_wp2_with (go_at_call 28; refine HAN.out.mono ?_; rintro e w6 ⟨rfl, hb6⟩; have hB6 := Aside0.mk (hBx2.out.keep hb6); have hC6 := Aside0.mk (Kd.C_below HZ.out.2.2 hb6); have hz6 := (hb6.cell (World.block_lt_of_cell? _ _ hz0)).trans hz0; clear hb6)
                          have hzd : w6.drew.cell? (al.add jj2.toNat) = some (.slice (some az) z.length cZ) := hz6
                          have hBe := hB6.out.keep (below_drew1 (Below.refl w6.heap.size w6))
                          obtain ⟨vk, hcell, hown, hstep⟩ := hBe.app (k + 1) (by have := hkk.out; omega) z
                          obtain ⟨ak, ck, rfl, _⟩ := own_form hown
                          have ea : k + 1 + 1 = 2 + kk.toNat := by have := fk.out; omega
                          rw [ea] at hcell hstep
                          have hln : (fld q (k + 1)).length + z.length ≤ 140737488355328 := by
                            have := sz_fld (m := 5000000 * j2) hsq.out (k + 1)
                            have := HZ.out.1.2.2; have := HLN.out; have := HQ.out.2.1; omega
                          replace hln := Aside0.mk hln
                          have hst_ : ∀ w1 v1, P1 w6.drew (.slice ak (fld q (k + 1)).length ck) (fld q (k + 1)) z v1 w1 → _ := fun w1 v1 h => hstep w1 v1 h.1 h.2.1 h.2.2
                          replace hst_ := Aside0.mk hst_
                          replace hown := Aside0.mk hown
                          have hXw := Aside0.mk (Kd.C_below hC6.out (below_drew1 (Below.refl w6.heap.size w6)))
                          clear hstep hz6 hBe ea hz0 HAN
                          have E0 := trivial
                          refine start_ (n := 13) (S := fun w' => True) (ds := []) #[false, false, false, false, false, false, false, false, false, false, false, false, false] (by kernel_rfl) rfl rfl trivial (fun hHeld => ?_)
                          refine with_tabW rref.tab22 rref.bits22 (fun HT_ HW_ => ?_)
                          generalize w6.drew = wd at hcell hzd hown hst_ hXw hHeld ⊢
                          refine pure_ (i := 0) (N := some 99) (v := ?_) (a' := ?_) #[true, false, false, false, false, false, false, false, false, false, false, false, false] rfl rfl (any_of HT_.out (by kernel_rfl)) (fun _ _ _ h => h) (Or.inl ⟨by rfl, ?_⟩) ?_ ?_
                          rotate_left
                          · intro w'
                            go_simp
                            with_reducible rfl
                          rotate_left
                          · simp only [Act.put, List.setIfInBounds_toArray, List.set_cons_zero, List.set_cons_succ, i64_w, i32_w]
                            rfl
                          refine pure_ (i := 1) (N := some 100) (v := ?_) (a' := ?_) #[true, true, false, false, false, false, false, false, false, false, false, false, false] rfl rfl (any_of HT_.out (by kernel_rfl)) (fun _ _ _ h => h) (Or.inl ⟨by rfl, ?_⟩) ?_ ?_
                          rotate_left
                          · intro w'
                            go_simp
                            with_reducible rfl
                          rotate_left
                          · simp only [Act.put, List.setIfInBounds_toArray, List.set_cons_zero, List.set_cons_succ, i64_w, i32_w]
                            rfl
                          refine pure_ (i := 2) (N := some 101) (v := ?_) (a' := ?_) #[true, true, true, false, false, false, false, false, false, false, false, false, false] rfl rfl (any_of HT_.out (by kernel_rfl)) (fun _ _ _ h => h) (Or.inl ⟨by rfl, ?_⟩) ?_ ?_
                          rotate_left
                          · intro w'
                            go_simp
                            with_reducible rfl
                          rotate_left
                          · simp only [Act.put, List.setIfInBounds_toArray, List.set_cons_zero, List.set_cons_succ, i64_w, i32_w]
                            rfl
                          refine pure_ (i := 3) (N := some 102) (v := ?_) (a' := ?_) #[true, true, true, true, false, false, false, false, false, false, false, false, false] rfl rfl (any_of HT_.out (by kernel_rfl)) (fun _ _ _ h => h) (Or.inl ⟨by rfl, ?_⟩) ?_ ?_
                          rotate_left
                          · intro w'
                            go_simp
                            with_reducible rfl
                          rotate_left
                          · simp only [Act.put, List.setIfInBounds_toArray, List.set_cons_zero, List.set_cons_succ, i64_w, i32_w]
                            rfl
                          refine pure_ (i := 5) (N := some 104) (v := ?_) (a' := ?_) #[true, true, true, true, false, true, false, false, false, false, false, false, false] rfl rfl (any_of HT_.out (by kernel_rfl)) (fun _ _ _ h => h) (Or.inl ⟨by rfl, ?_⟩) ?_ ?_
                          rotate_left
                          · intro w'
                            go_simp
                            with_reducible rfl
                          rotate_left
                          · simp only [Act.put, List.setIfInBounds_toArray, List.set_cons_zero, List.set_cons_succ, i64_w, i32_w]
                            rfl
                          refine pure_ (i := 6) (N := some 105) (v := ?_) (a' := ?_) #[true, true, true, true, false, true, true, false, false, false, false, false, false] rfl rfl (any_of HT_.out (by kernel_rfl)) (fun _ _ _ h => h) (Or.inl ⟨by rfl, ?_⟩) ?_ ?_
                          rotate_left
                          · intro w'
                            go_simp
                            with_reducible rfl
                          rotate_left
                          · simp only [Act.put, List.setIfInBounds_toArray, List.set_cons_zero, List.set_cons_succ, i64_w, i32_w]
                            rfl
                          refine pure_ (i := 7) (N := some 106) (v := ?_) (a' := ?_) #[true, true, true, true, false, true, true, true, false, false, false, false, false] rfl rfl (any_of HT_.out (by kernel_rfl)) (fun _ _ _ h => h) (Or.inl ⟨by rfl, ?_⟩) ?_ ?_
                          rotate_left
                          · intro w'
                            go_simp
                            with_reducible rfl
                          rotate_left
                          · simp only [Act.put, List.setIfInBounds_toArray, List.set_cons_zero, List.set_cons_succ, i64_w, i32_w]
                            rfl
                          refine pure_ (i := 10) (N := some 109) (v := ?_) (a' := ?_) #[true, true, true, true, false, true, true, true, false, false, true, false, false] rfl rfl (any_of HT_.out (by kernel_rfl)) (fun _ _ _ h => h) (Or.inl ⟨by rfl, ?_⟩) ?_ ?_
                          rotate_left
                          · intro w'
                            go_simp
                            with_reducible rfl
                          rotate_left
                          · simp only [Act.put, List.setIfInBounds_toArray, List.set_cons_zero, List.set_cons_succ, i64_w, i32_w]
                            rfl
                          refine inv_at [4, 8, 9, 11, 12] (fun a0_ b a w' => ∃ (vv : Value), a = putSel a0_ b [(4, 103, .slice ak (fld q (k + 1)).length ck), (8, 107, .slice (some az) z.length cZ), (9, 108, vv), (11, 110, .pointer (some ⟨g, 2 + kk.toNat, none⟩))] ∧ (b 9 = false → w' = wd) ∧ (b 9 = true → b 12 = false → P1 wd (.slice ak (fld q (k + 1)).length ck) (fld q (k + 1)) z vv w') ∧ (b 12 = true → P2 wd (.slice ak (fld q (k + 1)).length ck) (fld q (k + 1)) z ⟨g, 2 + kk.toNat, none⟩ vv w')) HT_.out HW_.out (by kernel_rfl) (by kernel_rfl) ?_ ?_ ?_
                          · exact ⟨.bool false, by simp only [putSel, Bool.false_eq_true, if_false], fun _ => rfl, fun h_ => absurd h_ (by decide), fun h_ => absurd h_ (by decide)⟩
                          · skip
                            clear E0
                            refine steps_cons ?_ ?_
                            · rintro b a w' ⟨vv, ha, Q_E0, Q_E1, Q_E2⟩ hb_ hon hoff
                              refine ⟨_, rfl, fun K hK => ?_⟩
                              have e102 : a.tmps[102]? = some (.pointer (some ⟨g, 2 + kk.toNat, none⟩)) := by rw [ha]; exact (putSel_off rfl).trans rfl
                              replace ha := Aside0.mk ha
                              have E0 := Aside0.mk (Q_E0 (hoff 9 (by kernel_rfl)))
                              have hw_ := E0.out
                              have hc_ := hcell
                              rw [← hw_] at hc_
                              refine value_ (w1 := w') (v := .slice ak (fld q (k + 1)).length ck) (by rfl) rfl ?_ ?_
                              · go_simp
                                (try simp only [i64_w])
                                try rfl
                              refine hK.out _ _ ⟨vv, (by rw [ha.out]; exact putSel_upk 0 hb_ rfl rfl rfl), Q_E0, fun h0_ _ => absurd ((hoff 9 (by kernel_rfl)).symm.trans h0_) (by decide), fun h0_ => absurd ((hoff 12 (by kernel_rfl)).symm.trans h0_) (by decide)⟩
                            refine steps_cons ?_ ?_
                            · rintro b a w' ⟨vv, ha, Q_E0, Q_E1, Q_E2⟩ hb_ hon hoff
                              refine ⟨_, rfl, fun K hK => ?_⟩
                              have e106 : a.tmps[106]? = some (.pointer (some (al.add jj2.toNat))) := by rw [ha]; exact (putSel_off rfl).trans rfl
                              replace ha := Aside0.mk ha
                              have E0 := Aside0.mk (Q_E0 (hoff 9 (by kernel_rfl)))
                              have hw_ := E0.out
                              have hc_ := hzd
                              rw [← hw_] at hc_
                              refine value_ (w1 := w') (v := .slice (some az) z.length cZ) (by rfl) rfl ?_ ?_
                              · go_simp
                                (try simp only [i64_w])
                                try rfl
                              refine hK.out _ _ ⟨vv, (by rw [ha.out]; exact putSel_upk 1 hb_ rfl rfl rfl), Q_E0, fun h0_ _ => absurd ((hoff 9 (by kernel_rfl)).symm.trans h0_) (by decide), fun h0_ => absurd ((hoff 12 (by kernel_rfl)).symm.trans h0_) (by decide)⟩
                            refine steps_cons ?_ ?_
                            · rintro b a w' ⟨vv, ha, Q_E0, Q_E1, Q_E2⟩ hb_ hon hoff
                              refine ⟨_, rfl, fun K hK => ?_⟩
                              have e103 : a.tmps[103]? = some (.slice ak (fld q (k + 1)).length ck) := by rw [ha]; exact putSel_on (e := (4, 103, .slice ak (fld q (k + 1)).length ck)) 0 rfl rfl (hon 4 (by kernel_rfl)) rfl
                              have e107 : a.tmps[107]? = some (.slice (some az) z.length cZ) := by rw [ha]; exact putSel_on (e := (8, 107, .slice (some az) z.length cZ)) 1 rfl rfl (hon 8 (by kernel_rfl)) rfl
                              replace ha := Aside0.mk ha
                              have E0 := Aside0.mk (Q_E0 hb_)
                              have hw_ := E0.out
                              refine app_spread_step (by rfl) (.tmp 103) (.tmp 107) rfl Tryd.underlying22 inf5 (.slice ak (fld q (k + 1)).length ck) _ (us8 (fld q (k + 1))) z az cZ (eval_of e103) (eval_of e107) (hw_ ▸ hown.out) (hw_ ▸ hXw.out) hln.out ?_
                              intro v1 w1 ho hg hat
                              have S3_ : P1 wd (.slice ak (fld q (k + 1)).length ck) (fld q (k + 1)) z v1 w1 := ⟨ho, hw_ ▸ hg, hw_ ▸ hat⟩
                              refine hK.out _ _ ⟨v1, (by rw [ha.out]; exact putSel_upk 2 hb_ rfl rfl rfl), fun h0_ => absurd ((up_self b 9).symm.trans h0_) (by decide), fun _ _ => S3_, fun h0_ => absurd ((hoff 12 (by kernel_rfl)).symm.trans h0_) (by decide)⟩
                            refine steps_cons ?_ ?_
                            · rintro b a w' ⟨vv, ha, Q_E0, Q_E1, Q_E2⟩ hb_ hon hoff
                              refine ⟨_, rfl, fun K hK => ?_⟩
                              have e109 : a.tmps[109]? = some (.pointer (some ⟨g, 2, none⟩)) := by rw [ha]; exact (putSel_off rfl).trans rfl
                              have e99 : a.tmps[99]? = some (.int .i64 kk) := by rw [ha]; exact (putSel_off rfl).trans rfl
                              replace ha := Aside0.mk ha
                              have E1 := Aside0.mk (Q_E1 (hon 9 (by kernel_rfl)) (hoff 12 (by kernel_rfl)))
                              refine value_ (w1 := w') (v := .pointer (some ⟨g, 2 + kk.toNat, none⟩)) (by rfl) rfl ?_ ?_
                              · go_simp
                                (try simp only [i64_w])
                                try rfl
                              refine hK.out _ _ ⟨vv, (by rw [ha.out]; exact putSel_upk 3 hb_ rfl rfl rfl), fun h0_ => absurd ((hon 9 (by kernel_rfl)).symm.trans h0_) (by decide), Q_E1, fun h0_ => absurd ((hoff 12 (by kernel_rfl)).symm.trans h0_) (by decide)⟩
                            refine steps_cons ?_ ?_
                            · rintro b a w' ⟨vv, ha, Q_E0, Q_E1, Q_E2⟩ hb_ hon hoff
                              refine ⟨_, rfl, fun K hK => ?_⟩
                              have e110 : a.tmps[110]? = some (.pointer (some ⟨g, 2 + kk.toNat, none⟩)) := by rw [ha]; exact putSel_on (e := (11, 110, .pointer (some ⟨g, 2 + kk.toNat, none⟩))) 3 rfl rfl (hon 11 (by kernel_rfl)) rfl
                              have e108 : a.tmps[108]? = some (vv) := by rw [ha]; exact putSel_on (e := (9, 108, vv)) 2 rfl rfl (hon 9 (by kernel_rfl)) rfl
                              replace ha := Aside0.mk ha
                              have E1 := Aside0.mk (Q_E1 (hon 9 (by kernel_rfl)) hb_)
                              obtain ⟨A_, c_, en_⟩ := E1.out.form
                              obtain ⟨hc_, hf_, _⟩ := hst_.out w' vv E1.out
                              refine skip_ (w1 := w'.setCell ⟨g, 2 + kk.toNat, none⟩ vv) (by rfl) rfl ?_ ?_
                              · rw [en_] at e108 ⊢
                                go_simp
                                try rfl
                              have S3_ := E1.out
                              refine hK.out _ _ ⟨vv, (by rw [ha.out]; exact putSel_none (v := undef) rfl), fun h0_ => absurd ((hon 9 (by kernel_rfl)).symm.trans h0_) (by decide), fun _ h1_ => absurd ((up_self b 12).symm.trans h1_) (by decide), fun _ => ⟨w', S3_, rfl⟩⟩
                            exact steps_nil
                          · rintro b a w' hall ⟨vv, ha, Q_E0, Q_E1, Q_E2⟩
                            clear E0
                            have hb4_ := hall 4 (by kernel_rfl)
                            have hb8_ := hall 8 (by kernel_rfl)
                            have hb9_ := hall 9 (by kernel_rfl)
                            have hb11_ := hall 11 (by kernel_rfl)
                            have hb12_ := hall 12 (by kernel_rfl)
                            subst ha
                            simp only [putSel, hb4_, hb8_, hb9_, hb11_, hb12_, if_true, Act.put, List.setIfInBounds_toArray, List.set_cons_zero, List.set_cons_succ]
                            clear Q_E0
                            clear Q_E1
                            have E2 := Aside0.mk (Q_E2 hb12_)
                            clear Q_E2
                            clear hall hb4_ hb8_ hb9_ hb11_ hb12_
                            obtain ⟨w1_, h1_, rfl⟩ := E2.out
                            obtain ⟨_, _, hI5⟩ := hst_.out w1_ vv h1_
                            go_wp2
                            go_roundg (L.length - (j2 + 1))
                            case rel => exact ⟨addF q z (k + 1), wrap64 (jj2 + 1), j2 + 1, by first | rfl | (simp; done) | (simp [hw2]; done), ⟨by rw [hw2]; have := hjj2.out; omega⟩, by have := HQ.out.1; omega, by have := hjj2.out; omega, rfl, hyes, ⟨by rw [addF_region]; exact hqr.out⟩, ⟨szp_add hsq.out z HZ.out.1.2.2 (k + 1)⟩, ⟨hI5⟩⟩
                            case measure => have := hjj2.out; have := HQ.out.2.2; omega
                        · rw [show decide (mkOf N z ≠ 0) = true by simp [hz]] at HAN0
                          have HAN := Aside0.mk HAN0
                          clear HAN0
                          replace hz := Aside0.mk hz
                          go_wp2_with (go_at_call 28; refine HAN.out.mono ?_; rintro e w6 ⟨rfl, hb6⟩; have hB6 := Aside0.mk (hBx2.out.keep hb6); clear hb6)
                          go_roundg (4 - (k + 1))
                          case rel => exact ⟨q, wrap64 (kk + 1), k + 1, jj2, j2, rfl, by first | rfl | (simp; done) | (simp [hwk]; done), ⟨by rw [hwk]; have := hkk.out; omega⟩, hjj2, by have := hk.out; omega, HQ.out.2.1, rfl, hst2, ⟨fun h => absurd h (by omega)⟩, ⟨fun _ => by have := HQ.out.1; have := hij1.out; omega⟩, hqr, ⟨fun _ y' h => by rw [hzj.out] at h; injection h with h; exact h ▸ hz.out⟩, hsq, hB6⟩
                          case measure => have := hk.out; have := HJ.out.2.2.1; omega
                      · have hznb := eq_false hzn
                        go_wp2
                        go_roundg (4 - (k + 1))
                        case rel => exact ⟨q, wrap64 (kk + 1), k + 1, jj2, j2, rfl, by first | rfl | (simp; done) | (simp [hwk]; done), ⟨by rw [hwk]; have := hkk.out; omega⟩, hjj2, by have := hk.out; omega, HQ.out.2.1, rfl, hst2, ⟨fun h => absurd h (by omega)⟩, ⟨fun _ => by have := HQ.out.1; have := hij1.out; omega⟩, hqr, ⟨fun _ y' h => by have h3 := hjj2.out; have h4 := (List.getElem?_eq_some_iff.1 h).1; omega⟩, hsq, hBx2⟩
                        case measure => have := hk.out; have := HJ.out.2.2.1; omega
                    · have hk3b := eq_false hk3
                      go_wp2
                      go_roundg (4 - (k + 1))
                      case rel => exact ⟨q, wrap64 (kk + 1), k + 1, jj2, j2, rfl, by first | rfl | (simp; done) | (simp [hwk]; done), ⟨by rw [hwk]; have := hkk.out; omega⟩, hjj2, by have := hk.out; omega, HQ.out.2.1, rfl, hst2, ⟨fun h => absurd h (by omega)⟩, ⟨fun _ => by have := HQ.out.1; have := hij1.out; omega⟩, hqr, ⟨fun h => by have := hkk.out; omega⟩, hsq, hBx2⟩
                      case measure => have := hk.out; have := HJ.out.2.2.1; omega
              · rw [show decide (mkOf N y = sgk k) = false by simp [hy]] at HIS0
                have HIS := Aside0.mk HIS0
                replace hy := Aside0.mk hy
                clear HIS0
                go_wp2
                have E0 := trivial
                refine start_ (n := 16) (S := fun w' => True) (ds := []) #[false, false, false, false, false, false, false, false, false, false, false, false, false, false, false, false] (by kernel_rfl) rfl rfl trivial (fun hHeld => ?_)
                refine with_tabW rref.tab18 rref.bits18 (fun HT_ HW_ => ?_)
                generalize wc.drew = wd at hy0 hs0 HIS hBd hHeld ⊢
                refine pure_ (i := 0) (N := some 64) (v := ?_) (a' := ?_) #[true, false, false, false, false, false, false, false, false, false, false, false, false, false, false, false] rfl rfl (any_of HT_.out (by kernel_rfl)) (fun _ _ _ h => h) (Or.inl ⟨by rfl, ?_⟩) ?_ ?_
                rotate_left
                · intro w'
                  go_simp
                  with_reducible rfl
                rotate_left
                · simp only [Act.put, List.setIfInBounds_toArray, List.set_cons_zero, List.set_cons_succ, i64_w, i32_w]
                  rfl
                refine pure_ (i := 1) (N := some 65) (v := ?_) (a' := ?_) #[true, true, false, false, false, false, false, false, false, false, false, false, false, false, false, false] rfl rfl (any_of HT_.out (by kernel_rfl)) (fun _ _ _ h => h) (Or.inl ⟨by rfl, ?_⟩) ?_ ?_
                rotate_left
                · intro w'
                  go_simp
                  with_reducible rfl
                rotate_left
                · simp only [Act.put, List.setIfInBounds_toArray, List.set_cons_zero, List.set_cons_succ, i64_w, i32_w]
                  rfl
                refine pure_ (i := 2) (N := some 66) (v := ?_) (a' := ?_) #[true, true, true, false, false, false, false, false, false, false, false, false, false, false, false, false] rfl rfl (any_of HT_.out (by kernel_rfl)) (fun _ _ _ h => h) (Or.inl ⟨by rfl, ?_⟩) ?_ ?_
                rotate_left
                · intro w'
                  go_simp
                  with_reducible rfl
                rotate_left
                · simp only [Act.put, List.setIfInBounds_toArray, List.set_cons_zero, List.set_cons_succ, i64_w, i32_w]
                  rfl
                refine pure_ (i := 3) (N := some 67) (v := ?_) (a' := ?_) #[true, true, true, true, false, false, false, false, false, false, false, false, false, false, false, false] rfl rfl (any_of HT_.out (by kernel_rfl)) (fun _ _ _ h => h) (Or.inl ⟨by rfl, ?_⟩) ?_ ?_
                rotate_left
                · intro w'
                  go_simp
                  with_reducible rfl
                rotate_left
                · simp only [Act.put, List.setIfInBounds_toArray, List.set_cons_zero, List.set_cons_succ, i64_w, i32_w]
                  rfl
                refine pure_ (i := 4) (N := some 68) (v := ?_) (a' := ?_) #[true, true, true, true, true, false, false, false, false, false, false, false, false, false, false, false] rfl rfl (any_of HT_.out (by kernel_rfl)) (fun _ _ _ h => h) (Or.inl ⟨by rfl, ?_⟩) ?_ ?_
                rotate_left
                · intro w'
                  go_simp
                  with_reducible rfl
                rotate_left
                · simp only [Act.put, List.setIfInBounds_toArray, List.set_cons_zero, List.set_cons_succ, i64_w, i32_w]
                  rfl
                refine pure_ (i := 5) (N := some 69) (v := ?_) (a' := ?_) #[true, true, true, true, true, true, false, false, false, false, false, false, false, false, false, false] rfl rfl (any_of HT_.out (by kernel_rfl)) (fun _ _ _ h => h) (Or.inl ⟨by rfl, ?_⟩) ?_ ?_
                rotate_left
                · intro w'
                  go_simp
                  with_reducible rfl
                rotate_left
                · simp only [Act.put, List.setIfInBounds_toArray, List.set_cons_zero, List.set_cons_succ, i64_w, i32_w]
                  rfl
                refine pure_ (i := 6) (N := some 70) (v := ?_) (a' := ?_) #[true, true, true, true, true, true, true, false, false, false, false, false, false, false, false, false] rfl rfl (any_of HT_.out (by kernel_rfl)) (fun _ _ _ h => h) (Or.inl ⟨by rfl, ?_⟩) ?_ ?_
                rotate_left
                · intro w'
                  go_simp
                  with_reducible rfl
                rotate_left
                · simp only [Act.put, List.setIfInBounds_toArray, List.set_cons_zero, List.set_cons_succ, i64_w, i32_w]
                  rfl
                refine pure_ (i := 7) (N := some 71) (v := ?_) (a' := ?_) #[true, true, true, true, true, true, true, true, false, false, false, false, false, false, false, false] rfl rfl (any_of HT_.out (by kernel_rfl)) (fun _ _ _ h => h) (Or.inl ⟨by rfl, ?_⟩) ?_ ?_
                rotate_left
                · intro w'
                  go_simp
                  with_reducible rfl
                rotate_left
                · simp only [Act.put, List.setIfInBounds_toArray, List.set_cons_zero, List.set_cons_succ, i64_w, i32_w]
                  rfl
                refine pure_ (i := 8) (N := some 72) (v := ?_) (a' := ?_) #[true, true, true, true, true, true, true, true, true, false, false, false, false, false, false, false] rfl rfl (any_of HT_.out (by kernel_rfl)) (fun _ _ _ h => h) (Or.inl ⟨by rfl, ?_⟩) ?_ ?_
                rotate_left
                · intro w'
                  go_simp
                  with_reducible rfl
                rotate_left
                · simp only [Act.put, List.setIfInBounds_toArray, List.set_cons_zero, List.set_cons_succ, i64_w, i32_w]
                  rfl
                refine pure_ (i := 10) (N := some 74) (v := ?_) (a' := ?_) #[true, true, true, true, true, true, true, true, true, false, true, false, false, false, false, false] rfl rfl (any_of HT_.out (by kernel_rfl)) (fun _ _ _ h => h) (Or.inl ⟨by rfl, ?_⟩) ?_ ?_
                rotate_left
                · intro w'
                  go_simp
                  with_reducible rfl
                rotate_left
                · simp only [Act.put, List.setIfInBounds_toArray, List.set_cons_zero, List.set_cons_succ, i64_w, i32_w]
                  rfl
                refine pure_ (i := 11) (N := some 75) (v := ?_) (a' := ?_) #[true, true, true, true, true, true, true, true, true, false, true, true, false, false, false, false] rfl rfl (any_of HT_.out (by kernel_rfl)) (fun _ _ _ h => h) (Or.inl ⟨by rfl, ?_⟩) ?_ ?_
                rotate_left
                · intro w'
                  go_simp
                  with_reducible rfl
                rotate_left
                · simp only [Act.put, List.setIfInBounds_toArray, List.set_cons_zero, List.set_cons_succ, i64_w, i32_w]
                  rfl
                refine inv_at [9, 12, 13, 14, 15] (fun a0_ b a w' => a = putSel a0_ b [(9, 73, .slice (some ay) y.length cY), (12, 76, .int .u8 (sgk k)), (13, 77, .bool false), (14, 78, .bool true), (15, 79, .bool true)] ∧ (b 13 = false → w' = wd) ∧ (b 13 = true → Below wd.heap.size wd w')) HT_.out HW_.out (by kernel_rfl) (by kernel_rfl) ?_ ?_ ?_
                · exact ⟨by simp only [putSel, Bool.false_eq_true, if_false], fun _ => rfl, fun h_ => absurd h_ (by decide)⟩
                · skip
                  clear E0
                  refine steps_cons ?_ ?_
                  · rintro b a w' ⟨ha, Q_E0, Q_E1⟩ hb_ hon hoff
                    refine ⟨_, rfl, fun K hK => ?_⟩
                    have e72 : a.tmps[72]? = some (.pointer (some (al.add jj.toNat))) := by rw [ha]; exact (putSel_off rfl).trans rfl
                    have e68 : a.tmps[68]? = some (.bool false) := by rw [ha]; exact (putSel_off rfl).trans rfl
                    replace ha := Aside0.mk ha
                    have E0 := Aside0.mk (Q_E0 (hoff 13 (by kernel_rfl)))
                    have hw_ := E0.out
                    have hc_ := hy0
                    rw [← hw_] at hc_
                    refine value_ (w1 := w') (v := .slice (some ay) y.length cY) (wanted_on rfl rfl rfl (e68.trans (by first | rfl | (simp [*]; done)))) rfl ?_ ?_
                    · go_simp
                      (try simp only [i64_w])
                      try rfl
                    refine hK.out _ _ ⟨(by rw [ha.out]; exact putSel_upk 0 hb_ rfl rfl rfl), Q_E0, fun h0_ => absurd ((hoff 13 (by kernel_rfl)).symm.trans h0_) (by decide)⟩
                  refine steps_cons ?_ ?_
                  · rintro b a w' ⟨ha, Q_E0, Q_E1⟩ hb_ hon hoff
                    refine ⟨_, rfl, fun K hK => ?_⟩
                    have e75 : a.tmps[75]? = some (.pointer (some ⟨gs, kk.toNat, none⟩)) := by rw [ha]; exact (putSel_off rfl).trans rfl
                    have e68 : a.tmps[68]? = some (.bool false) := by rw [ha]; exact (putSel_off rfl).trans rfl
                    replace ha := Aside0.mk ha
                    have E0 := Aside0.mk (Q_E0 (hoff 13 (by kernel_rfl)))
                    have hw_ := E0.out
                    have hc_ := hs0
                    rw [← hw_] at hc_
                    refine value_ (w1 := w') (v := .int .u8 (sgk k)) (wanted_on rfl rfl rfl (e68.trans (by first | rfl | (simp [*]; done)))) rfl ?_ ?_
                    · go_simp
                      (try simp only [i64_w])
                      try rfl
                    refine hK.out _ _ ⟨(by rw [ha.out]; exact putSel_upk 1 hb_ rfl rfl rfl), Q_E0, fun h0_ => absurd ((hoff 13 (by kernel_rfl)).symm.trans h0_) (by decide)⟩
                  refine steps_cons ?_ ?_
                  · rintro b a w' ⟨ha, Q_E0, Q_E1⟩ hb_ hon hoff
                    refine ⟨_, rfl, fun K hK => ?_⟩
                    have e69 : a.tmps[69]? = some (.int .i64 (N : Int)) := by rw [ha]; exact (putSel_off rfl).trans rfl
                    have e73 : a.tmps[73]? = some (.slice (some ay) y.length cY) := by rw [ha]; exact putSel_on (e := (9, 73, .slice (some ay) y.length cY)) 0 rfl rfl (hon 9 (by kernel_rfl)) rfl
                    have e76 : a.tmps[76]? = some (.int .u8 (sgk k)) := by rw [ha]; exact putSel_on (e := (12, 76, .int .u8 (sgk k))) 1 rfl rfl (hon 12 (by kernel_rfl)) rfl
                    have e68 : a.tmps[68]? = some (.bool false) := by rw [ha]; exact (putSel_off rfl).trans rfl
                    replace ha := Aside0.mk ha
                    have E0 := Aside0.mk (Q_E0 hb_)
                    have hw_ := E0.out
                    refine goes_ Tryd.func29 (by kernel_rfl) rfl #[.int .i64 (N : Int), .slice (some ay) y.length cY, .int .u8 (sgk k)] (wanted_on rfl rfl rfl (e68.trans (by first | rfl | (simp [*]; done)))) rfl rfl (by first | (simp only [List.map_toArray, List.map_cons, List.map_nil, Act.eval, Array.getD_eq_getD_getElem?, Option.getD_some, e69, e73, e76, e68]; done) | (simp only [List.map_toArray, List.map_cons, List.map_nil, Act.eval, Array.getD_eq_getD_getElem?, Option.getD_some, e69, e73, e76, e68]; rfl)) ?_
                    refine (hw_ ▸ HIS.out).mono ?_
                    rintro e w24 ⟨rfl, hb⟩
                    refine ⟨_, rfl, ?_⟩
                    have E3_ : Below wd.heap.size wd w24 := hw_ ▸ hb
                    refine hK.out _ _ ⟨(by rw [ha.out]; exact putSel_upk 2 hb_ rfl rfl rfl), fun h0_ => absurd ((up_self b 13).symm.trans h0_) (by decide), fun _ => E3_⟩
                  refine steps_cons ?_ ?_
                  · rintro b a w' ⟨ha, Q_E0, Q_E1⟩ hb_ hon hoff
                    refine ⟨_, rfl, fun K hK => ?_⟩
                    have e77 : a.tmps[77]? = some (.bool false) := by rw [ha]; exact putSel_on (e := (13, 77, .bool false)) 2 rfl rfl (hon 13 (by kernel_rfl)) rfl
                    have e68 : a.tmps[68]? = some (.bool false) := by rw [ha]; exact (putSel_off rfl).trans rfl
                    replace ha := Aside0.mk ha
                    have E1 := Aside0.mk (Q_E1 (hon 13 (by kernel_rfl)))
                    refine value_ (w1 := w') (v := .bool true) (wanted_on rfl rfl rfl (e68.trans (by first | rfl | (simp [*]; done)))) rfl ?_ ?_
                    · go_simp
                      (try simp only [i64_w])
                      try rfl
                    refine hK.out _ _ ⟨(by rw [ha.out]; exact putSel_upk 3 hb_ rfl rfl rfl), fun h0_ => absurd ((hon 13 (by kernel_rfl)).symm.trans h0_) (by decide), Q_E1⟩
                  refine steps_cons ?_ ?_
                  · rintro b a w' ⟨ha, Q_E0, Q_E1⟩ hb_ hon hoff
                    refine ⟨_, rfl, fun K hK => ?_⟩
                    have e68 : a.tmps[68]? = some (.bool false) := by rw [ha]; exact (putSel_off rfl).trans rfl
                    have e78 : a.tmps[78]? = some (.bool true) := by rw [ha]; exact putSel_on (e := (14, 78, .bool true)) 3 rfl rfl (hon 14 (by kernel_rfl)) rfl
                    replace ha := Aside0.mk ha
                    have E1 := Aside0.mk (Q_E1 (hon 13 (by kernel_rfl)))
                    refine value_ (w1 := w') (v := .bool true) (by rfl) rfl ?_ ?_
                    · go_simp
                      (try simp only [i64_w])
                      try rfl
                    refine hK.out _ _ ⟨(by rw [ha.out]; exact putSel_upk 4 hb_ rfl rfl rfl), fun h0_ => absurd ((hon 13 (by kernel_rfl)).symm.trans h0_) (by decide), Q_E1⟩
                  exact steps_nil
                · rintro b a w' hall ⟨ha, Q_E0, Q_E1⟩
                  clear E0
                  have hb9_ := hall 9 (by kernel_rfl)
                  have hb12_ := hall 12 (by kernel_rfl)
                  have hb13_ := hall 13 (by kernel_rfl)
                  have hb14_ := hall 14 (by kernel_rfl)
                  have hb15_ := hall 15 (by kernel_rfl)
                  subst ha
                  simp only [putSel, hb9_, hb12_, hb13_, hb14_, hb15_, if_true, Act.put, List.setIfInBounds_toArray, List.set_cons_zero, List.set_cons_succ]
                  clear Q_E0
                  have E1 := Aside0.mk (Q_E1 hb13_)
                  clear Q_E1
                  clear hall hb9_ hb12_ hb13_ hb14_ hb15_
                  go_wp2
                  refine bodyPost_ret (results_tmp2 rfl _ _ _) rfl ?_
                  have hR0 : R = ([], 5) := by
                    rw [HRES.out, rdAll_none (show rdAll N (L.take (j + 1)) ([], 0) = none by rw [rdAll_next hst.out hyj.out]; exact stk_bad hN1.out hk.out (hmk.out hk.out y hyj.out) hy.out)]
                  rw [hR0]
                  have hbz : Below w2.heap.size w2 w' := hBd.out.below.trans (below_lo E1.out hBd.out.below.size)
                  exact ⟨none, 0, rfl, Nat.zero_le _, Kd.C_nil kP _, hB2.out.trans (below_lo hbz hB2.out.size)⟩
            · have hjnb := eq_false hjn
              have hjge := eq_true (show (L.length : Int) ≤ jj by omega)
              go_wp2
              have E0 := trivial
              refine start_ (n := 16) (S := fun w' => True) (ds := []) #[false, false, false, false, false, false, false, false, false, false, false, false, false, false, false, false] (by kernel_rfl) rfl rfl trivial (fun hHeld => ?_)
              refine with_tabW rref.tab18 rref.bits18 (fun HT_ HW_ => ?_)
              generalize wc.drew = wd at hBd hHeld ⊢
              refine pure_ (i := 0) (N := some 64) (v := ?_) (a' := ?_) #[true, false, false, false, false, false, false, false, false, false, false, false, false, false, false, false] rfl rfl (any_of HT_.out (by kernel_rfl)) (fun _ _ _ h => h) (Or.inl ⟨by rfl, ?_⟩) ?_ ?_
              rotate_left
              · intro w'
                go_simp
                with_reducible rfl
              rotate_left
              · simp only [Act.put, List.setIfInBounds_toArray, List.set_cons_zero, List.set_cons_succ, i64_w, i32_w]
                rfl
              refine pure_ (i := 1) (N := some 65) (v := ?_) (a' := ?_) #[true, true, false, false, false, false, false, false, false, false, false, false, false, false, false, false] rfl rfl (any_of HT_.out (by kernel_rfl)) (fun _ _ _ h => h) (Or.inl ⟨by rfl, ?_⟩) ?_ ?_
              rotate_left
              · intro w'
                go_simp
                with_reducible rfl
              rotate_left
              · simp only [Act.put, List.setIfInBounds_toArray, List.set_cons_zero, List.set_cons_succ, i64_w, i32_w]
                rfl
              refine pure_ (i := 2) (N := some 66) (v := ?_) (a' := ?_) #[true, true, true, false, false, false, false, false, false, false, false, false, false, false, false, false] rfl rfl (any_of HT_.out (by kernel_rfl)) (fun _ _ _ h => h) (Or.inl ⟨by rfl, ?_⟩) ?_ ?_
              rotate_left
              · intro w'
                go_simp
                with_reducible rfl
              rotate_left
              · simp only [Act.put, List.setIfInBounds_toArray, List.set_cons_zero, List.set_cons_succ, i64_w, i32_w]
                rfl
              refine pure_ (i := 3) (N := some 67) (v := ?_) (a' := ?_) #[true, true, true, true, false, false, false, false, false, false, false, false, false, false, false, false] rfl rfl (any_of HT_.out (by kernel_rfl)) (fun _ _ _ h => h) (Or.inl ⟨by rfl, ?_⟩) ?_ ?_
              rotate_left
              · intro w'
                go_simp
                with_reducible rfl
              rotate_left
              · simp only [Act.put, List.setIfInBounds_toArray, List.set_cons_zero, List.set_cons_succ, i64_w, i32_w]
                rfl
              refine pure_ (i := 4) (N := some 68) (v := ?_) (a' := ?_) #[true, true, true, true, true, false, false, false, false, false, false, false, false, false, false, false] rfl rfl (any_of HT_.out (by kernel_rfl)) (fun _ _ _ h => h) (Or.inl ⟨by rfl, ?_⟩) ?_ ?_
              rotate_left
              · intro w'
                go_simp
                with_reducible rfl
              rotate_left
              · simp only [Act.put, List.setIfInBounds_toArray, List.set_cons_zero, List.set_cons_succ, i64_w, i32_w]
                rfl
              refine pure_ (i := 5) (N := some 69) (v := undef) (a' := ?_) #[true, true, true, true, true, true, false, false, false, false, false, false, false, false, false, false] rfl rfl (any_of HT_.out (by kernel_rfl)) (fun _ _ _ h => h) (Or.inr ⟨by rfl, rfl⟩) ?_ ?_
              rotate_left
              · simp only [Act.put, List.setIfInBounds_toArray, List.set_cons_zero, List.set_cons_succ, i64_w, i32_w]
                rfl
              refine pure_ (i := 6) (N := some 70) (v := undef) (a' := ?_) #[true, true, true, true, true, true, true, false, false, false, false, false, false, false, false, false] rfl rfl (any_of HT_.out (by kernel_rfl)) (fun _ _ _ h => h) (Or.inr ⟨by rfl, rfl⟩) ?_ ?_
              rotate_left
              · simp only [Act.put, List.setIfInBounds_toArray, List.set_cons_zero, List.set_cons_succ, i64_w, i32_w]
                rfl
              refine pure_ (i := 7) (N := some 71) (v := undef) (a' := ?_) #[true, true, true, true, true, true, true, true, false, false, false, false, false, false, false, false] rfl rfl (any_of HT_.out (by kernel_rfl)) (fun _ _ _ h => h) (Or.inr ⟨by rfl, rfl⟩) ?_ ?_
              rotate_left
              · simp only [Act.put, List.setIfInBounds_toArray, List.set_cons_zero, List.set_cons_succ, i64_w, i32_w]
                rfl
              refine pure_ (i := 8) (N := some 72) (v := undef) (a' := ?_) #[true, true, true, true, true, true, true, true, true, false, false, false, false, false, false, false] rfl rfl (any_of HT_.out (by kernel_rfl)) (fun _ _ _ h => h) (Or.inr ⟨by rfl, rfl⟩) ?_ ?_
              rotate_left
              · simp only [Act.put, List.setIfInBounds_toArray, List.set_cons_zero, List.set_cons_succ, i64_w, i32_w]
                rfl
              refine pure_ (i := 9) (N := some 73) (v := undef) (a' := ?_) #[true, true, true, true, true, true, true, true, true, true, false, false, false, false, false, false] rfl rfl (any_of HT_.out (by kernel_rfl)) (fun _ _ _ h => h) (Or.inr ⟨by rfl, rfl⟩) ?_ ?_
              rotate_left
              · simp only [Act.put, List.setIfInBounds_toArray, List.set_cons_zero, List.set_cons_succ, i64_w, i32_w]
                rfl
              refine pure_ (i := 10) (N := some 74) (v := undef) (a' := ?_) #[true, true, true, true, true, true, true, true, true, true, true, false, false, false, false, false] rfl rfl (any_of HT_.out (by kernel_rfl)) (fun _ _ _ h => h) (Or.inr ⟨by rfl, rfl⟩) ?_ ?_
              rotate_left
              · simp only [Act.put, List.setIfInBounds_toArray, List.set_cons_zero, List.set_cons_succ, i64_w, i32_w]
                rfl
              refine pure_ (i := 11) (N := some 75) (v := undef) (a' := ?_) #[true, true, true, true, true, true, true, true, true, true, true, true, false, false, false, false] rfl rfl (any_of HT_.out (by kernel_rfl)) (fun _ _ _ h => h) (Or.inr ⟨by rfl, rfl⟩) ?_ ?_
              rotate_left
              · simp only [Act.put, List.setIfInBounds_toArray, List.set_cons_zero, List.set_cons_succ, i64_w, i32_w]
                rfl
              refine pure_ (i := 12) (N := some 76) (v := undef) (a' := ?_) #[true, true, true, true, true, true, true, true, true, true, true, true, true, false, false, false] rfl rfl (any_of HT_.out (by kernel_rfl)) (fun _ _ _ h => h) (Or.inr ⟨by rfl, rfl⟩) ?_ ?_
              rotate_left
              · simp only [Act.put, List.setIfInBounds_toArray, List.set_cons_zero, List.set_cons_succ, i64_w, i32_w]
                rfl
              refine pure_ (i := 13) (N := some 77) (v := undef) (a' := ?_) #[true, true, true, true, true, true, true, true, true, true, true, true, true, true, false, false] rfl rfl (any_of HT_.out (by kernel_rfl)) (fun _ _ _ h => h) (Or.inr ⟨by rfl, rfl⟩) ?_ ?_
              rotate_left
              · simp only [Act.put, List.setIfInBounds_toArray, List.set_cons_zero, List.set_cons_succ, i64_w, i32_w]
                rfl
              refine pure_ (i := 14) (N := some 78) (v := undef) (a' := ?_) #[true, true, true, true, true, true, true, true, true, true, true, true, true, true, true, false] rfl rfl (any_of HT_.out (by kernel_rfl)) (fun _ _ _ h => h) (Or.inr ⟨by rfl, rfl⟩) ?_ ?_
              rotate_left
              · simp only [Act.put, List.setIfInBounds_toArray, List.set_cons_zero, List.set_cons_succ, i64_w, i32_w]
                rfl
              refine inv_at [15] (fun a0_ b a w' => a = putSel a0_ b [(15, 79, .bool true)] ∧ (w' = wd)) HT_.out HW_.out (by kernel_rfl) (by kernel_rfl) ?_ ?_ ?_
              · exact ⟨by simp only [putSel, Bool.false_eq_true, if_false], rfl⟩
              · skip
                clear E0
                refine steps_cons ?_ ?_
                · rintro b a w' ⟨ha, Q_E0⟩ hb_ hon hoff
                  refine ⟨_, rfl, fun K hK => ?_⟩
                  have e68 : a.tmps[68]? = some (.bool true) := by rw [ha]; exact (putSel_off rfl).trans rfl
                  have e78 : a.tmps[78]? = some (undef) := by rw [ha]; exact (putSel_off rfl).trans rfl
                  replace ha := Aside0.mk ha
                  have E0 := Aside0.mk Q_E0
                  refine value_ (w1 := w') (v := .bool true) (by rfl) rfl ?_ ?_
                  · go_simp
                    (try simp only [i64_w])
                    try rfl
                  refine hK.out _ _ ⟨(by rw [ha.out]; exact putSel_upk 0 hb_ rfl rfl rfl), Q_E0⟩
                exact steps_nil
              · rintro b a w' hall ⟨ha, Q_E0⟩
                clear E0
                have hb15_ := hall 15 (by kernel_rfl)
                subst ha
                simp only [putSel, hb15_, if_true, Act.put, List.setIfInBounds_toArray, List.set_cons_zero, List.set_cons_succ]
                have E0 := Aside0.mk Q_E0
                clear Q_E0
                clear hall hb15_
                go_wp2
                refine bodyPost_ret (results_tmp2 rfl _ _ _) rfl ?_
                have hR0 : R = ([], 5) := by
                  have hjl : j = L.length := by have := hjj.out; have := HJ.out.2.1; omega
                  have h3 := hst.out
                  rw [hjl, List.take_length] at h3
                  have hk1 : 1 ≤ k := by
                    rcases Nat.eq_zero_or_pos k with h | h
                    · have := (hp0.out h).2; have := hii.out; omega
                    · exact h
                  rw [HRES.out, h3]
                  have := hk.out
                  rcases k with _ | _ | _ | _ | k
                  · omega
                  · rfl
                  · rfl
                  · rfl
                  · omega
                rw [hR0]
                have hbz : Below w2.heap.size w2 w' := by rw [E0.out]; exact hBd.out.below
                exact ⟨none, 0, rfl, Nat.zero_le _, Kd.C_nil kP _, hB2.out.trans (below_lo hbz hB2.out.size)⟩
          · have hklb := eq_false hkl
            have hk : k = 4 := by have := hkk.out; have := HJ.out.1; omega
            subst hk
            obtain ⟨B1, d1, B2, d2, B3, d3, B4, d4, hb0, hb1, hb2, hb3, hb4, hD⟩ := hBx.out.done
            have hcs : ∀ u ∈ [Value.bool p.region, .slice B1 p.text.length d1, .slice B2 p.s0.length d2, .slice B3 p.s1.length d3, .slice B4 p.s2.length d4], u.oneCell' = true := by simp [Value.oneCell']
            replace hcs := Aside0.mk hcs
            replace hD := Aside0.mk hD
            go_wp2_with ((with_reducible refine gate_builtin (b := .append) (xs := #[.tmp 113, .tmp 115]) rfl ?_); at_builtin; go_must ((refine app_elem rfl (.tmp 113) (.tmp 115) 104 rfl Tryd.underlying27 inf44 (by decide) hD.out hps5.out m hm.out.symm p [.bool p.region, .slice B1 p.text.length d1, .slice B2 p.s0.length d2, .slice B3 p.s1.length d3, .slice B4 p.s2.length d4] rfl hcs.out (fun Z hZ => hZ _ List.mem_cons_self) rfl rfl ?_; intro A5 c5 w5 hI5; replace hI5 := Aside0.mk (AsI.less hI5))))
            go_roundg (L.length - j)
            case rel => exact ⟨_, jj, j, rfl, hjj, HJ.out.2.1, rfl, hst, ⟨sz_end hsz.out hsp.out (hp1.out (by decide))⟩, ⟨fun y' h1 h2 => .inr ⟨ps, p, rfl, hpr.out⟩⟩, hI5⟩
            case measure => have := hp1.out (by decide); have := HJ.out.2.1; have := HX.out.2.2.2.2.2; omega
    · have hi' : i = L.length := by have := hii.out; omega
      have hR0 : R = (ps, 0) := by
        have := hall.out
        rw [hi', List.take_length] at this
        rw [HRES.out, this]; rfl
      replace hR0 := Aside0.mk hR0
      obtain ⟨Ao, co, eo, hoc, hC⟩ := hI.out.out
      subst eo
      have HH := Aside0.mk (⟨hoc, hC, hI.out.below⟩ : _ ∧ _ ∧ _)
      clear hoc hC hi'
      go_wp2
      refine bodyPost_ret (results_tmp2 rfl _ _ _) rfl ?_
      rw [hR0.out]
      exact ⟨Ao, co, rfl, HH.out.1, HH.out.2.1, hB2.out.trans (below_lo HH.out.2.2 hB2.out.size)⟩
 · have hres : readOf n b = ([], 1) := by unfold readOf; rw [if_neg hn]
   obtain ⟨R, hR⟩ : ∃ R, readOf n b = R := ⟨_, rfl⟩
   rw [hR] at hres ⊢
   replace hres := Aside0.mk hres
   clear hR
   by_cases h1 : n < 1
   · have h1b := eq_true h1
     clear hn
     go_enter Tryd.func10, Tryd.ntmps10
     go_wp2
     refine bodyPost_ret (results_tmp2 rfl _ _ _) rfl ?_
     rw [hres.out]
     exact ⟨none, 0, rfl, Nat.zero_le _, Kd.C_nil kP _, Below.refl _ _⟩
   · have h1b := eq_false h1
     have h2 : 16777216 < n := by omega
     have h2b := eq_true h2
     clear hn
     go_enter Tryd.func10, Tryd.ntmps10
     go_wp2
     refine bodyPost_ret (results_tmp2 rfl _ _ _) rfl ?_
     rw [hres.out]
     exact ⟨none, 0, rfl, Nat.zero_le _, Kd.C_nil kP _, Below.refl _ _⟩
end Go.Proofs.YtnnnbeimehfiiaaDoor.Q

-- Written by a program of this session (wip/gen_same.py) for this claim; Lean checks it.
/-! scarfref18.Same at two slices that hold the same parts: true. -/
set_option linter.unusedVariables false
set_option linter.unusedSimpArgs false
namespace Go.Proofs.YtnnnbeimehfiiaaDoor.Q
open Go Go.RowKit Go.BigFrame Go.Proofs.YtnnnbeimehfiiaaDoorW.PrintWords Go.Proofs.YtnnnbeimehfiiaaDoorW.PrintLast Go.Proofs.YtnnnbeimehfiiaaDoorW.PrintMore Go.Proofs.YtnnnbeimehfiiaaDoorW.SL
set_option maxHeartbeats 16000000 in
set_option maxRecDepth 100000 in
theorem same_calls (A B : Option Addr) (c d : Nat) (xs : List Pt) (w : World) (hx : Kd.C kP w A xs.length xs) (hy : Kd.C kP w B xs.length xs) :
    Calls Tryd.prog 12 #[.slice A xs.length c, .slice B xs.length d] w fun e w' => e = .returned (.bool true) ∧ Below w.heap.size w w' := by
  have HX := Aside0.mk (Kd.C_F kP_heap hx)
  have HY := Aside0.mk (Kd.C_F kP_heap hy)
  clear hx hy
  go_enter Tryd.func12, Tryd.ntmps12
  go_wp2
  go_loopg [5] xs.length (fun kq v5 w'' => ∃ (ii : Int) (i : Nat), v5 = .int .i64 ii ∧ Aside0 (ii = (i : Int)) ∧ i ≤ xs.length ∧ kq = xs.length - i ∧ Below w.heap.size w w'')
  case atStart => exact ⟨0, 0, rfl, ⟨rfl⟩, Nat.zero_le _, rfl, Below.refl _ _⟩
  case round =>
    obtain ⟨ii, i, rfl, hii, hi, hgk, hb⟩ := hrel
    obtain ⟨wb, rfl⟩ : ∃ q, q = wr := ⟨_, rfl⟩
    by_cases hin : ii < (xs.length : Int)
    · have p0 : 0 ≤ ii := by have := hii.out; omega
      have HB := Aside0.mk hb
      obtain ⟨ad, x, A1, c1, A2, c2, A3, c3, A4, c4, rfl, hxi, hok, hx0, hx1, hx2, hx3, hx4, g1, g2, g3, g4⟩ := at_Pt (Kd.F_step HX.out (fun k hk _ => hb.block k hk)) ii p0 hin
      obtain ⟨bd, y, B1, d1, B2, d2, B3, d3, B4, d4, rfl, hyi, hok2, hy0, hy1, hy2, hy3, hy4, k1, k2, k3, k4⟩ := at_Pt (Kd.F_step HY.out (fun k hk _ => hb.block k hk)) ii p0 hin
      have exy : y = x := by rw [hxi] at hyi; exact (Option.some.inj hyi).symm
      subst exy
      have HXY := Aside0.mk (⟨hxi, hi, hgk⟩ : _ ∧ _ ∧ _)
      clear hxi hyi hi hgk hok hok2 hb
      have hcx1 := fun n => Kd.C_string (P := Tryd.prog) (w := wb.drewN n) (A := A1) (c := c1) Tryd.underlying22 Tryd.underlying5 Tryd.underlying9 (Kd.F_now (Kd.F_drewN g1.2 n))
      have hcy1 := fun n => Kd.C_string (P := Tryd.prog) (w := wb.drewN n) (A := B1) (c := d1) Tryd.underlying22 Tryd.underlying5 Tryd.underlying9 (Kd.F_now (Kd.F_drewN k1.2 n))
      have hcx2 := fun n => Kd.C_string (P := Tryd.prog) (w := wb.drewN n) (A := A2) (c := c2) Tryd.underlying22 Tryd.underlying5 Tryd.underlying9 (Kd.F_now (Kd.F_drewN g2.2 n))
      have hcy2 := fun n => Kd.C_string (P := Tryd.prog) (w := wb.drewN n) (A := B2) (c := d2) Tryd.underlying22 Tryd.underlying5 Tryd.underlying9 (Kd.F_now (Kd.F_drewN k2.2 n))
      have hcx3 := fun n => Kd.C_string (P := Tryd.prog) (w := wb.drewN n) (A := A3) (c := c3) Tryd.underlying22 Tryd.underlying5 Tryd.underlying9 (Kd.F_now (Kd.F_drewN g3.2 n))
      have hcy3 := fun n => Kd.C_string (P := Tryd.prog) (w := wb.drewN n) (A := B3) (c := d3) Tryd.underlying22 Tryd.underlying5 Tryd.underlying9 (Kd.F_now (Kd.F_drewN k3.2 n))
      have hcx4 := fun n => Kd.C_string (P := Tryd.prog) (w := wb.drewN n) (A := A4) (c := c4) Tryd.underlying22 Tryd.underlying5 Tryd.underlying9 (Kd.F_now (Kd.F_drewN g4.2 n))
      have hcy4 := fun n => Kd.C_string (P := Tryd.prog) (w := wb.drewN n) (A := B4) (c := d4) Tryd.underlying22 Tryd.underlying5 Tryd.underlying9 (Kd.F_now (Kd.F_drewN k4.2 n))
      obtain ⟨rx, hrx⟩ : ∃ q, y.region = q := ⟨_, rfl⟩
      rw [hrx] at hx0 hy0
      replace hrx := Aside0.mk hrx
      clear g1 g2 g3 g4 k1 k2 k3 k4
      have hin2 := eq_true hin
      have p02 := eq_true p0
      go_upto_region 6 with (fail)
      simp only [List.append_eq, List.cons_append, List.nil_append]
      go_big_quiet (fail)
      have hbq : Below w.heap.size w (wb.drewN nq) := HB.out.trans (pw_below_drewN (Below.refl _ _) nq)
      obtain ⟨wq, hwq⟩ : ∃ q, wb.drewN nq = q := ⟨_, rfl⟩
      rw [hwq] at hbq ⊢
      obtain ⟨_, hi, hgk⟩ := HXY.out
      have hw1 : wrap64 (ii + 1) = ii + 1 := by have := Kd.F_max HX.out; unfold wrap64; omega
      go_wp2
      go_roundg (xs.length - (i + 1))
      case rel => exact ⟨wrap64 (ii + 1), i + 1, by first | rfl | (simp; done) | (simp [hw1]; done), ⟨by rw [hw1]; have := hii.out; omega⟩, by have := hii.out; omega, rfl, hbq⟩
      case measure => have := hii.out; omega
    · have hi' : i = xs.length := by have := hii.out; omega
      go_wp2
      go_ret
      exact ⟨rfl, hb⟩
end Go.Proofs.YtnnnbeimehfiiaaDoor.Q

/-! mark's page: what lies in it; its methods. -/
set_option linter.unusedVariables false
set_option linter.unusedSimpArgs false
namespace Go.Proofs.YtnnnbeimehfiiaaDoor.Q
open Go Go.RowKit Go.Proofs.YtnnnbeimehfiiaaDoorW.PrintWords Go.Proofs.YtnnnbeimehfiiaaDoorW.PrintLast Go.Proofs.YtnnnbeimehfiiaaDoorW.PrintMore Go.Proofs.YtnnnbeimehfiiaaDoorW.SL
attribute [local go_sem] max2_int min2_int max_two min_two max_three min_three max_four min_four
/-- A page in block b (of the call's own, from B on) that holds the bytes l. -/
def Pg (B b : Nat) (l : List Int) (w : World) : Prop := LibA.IsBuffer 73 (fun _ => none) 5 B b 0 (l.map (Value.int .u8)) w
theorem us_one (l : List Int) : ∀ v ∈ l.map (Value.int .u8), v.oneCell' = true := fun v hv => by obtain ⟨_, _, rfl⟩ := List.mem_map.1 hv; rfl
/-- What a page's method leaves as it was. -/
def Pk (B b : Nat) (w w' : World) : Prop := Below B w w' ∧ Lib.OthersKept 5 (some b) w w'
theorem Pk.refl (B b : Nat) (w : World) : Pk B b w w := ⟨Below.refl _ _, Lib.OthersKept.refl _ _ _⟩
theorem Pk.trans {B b : Nat} {w w1 w2 : World} (h : Pk B b w w1) (k : Pk B b w1 w2) : Pk B b w w2 := ⟨h.1.trans k.1, h.2.trans k.2⟩
theorem Pg.below {B b : Nat} {l : List Int} {w w' : World} (h : Pg B b l w) (hb : Below w.heap.size w w') : Pg B b l w' := by
  obtain ⟨hB, v, lr, h3, ho, hn⟩ := h
  have hlt := h3.lt
  exact ⟨hB, v, lr, h3.of_heap (hb.block b hlt), own_move ho (fun k hk => hb.block k (own_lt ho k hk)), hn⟩
theorem Pk.below {B b : Nat} {w w1 w2 : World} (h : Pk B b w w1) (hB : B ≤ w1.heap.size) (hb : Below w1.heap.size w1 w2) : Pk B b w w2 :=
  ⟨h.1.trans (below_lo hb hB), fun k o hk hb2 ho => by
    have h1 := h.2 k o hk hb2 ho
    rw [hb.block k (Array.getElem?_eq_some_iff.1 h1).1]; exact h1⟩
theorem drewN_below {w w' : World} (h : ∃ n, w' = w.drewN n) : Below w.heap.size w w' := by obtain ⟨n, rfl⟩ := h; exact pw_below_drewN (Below.refl _ _) n
set_option maxHeartbeats 4000000 in
set_option maxRecDepth 100000 in
/-- (*bytes.Buffer).Write at a page. -/
theorem pg_write (B b : Nat) (l x : List Int) (A : Option Addr) (c : Nat) (w : World) (h : Pg B b l w) (hBw : B ≤ w.heap.size) (hx : Kd.C B8 w A x.length x) (hA : x ≠ [] → ∀ a, A = some a → a.block ≠ b) (hlim : l.length + x.length ≤ 140737488355328) :
    Calls Tryd.prog 34 #[.pointer (some ⟨b, 0, none⟩), .slice A x.length c] w fun e w' => e = .returned (.tuple #[.int .i64 (x.length : Int), .nilIface]) ∧ Pg B b (l ++ x) w' ∧ Pk B b w w' := by
  by_cases hx0 : x ≠ []
  · obtain ⟨a, rfl, _⟩ := hx.2.2 (by cases x with | nil => exact absurd rfl hx0 | cons _ _ => simp)
    replace hA := hA hx0
    refine (Any.Buffer_Write_at Tryd.lays180 73 (fun _ => none) B b 0 (l.map (Value.int .u8)) (x.map (Value.int .u8)) a x.length c w h hBw (us_one l) (by simp) (hA a rfl) (fun j v hj => ?_) (us_one x) (by simpa using hlim)).mono ?_
    · have hjl : j < x.length := by have := (List.getElem?_eq_some_iff.1 hj).1; simpa using this
      obtain ⟨ad', he, hc⟩ := Kd.at_int hx (j : Int) (by omega) (by omega)
      injection he with he
      subst he
      simp only [Int.toNat_natCast] at hc
      rw [hc, ← hj, rd_get hjl]
      simp [List.getElem?_eq_getElem hjl]
    · rintro e w' ⟨rfl, h1, h2, h3⟩
      exact ⟨rfl, by unfold Pg; rw [List.map_append]; exact h1, h2, h3⟩
  · have hx0 : x = [] := Classical.not_not.1 hx0
    subst hx0
    obtain ⟨hB, v0, lr, hbk, -, -⟩ := id h
    have c2 : w.cell? ⟨b, 0 + 2, none⟩ = some (.int .i8 lr) := hbk.c2
    have f2 : w.frozen? ⟨b, 0 + 2, none⟩ = false := hbk.f (0 + 2)
    have h' := LibA.IsBuffer.setLast h 0
    have hbel0 : Below B w (w.setCell ⟨b, 0 + 2, none⟩ (.int .i8 0)) := (Below.refl B w).setCell (p := ⟨b, 0 + 2, none⟩) hB _
    have hk0 : Lib.OthersKept 5 (some b) w (w.setCell ⟨b, 0 + 2, none⟩ (.int .i8 0)) := (Lib.OthersKept.refl _ _ w).setCell ⟨b, 0 + 2, none⟩ rfl _
    clear hbk v0
    have hinfo : (Tryd.prog.info? 5).map (·.size) = some 1 := by kernel_rfl
    have hce : ∀ d dLen dCap W c, (Builtin.copy_ #[22, 22] 3 #[.slice d dLen dCap, .slice A 0 c]).run Tryd.prog W = .ok (goInt 0) W := fun d dLen dCap W c => run_copy_none W 22 22 3 5 d A dLen dCap 0 c Tryd.underlying22 hinfo (by simp)
    replace hlim := Aside0.mk hlim
    replace hA := Aside0.mk hA
    replace hx := Aside0.mk hx
    simp only [Nat.zero_add] at *
    go_enter Tryd.func34, Tryd.ntmps34
    go_wp2_with (go_at_call 49; refine (Any.Buffer_tryGrow_at { Tryd.lays180 with } 73 (fun _ => none) B b 0 0 (l.map (Value.int .u8)) _ ?_).mono ?_)
    · exact h'
    rintro e W1 (⟨rfl, xs, hxl, hI, hbel, hk, hg⟩ | ⟨rfl, rfl, hnr⟩)
    · clear h' c2 f2
      have hx0 : xs = [] := List.eq_nil_of_length_eq_zero hxl
      subst hx0
      rw [List.append_nil] at hI
      have hI2 : Pg B b l W1 := hI
      replace hI2 := Aside0.mk hI2
      have hk2 : Pk B b w W1 := ⟨hbel0.trans hbel, hk0.trans hk⟩
      replace hk2 := Aside0.mk hk2
      obtain ⟨-, lr2, hc⟩ := hI.cases
      clear hI hk hbel hg
      rcases hc with ⟨hb0, hbk2⟩ | ⟨g, cap, cur, hbk2, -, -, hnc, hcm, -, -, -⟩
      · have hl0 : l = [] := by simpa using hb0
        subst hl0
        have d0 : W1.cell? ⟨b, 0, none⟩ = some (.slice none 0 0) := hbk2.c0
        go_wp2
        go_ret2
        exact ⟨by first | rfl | simp, by simpa using hI2.out, hk2.out⟩
      · rw [List.length_map] at hbk2 hnc
        have d0 : W1.cell? ⟨b, 0, none⟩ = some (.slice (some ⟨g, 0, none⟩) l.length cap) := hbk2.c0
        unfold maxLen at hcm
        go_wp2
        all_goals (go_ret2; exact ⟨by first | rfl | simp, by simpa using hI2.out, hk2.out⟩)
    · obtain ⟨_, _, _, _, hlt⟩ := hnr
      omega
/-- A string's bytes. -/
def sb (s : ByteArray) : List Int := s.data.toList.map bnum
theorem sb_cells (s : ByteArray) : Lib.byteCells s.data.toList = (sb s).map (Value.int .u8) := by simp [Lib.byteCells, sb, bnum]
theorem sb_len (s : ByteArray) : (sb s).length = s.size := by simp [sb]
theorem pg_str (B b : Nat) (l : List Int) (s : ByteArray) (w : World) (h : Pg B b l w) (hBw : B ≤ w.heap.size) (hlim : l.length + s.size ≤ 140737488355328) :
    Calls Tryd.prog 54 #[.pointer (some ⟨b, 0, none⟩), .string s] w fun e w' => e = .returned (.tuple #[.int .i64 (s.size : Int), .nilIface]) ∧ Pg B b (l ++ sb s) w' ∧ Pk B b w w' := by
  refine (Any.Buffer_WriteString_at Tryd.lays178 73 (fun _ => none) B b 0 (l.map (Value.int .u8)) s w h hBw (us_one l) (by simpa using hlim)).mono ?_
  rintro e w' ⟨rfl, h1, h2, h3⟩
  exact ⟨rfl, by unfold Pg; rw [List.map_append, ← sb_cells]; exact h1, h2, h3⟩
theorem pg_byte (B b : Nat) (l : List Int) (x : Int) (w : World) (h : Pg B b l w) (hBw : B ≤ w.heap.size) (hlim : l.length + 1 ≤ 140737488355328) :
    Calls Tryd.prog 53 #[.pointer (some ⟨b, 0, none⟩), .int .u8 x] w fun e w' => e = .returned .nilIface ∧ Pg B b (l ++ [x]) w' ∧ Pk B b w w' := by
  refine (Any.Buffer_WriteByte_at Tryd.lays179 73 (fun _ => none) B b 0 (l.map (Value.int .u8)) x w h hBw (us_one l) (by simpa using hlim)).mono ?_
  rintro e w' ⟨rfl, h1, h2, h3⟩
  exact ⟨rfl, by unfold Pg; rw [List.map_append]; exact h1, h2, h3⟩
theorem pg_len (B b : Nat) (l : List Int) (w : World) (h : Pg B b l w) :
    Calls Tryd.prog 51 #[.pointer (some ⟨b, 0, none⟩)] w fun e w' => e = .returned (.int .i64 (l.length : Int)) ∧ Below w.heap.size w w' := by
  refine (Any.Buffer_Len_at Tryd.lays181 73 (fun _ => none) B b 0 (l.map (Value.int .u8)) w h).mono ?_
  rintro e w' ⟨rfl, h1⟩
  exact ⟨by rw [List.length_map], drewN_below h1⟩
set_option maxHeartbeats 4000000 in
set_option maxRecDepth 100000 in
theorem pg_bytes (B b : Nat) (l : List Int) (w : World) (h : Pg B b l w) :
    Calls Tryd.prog 52 #[.pointer (some ⟨b, 0, none⟩)] w fun e w' => ∃ A c, e = .returned (.slice A l.length c) ∧ l.length ≤ c ∧ Kd.C B8 w' A l.length l ∧ Below w.heap.size w w' := by
  obtain ⟨hB, v, lr, h3, ho, hn⟩ := h
  obtain ⟨A, c, rfl, hc, hF⟩ := ownF_F (w := w) (Z := fun _ => True) (v := v) (xs := l) ⟨fun _ _ => trivial, by have := own_weaken ho (Nat.zero_le _); simpa [us8] using this⟩
  have hC : ∀ n, Kd.C B8 (w.drewN n) A l.length l := fun n => Kd.C_below (Kd.F_now hF) (pw_below_drewN (Below.refl _ _) n)
  have hC1 : Kd.C B8 w.drew A l.length l := Kd.C_below (Kd.F_now hF) (below_drew1 (Below.refl _ _))
  have hmx : c ≤ 9223372036854775807 := by
    rcases ho.2 with ⟨h1, _⟩ | ⟨g, cap, cur, h1, _, _, _, hcm, _⟩
    · injection h1 with _ _ h1; omega
    · injection h1 with _ _ h1; simp only [maxLen] at hcm; omega
  have c0 : w.cell? ⟨b, 0, none⟩ = some (.slice A l.length c) := h3.c0
  have c1 : w.cell? ⟨b, 1, none⟩ = some (.int .i64 0) := h3.c1
  have mixed := Tryd.lays183.mixed
  have HC := Aside0.mk (⟨hc, hC, hC1⟩ : _ ∧ _ ∧ _)
  have hcl : (l.length : Int) ≤ (c : Int) := by omega
  clear hF ho h3 hn hC hC1 hc
  cases A with
  | none =>
    go_enter Tryd.func52, Tryd.ntmps52
    go_wp2
    go_region_o
    all_goals (go_wp2; go_ret; first | exact ⟨_, _, rfl, HC.out.1, HC.out.2.2, below_drew1 (Below.refl _ _)⟩ | exact ⟨_, _, rfl, HC.out.1, by have := HC.out.2.2; simpa using this, below_drew1 (Below.refl _ _)⟩)
  | some a =>
    go_enter Tryd.func52, Tryd.ntmps52
    go_wp2
    go_region_o
    all_goals (go_wp2; go_ret; first | exact ⟨_, _, rfl, HC.out.1, HC.out.2.2, below_drew1 (Below.refl _ _)⟩ | exact ⟨_, _, rfl, HC.out.1, by have := HC.out.2.2; simpa using this, below_drew1 (Below.refl _ _)⟩)
theorem Tryd.Builder_Extra_105 : Builder.Extra Tryd.prog Tryd.lays105_ren := {
  sizeBuilder := by kernel_rfl
  liesBuilder := by kernel_rfl
  t5 := Tryd.underlying5
  a5 := Tryd.isAgg5
  z5 := Tryd.sizeOf5
  v5 := Tryd.zeroValue5
  infoByte := by kernel_rfl
  cellsByte := by kernel_rfl
  sizeByte := by kernel_rfl
  neB5 := by decide }
/-- strings.Repeat of one byte. -/
theorem rep_calls (x : UInt8) (n : Nat) (w : World) (hn : n ≤ 16777216) : Calls Tryd.prog 55 #[.string ⟨#[x]⟩, .int .i64 (n : Int)] w fun e w' => e = .returned (.string ⟨(List.replicate n x).toArray⟩) ∧ Below w.heap.size w w' := by
  refine (Any.strings_Repeat Tryd.lays105 Tryd.Builder_Extra_105 ⟨#[x]⟩ n w (by omega) (by show 1 * n ≤ _; omega)).mono ?_
  rintro e w' ⟨rfl, h⟩
  refine ⟨?_, h⟩
  have : ∀ k, Lib.repeatL [x] k = List.replicate k x := fun k => by
    induction k with
    | zero => rfl
    | succ k ih => show [x] ++ Lib.repeatL [x] k = _; rw [ih]; rfl
  rw [← this]
end Go.Proofs.YtnnnbeimehfiiaaDoor.Q

-- Written by a program of this session (wip/gen_pg.py) for this claim; Lean checks it.
/-! mark's page: shut, lines, marker, out, walked. -/
set_option linter.unusedVariables false
set_option linter.unusedSimpArgs false
namespace Go.Proofs.YtnnnbeimehfiiaaDoor.Q
open Go Go.RowKit Go.Proofs.YtnnnbeimehfiiaaDoorW.PrintWords Go.Proofs.YtnnnbeimehfiiaaDoorW.PrintLast Go.Proofs.YtnnnbeimehfiiaaDoorW.PrintMore Go.Proofs.YtnnnbeimehfiiaaDoorW.SL
attribute [local go_sem] max2_int min2_int max_two min_two max_three min_three max_four min_four
def mmark.T0 : Bool × List (List Nat × List Nat) := (true, [([], []), ([0], [0]), ([1], [1]), ([], []), ([], []), ([3, 4], [3, 4]), ([2, 5, 5], [2, 5])])
def mmark.B0 : List Nat := [0, 1, 3, 0, 0, 24, 63]
theorem mmark.tab0 : rtab .any (opsOf Tryd.f36 0) = mmark.T0 := by kernel_rfl
theorem mmark.bits0 : waitsOk mmark.T0.2 mmark.B0 = true := by kernel_rfl
/-- A newline behind the last line, if it lacks one. -/
def endNl (l : List Int) : List Int := match l.getLast? with | some x => if x = 10 then l else l ++ [10] | none => []
theorem endNl_nil : endNl [] = [] := rfl
theorem endNl_snoc (r : List Int) (x : Int) : endNl (r ++ [x]) = if x = 10 then r ++ [x] else r ++ [x] ++ [10] := by simp [endNl]
theorem last_C {w : World} {A : Option Addr} {r : List Int} {x : Int} (h : Kd.C B8 w A (r ++ [x]).length (r ++ [x])) : ∃ ad, A = some ad ∧ w.cell? (ad.add r.length) = some (.int .u8 x) := by
  obtain ⟨ad, hA, hc⟩ := Kd.at_int h (r.length : Int) (by omega) (by simp; omega)
  refine ⟨ad, hA, ?_⟩
  simp only [Int.toNat_natCast] at hc
  rw [hc, rd_get (by simp)]
  simp
theorem Pk.of_below {B b : Nat} {w w' : World} (hB : B ≤ w.heap.size) (h : Below w.heap.size w w') : Pk B b w w' := (Pk.refl B b w).below hB h
theorem Pg.lt {B b : Nat} {l : List Int} {w : World} (h : Pg B b l w) : b < w.heap.size := LibA.IsBuffer.lt h
theorem Pk.size {B b : Nat} {w w' : World} (h : Pk B b w w') : w.heap.size ≤ w'.heap.size := h.1.size
set_option maxHeartbeats 8000000 in
set_option maxRecDepth 100000 in
theorem shut_calls (B b : Nat) (l : List Int) (w : World) (h : Pg B b l w) (hBw : B ≤ w.heap.size) (hlim : l.length + 1 ≤ 140737488355328) :
    Calls Tryd.prog 35 #[.pointer (some ⟨b, 0, none⟩)] w fun e w' => e = .returned (.tuple #[]) ∧ Pg B b (endNl l) w' ∧ Pk B b w w' := by
  rcases List.eq_nil_or_concat l with rfl | ⟨r, x, hl⟩
  · have H := Aside0.mk h; have HB := Aside0.mk hBw
    clear h hBw hlim
    rw [endNl_nil]
    go_enter Tryd.func35, Tryd.ntmps35
    go_wp2_with (go_at_call 51; refine (pg_len B b [] w H.out).mono ?_; rintro e w1 ⟨rfl, hb1⟩)
    (try simp only [Exit.inBlock, Exit.then])
    refine bodyPost_end (results_none rfl _ _ _) rfl ?_
    exact ⟨rfl, H.out.below hb1, Pk.of_below HB.out hb1⟩
  · have hl2 : l = r ++ [x] := by simpa using hl
    subst hl2
    clear hl
    have hln : (r ++ [x]).length = r.length + 1 := by simp
    have hpos := eq_true (show (0 : Int) < (r.length : Int) + 1 by omega)
    have hw0 : wrap64 (r.length : Int) = (r.length : Int) := by rw [hln] at hlim; unfold wrap64; omega
    have hlt := eq_true (show (r.length : Int) < (r.length : Int) + 1 by omega)
    have LEN : ∀ W, Pg B b (r ++ [x]) W → Calls Tryd.prog 51 #[.pointer (some ⟨b, 0, none⟩)] W fun e w' => e = .returned (.int .i64 ((r.length + 1 : Nat) : Int)) ∧ Below W.heap.size W w' := fun W hW => by
      have := pg_len B b (r ++ [x]) W hW; rwa [hln] at this
    have BYT : ∀ W, Pg B b (r ++ [x]) W → Calls Tryd.prog 52 #[.pointer (some ⟨b, 0, none⟩)] W fun e w' => ∃ ad c, e = .returned (.slice (some ad) (r.length + 1) c) ∧ w'.cell? (ad.add r.length) = some (.int .u8 x) ∧ Below W.heap.size W w' := fun W hW => by
      refine (pg_bytes B b (r ++ [x]) W hW).mono ?_
      rintro e w' ⟨A, c, rfl, hc, hC, hb⟩
      obtain ⟨ad, rfl, hx⟩ := last_C hC
      exact ⟨ad, c, by rw [hln], hx, hb⟩
    have H := Aside0.mk h; have HB := Aside0.mk hBw; have HL := Aside0.mk hlim
    replace LEN := Aside0.mk LEN; replace BYT := Aside0.mk BYT
    clear h hBw hlim hln
    rw [endNl_snoc]
    by_cases hx10 : x = 10
    · subst hx10
      rw [if_pos rfl]
      go_enter Tryd.func35, Tryd.ntmps35
      go_wp2_with (first | (go_at_call 51; refine (LEN.out w H.out).mono ?_; rintro e w1 ⟨rfl, hb1⟩; have H1 := H.out.below hb1) | (go_at_call 52; refine (BYT.out w1 H1).mono ?_; rintro e w2 ⟨ad, c, rfl, hx, hb2⟩; have hb := hb1.trans (below_lo hb2 hb1.size)))
      (try simp only [Exit.inBlock, Exit.then])
      refine bodyPost_end (results_none rfl _ _ _) rfl ?_
      exact ⟨rfl, H.out.below hb, Pk.of_below HB.out hb⟩
    · rw [if_neg hx10]
      have hne := eq_false hx10
      have hbf : (x == 10) = false := by rw [beq_eq_false_iff_ne]; exact hx10
      go_enter Tryd.func35, Tryd.ntmps35
      go_wp2_with (first | (go_at_call 51; refine (LEN.out w H.out).mono ?_; rintro e w1 ⟨rfl, hb1⟩; have H1 := H.out.below hb1) | (go_at_call 52; refine (BYT.out w1 H1).mono ?_; rintro e w2 ⟨ad, c, rfl, hx, hb2⟩; have hb := hb1.trans (below_lo hb2 hb1.size)) | (go_at_call 53; refine (pg_byte B b (r ++ [x]) 10 w2 (H.out.below hb) (Nat.le_trans HB.out hb.size) HL.out).mono ?_; rintro e w3 ⟨rfl, hp3, hk3⟩))
      (try simp only [Exit.inBlock, Exit.then])
      refine bodyPost_end (results_none rfl _ _ _) rfl ?_
      exact ⟨rfl, hp3, (Pk.of_below HB.out hb).trans hk3⟩
set_option maxHeartbeats 8000000 in
set_option maxRecDepth 100000 in
theorem lines_calls (B b : Nat) (l x : List Int) (A : Option Addr) (c : Nat) (w : World) (h : Pg B b l w) (hBw : B ≤ w.heap.size) (hx : Kd.C B8 w A x.length x) (hA : x ≠ [] → ∀ a, A = some a → a.block ≠ b) (hlim : l.length + x.length + 1 ≤ 140737488355328) :
    Calls Tryd.prog 37 #[.pointer (some ⟨b, 0, none⟩), .slice A x.length c] w fun e w' => e = .returned (.tuple #[]) ∧ Pg B b (endNl (l ++ x)) w' ∧ Pk B b w w' := by
  have H := Aside0.mk h; have HB := Aside0.mk hBw; have HL := Aside0.mk hlim; have HX := Aside0.mk hx; have HA := Aside0.mk hA
  clear h hBw hlim hx hA
  go_enter Tryd.func37, Tryd.ntmps37
  go_wp2_with (first | (go_at_call 34; refine (pg_write B b l x A c w H.out HB.out HX.out HA.out (by have := HL.out; omega)).mono ?_; rintro e w1 ⟨rfl, hp1, hk1⟩) | (go_at_call 35; refine (shut_calls B b (l ++ x) w1 hp1 (Nat.le_trans HB.out hk1.size) (by have := HL.out; simp; omega)).mono ?_; rintro e w2 ⟨rfl, hp2, hk2⟩))
  (try simp only [Exit.inBlock, Exit.then])
  refine bodyPost_end (results_none rfl _ _ _) rfl ?_
  exact ⟨rfl, hp2, hk1.trans hk2⟩
set_option maxHeartbeats 8000000 in
set_option maxRecDepth 100000 in
/-- bytes.Clone. -/
theorem bclone_calls (A : Option Addr) (c : Nat) (xs : List Int) (w : World) (hl : xs.length ≤ 140737488355328) (hr : Kd.C B8 w A xs.length xs) :
    Calls Tryd.prog 56 #[.slice A xs.length c] w fun e w' => ∃ A' c', e = .returned (.slice A' xs.length c') ∧ xs.length ≤ c' ∧ Kd.C B8 w' A' xs.length xs ∧ Below w.heap.size w w' := by
  obtain ⟨i0, hi, hz0, hz1, hz2⟩ := info_parts inf5
  have q22 : ∀ (w : World) (a : Option Addr) (n c n' c' : Nat), (binOp .eql 22 (.slice a n c) (.slice none n' c')).run Tryd.prog w = .ok (.bool a.isNone) w := fun w a n c n' c' => Lib.run_eql_slice_nil w _ _ a n c n' c' Tryd.underlying22
  have HR := Aside0.mk hr
  have HL := Aside0.mk hl
  clear hr hl
  cases A with
  | none =>
    have hx0 : xs = [] := by
      cases xs with
      | nil => rfl
      | cons y r => obtain ⟨a, ha, _⟩ := HR.out.2.2 (by simp); cases ha
    subst hx0
    go_enter Tryd.func56, Tryd.ntmps56
    go_wp2
    go_ret
    exact ⟨none, 0, rfl, Nat.le_refl _, HR.out, Below.refl _ _⟩
  | some ad =>
    go_enter Tryd.func56, Tryd.ntmps56
    go_wp2_with (at_builtin; refine wpList_append_own _ rfl _ _ 22 rfl w.heap.size 5 i0 (.int .u8 0) 1 1 Tryd.underlying22 hi hz0 hz1 hz2 rfl (by decide) _ _ _ rfl (World.ownsRow_made w #[] 0 (Nat.le_refl _) (Nat.zero_le _) rfl) ad xs.length c (xs.map (Value.int .u8)) rfl ?qc1 ?qc2 ?qc3 ?qc4 ?qc5 ?qc6 ?_)
    case qc1 => simp
    case qc2 =>
      intro j u hj
      have hjl : j < xs.length := by
        have := (List.getElem?_eq_some_iff.1 hj).1
        simpa using this
      refine Lib.cell?_alloc_some _ ?_
      obtain ⟨ad', he, hc⟩ := Kd.at_int HR.out (j : Int) (by omega) (by omega)
      injection he with he
      subst he
      simp only [Int.toNat_natCast] at hc
      rw [hc, ← hj]
      simp [rd, List.getD_eq_getElem?_getD, List.getElem?_eq_getElem hjl]
    case qc3 => intro u hu; obtain ⟨x, _, rfl⟩ := List.mem_map.1 hu; rfl
    case qc4 => have := HL.out; unfold maxLen; omega
    case qc5 => have := HL.out; omega
    case qc6 => simp
    intro v' w1 hown hgrow hnil
    have hB := Aside0.mk (((Below.refl _ w).alloc (Nat.le_refl _) _).grown hgrow (by simp) (by intro k hk; simp [Value.ownBlock] at hk; omega))
    obtain ⟨A', c', rfl, hc', hF⟩ := ownF_F (w := w1) (Z := fun _ => True) (v := v') (xs := xs) ⟨fun _ _ => trivial, by have := own_weaken hown (Nat.zero_le _); simpa [us8] using this⟩
    replace hF := Aside0.mk hF
    clear hown hgrow hnil
    go_wp2
    go_ret
    exact ⟨A', c', rfl, hc', Kd.F_now hF.out, hB.out⟩
set_option maxHeartbeats 8000000 in
set_option maxRecDepth 100000 in
theorem out_calls (B b : Nat) (l : List Int) (w : World) (h : Pg B b l w) (hlim : l.length ≤ 140737488355328) :
    Calls Tryd.prog 38 #[.pointer (some ⟨b, 0, none⟩)] w fun e w' => ∃ A' c', e = .returned (.slice A' l.length c') ∧ l.length ≤ c' ∧ Kd.C B8 w' A' l.length l ∧ Below w.heap.size w w' := by
  have H := Aside0.mk h; have HL := Aside0.mk hlim
  clear h hlim
  go_enter Tryd.func38, Tryd.ntmps38
  go_wp2_with (first | (go_at_call 52; refine (pg_bytes B b l w H.out).mono ?_; rintro e w1 ⟨A, c, rfl, hc, hC, hb1⟩; replace hC := Aside0.mk hC) | (go_at_call 56; refine (bclone_calls A c l w1 HL.out hC.out).mono ?_; rintro e w2 ⟨A2, c2, rfl, hc2, hC2, hb2⟩; have HH := Aside0.mk (⟨hc2, hC2, hb1.trans (below_lo hb2 hb1.size)⟩ : _ ∧ _ ∧ _); clear hc2 hC2 hc))
  go_ret
  exact ⟨A2, c2, rfl, HH.out.1, HH.out.2.1, HH.out.2.2⟩
def repB (x : UInt8) (n : Nat) : ByteArray := ⟨(List.replicate n x).toArray⟩
theorem sb_rep (x : UInt8) (n : Nat) : sb (repB x n) = List.replicate n (bnum x) := by simp [sb, repB]
theorem sb_app (a b : ByteArray) : sb (a ++ b) = sb a ++ sb b := by simp [sb]
/-- A marker's line. -/
def mkLine (x : UInt8) (n : Nat) (s : ByteArray) : List Int := List.replicate n (bnum x) ++ (if labB s = ⟨#[]⟩ then [] else 32 :: sb (labB s)) ++ [10]
theorem labB_size (s : ByteArray) : (labB s).size ≤ 200 := by
  show (Lib.trimRightB ((s.data.toList.take 200).map fixC) 32).toArray.size ≤ 200
  have h1 : ∀ (l : List UInt8) (c : UInt8), (Lib.trimRightB l c).length ≤ l.length := fun l c => by
    unfold Lib.trimRightB
    rw [List.length_reverse]
    exact Nat.le_trans (List.dropWhile_sublist _).length_le (by simp)
  rw [List.size_toArray]
  refine Nat.le_trans (h1 _ _) ?_
  rw [List.length_map, List.length_take]
  omega
set_option maxHeartbeats 8000000 in
set_option maxRecDepth 100000 in
theorem marker_calls (B pb : Nat) (l : List Int) (x : UInt8) (n : Nat) (s : ByteArray) (w : World) (h : Pg B pb l w) (hBw : B ≤ w.heap.size) (hn : n ≤ 16777216) (hs : s.size ≤ 9223372036854775807) (hlim : l.length + n + 300 ≤ 140737488355328) :
    Calls Tryd.prog 36 #[.pointer (some ⟨pb, 0, none⟩), .string ⟨#[x]⟩, .int .i64 (n : Int), .string s] w fun e w' => e = .returned (.tuple #[]) ∧ Pg B pb (l ++ mkLine x n s) w' ∧ Pk B pb w w' := by
  have hln : (sb (repB x n)).length = n := by rw [sb_rep, List.length_replicate]
  have hsz := labB_size s
  obtain ⟨t, ht⟩ : ∃ t, labB s = t := ⟨_, rfl⟩
  rw [ht] at hsz
  have hml : mkLine x n s = sb (repB x n) ++ (if t = ⟨#[]⟩ then [] else 32 :: sb t) ++ [10] := by unfold mkLine; rw [sb_rep, ht]
  rw [hml]
  have hrs : (repB x n).size = n := by rw [← sb_len]; exact hln
  have H := Aside0.mk h; have HB := Aside0.mk hBw; have HL := Aside0.mk hlim; have HN := Aside0.mk hn; have HS := Aside0.mk hs; have HT := Aside0.mk ht; have HLN := Aside0.mk hln; have HSZ := Aside0.mk hsz; have HRS := Aside0.mk hrs
  clear h hBw hlim hn hs ht hml hln hrs
  obtain ⟨RB, hRB⟩ : ∃ RB, RB = repB x n := ⟨_, rfl⟩
  rw [← hRB] at HLN HRS ⊢
  replace hRB := Aside0.mk hRB
  by_cases ht0 : t = ⟨#[]⟩
  · rw [if_pos ht0]
    subst ht0
    go_enter Tryd.func36, Tryd.ntmps36
    go_wp2
    have E := trivial
    refine start_ (n := 7) (S := fun w' => True) (ds := []) #[false, false, false, false, false, false, false] (by kernel_rfl) rfl rfl trivial (fun hHeld => ?_)
    refine with_tabW mmark.tab0 mmark.bits0 (fun HT_ HW_ => ?_)
    have H1 : Aside0 (Pg B pb l w.drew) := ⟨H.out.below (below_drew1 (Below.refl _ _))⟩
    have HB1 : Aside0 (B ≤ w.drew.heap.size) := ⟨HB.out⟩
    have HK1 : Aside0 (Pk B pb w w.drew) := ⟨Pk.of_below HB.out (below_drew1 (Below.refl _ _))⟩
    generalize w.drew = wd at H1 HB1 HK1 hHeld ⊢
    refine pure_ (i := 0) (N := some 9) (v := ?_) (a' := ?_) #[true, false, false, false, false, false, false] rfl rfl (any_of HT_.out (by kernel_rfl)) (fun _ _ _ h => h) (Or.inl ⟨by rfl, ?_⟩) ?_ ?_
    rotate_left
    · intro w'
      go_simp
      with_reducible rfl
    rotate_left
    · simp only [Act.put, List.setIfInBounds_toArray, List.set_cons_zero, List.set_cons_succ, i64_w, i32_w]
      rfl
    refine pure_ (i := 1) (N := some 10) (v := ?_) (a' := ?_) #[true, true, false, false, false, false, false] rfl rfl (any_of HT_.out (by kernel_rfl)) (fun _ _ _ h => h) (Or.inl ⟨by rfl, ?_⟩) ?_ ?_
    rotate_left
    · intro w'
      go_simp
      with_reducible rfl
    rotate_left
    · simp only [Act.put, List.setIfInBounds_toArray, List.set_cons_zero, List.set_cons_succ, i64_w, i32_w]
      rfl
    refine pure_ (i := 2) (N := some 11) (v := ?_) (a' := ?_) #[true, true, true, false, false, false, false] rfl rfl (any_of HT_.out (by kernel_rfl)) (fun _ _ _ h => h) (Or.inl ⟨by rfl, ?_⟩) ?_ ?_
    rotate_left
    · intro w'
      go_simp
      with_reducible rfl
    rotate_left
    · simp only [Act.put, List.setIfInBounds_toArray, List.set_cons_zero, List.set_cons_succ, i64_w, i32_w]
      rfl
    refine pure_ (i := 3) (N := some 12) (v := ?_) (a' := ?_) #[true, true, true, true, false, false, false] rfl rfl (any_of HT_.out (by kernel_rfl)) (fun _ _ _ h => h) (Or.inl ⟨by rfl, ?_⟩) ?_ ?_
    rotate_left
    · intro w'
      go_simp
      with_reducible rfl
    rotate_left
    · simp only [Act.put, List.setIfInBounds_toArray, List.set_cons_zero, List.set_cons_succ, i64_w, i32_w]
      rfl
    refine pure_ (i := 4) (N := some 13) (v := ?_) (a' := ?_) #[true, true, true, true, true, false, false] rfl rfl (any_of HT_.out (by kernel_rfl)) (fun _ _ _ h => h) (Or.inl ⟨by rfl, ?_⟩) ?_ ?_
    rotate_left
    · intro w'
      go_simp
      with_reducible rfl
    rotate_left
    · simp only [Act.put, List.setIfInBounds_toArray, List.set_cons_zero, List.set_cons_succ, i64_w, i32_w]
      rfl
    refine inv_at [5, 6] (fun a0_ b a w' => a = putSel a0_ b [(5, 14, .string RB), (6, 15, .tuple #[.int .i64 (RB.size : Int), .nilIface])] ∧ (b 6 = false → Below wd.heap.size wd w') ∧ (b 6 = true → Pg B pb (l ++ sb RB) w' ∧ Pk B pb w w')) HT_.out HW_.out (by kernel_rfl) (by kernel_rfl) ?_ ?_ ?_
    · exact ⟨by simp only [putSel, Bool.false_eq_true, if_false], fun _ => Below.refl _ _, fun h_ => absurd h_ (by decide)⟩
    · skip
      clear E
      refine steps_cons ?_ ?_
      · rintro b a w' ⟨ha, Q_E, Q_F⟩ hb_ hon hoff
        refine ⟨_, rfl, fun K hK => ?_⟩
        have e12 : a.tmps[12]? = some (.string ⟨#[x]⟩) := by rw [ha]; exact (putSel_off rfl).trans rfl
        have e13 : a.tmps[13]? = some (.int .i64 (n : Int)) := by rw [ha]; exact (putSel_off rfl).trans rfl
        replace ha := Aside0.mk ha
        have E := Aside0.mk (Q_E (hoff 6 (by kernel_rfl)))
        refine goes_ Tryd.func55 (by kernel_rfl) rfl #[.string ⟨#[x]⟩, .int .i64 (n : Int)] (by rfl) rfl rfl (by first | (simp only [List.map_toArray, List.map_cons, List.map_nil, Act.eval, Array.getD_eq_getD_getElem?, Option.getD_some, e12, e13]; done) | (simp only [List.map_toArray, List.map_cons, List.map_nil, Act.eval, Array.getD_eq_getD_getElem?, Option.getD_some, e12, e13]; rfl)) ?_
        refine (rep_calls x n _ HN.out).mono ?_
        rw [show (⟨(List.replicate n x).toArray⟩ : ByteArray) = RB from hRB.out.symm]
        rintro e w24 ⟨rfl, hb⟩
        refine ⟨_, rfl, ?_⟩
        have E3_ := E.out.trans (below_lo hb E.out.size)
        refine hK.out _ _ ⟨(by rw [ha.out]; exact putSel_upk 0 hb_ rfl rfl rfl), fun _ => E3_, fun h0_ => absurd ((hoff 6 (by kernel_rfl)).symm.trans h0_) (by decide)⟩
      refine steps_cons ?_ ?_
      · rintro b a w' ⟨ha, Q_E, Q_F⟩ hb_ hon hoff
        refine ⟨_, rfl, fun K hK => ?_⟩
        have e11 : a.tmps[11]? = some (.pointer (some ⟨pb, 0, none⟩)) := by rw [ha]; exact (putSel_off rfl).trans rfl
        have e14 : a.tmps[14]? = some (.string RB) := by rw [ha]; exact putSel_on (e := (5, 14, .string RB)) 0 rfl rfl (hon 5 (by kernel_rfl)) rfl
        replace ha := Aside0.mk ha
        have E := Aside0.mk (Q_E hb_)
        refine goes_ Tryd.func54 (by kernel_rfl) rfl #[.pointer (some ⟨pb, 0, none⟩), .string RB] (by rfl) rfl rfl (by first | (simp only [List.map_toArray, List.map_cons, List.map_nil, Act.eval, Array.getD_eq_getD_getElem?, Option.getD_some, e11, e14]; done) | (simp only [List.map_toArray, List.map_cons, List.map_nil, Act.eval, Array.getD_eq_getD_getElem?, Option.getD_some, e11, e14]; rfl)) ?_
        refine (pg_str B pb l RB _ (H1.out.below E.out) (Nat.le_trans HB1.out E.out.size) (by have := HL.out; have := HRS.out; omega)).mono ?_
        rintro e w24 ⟨rfl, hp, hk⟩
        refine ⟨_, rfl, ?_⟩
        have E3_ := And.intro hp (HK1.out.trans ((Pk.of_below HB1.out E.out).trans hk))
        refine hK.out _ _ ⟨(by rw [ha.out]; exact putSel_upk 1 hb_ rfl rfl rfl), fun h0_ => absurd ((up_self b 6).symm.trans h0_) (by decide), fun _ => E3_⟩
      exact steps_nil
    · rintro b a w' hall ⟨ha, Q_E, Q_F⟩
      clear E
      have hb5_ := hall 5 (by kernel_rfl)
      have hb6_ := hall 6 (by kernel_rfl)
      subst ha
      simp only [putSel, hb5_, hb6_, if_true, Act.put, List.setIfInBounds_toArray, List.set_cons_zero, List.set_cons_succ]
      clear Q_E
      have F := Aside0.mk (Q_F hb6_)
      clear Q_F
      clear hall hb5_ hb6_
      go_wp2_with (first | (go_at_call 14; refine (Label_calls s w' HS.out).mono ?_; rw [HT.out]; rintro e w3 ⟨rfl, hb3⟩; have hP3 := F.out.1.below hb3; have hK3 := F.out.2.below (Nat.le_trans HB.out F.out.2.size) hb3) | (go_at_call 53; refine (pg_byte B pb (l ++ sb RB) 10 w3 hP3 (Nat.le_trans HB.out hK3.size) (by have := HL.out; have := HLN.out; simp; omega)).mono ?_; rintro e w4 ⟨rfl, hP4, hK4⟩))
      (try simp only [Exit.inBlock, Exit.then])
      refine bodyPost_end (results_none rfl _ _ _) rfl ?_
      exact ⟨rfl, by simpa using hP4, hK3.trans hK4⟩
  · rw [if_neg ht0]
    have hbne := eq_false ht0
    have hti : t.toList.isEmpty = false := by
      rw [Lib.toList_data, Bool.eq_false_iff]
      intro h_
      apply ht0
      have h2_ := List.isEmpty_iff.1 h_
      cases t with | mk d => congr 1; cases d with | mk dl => simp at h2_; rw [h2_]
    have hsl : (9223372036854775807 < 1 + t.size) = False := eq_false (by have := HSZ.out; omega)
    have hsl2 : (9223372036854775807 < t.size + 1) = False := eq_false (by have := HSZ.out; omega)
    go_enter Tryd.func36, Tryd.ntmps36
    go_wp2
    have E := trivial
    refine start_ (n := 7) (S := fun w' => True) (ds := []) #[false, false, false, false, false, false, false] (by kernel_rfl) rfl rfl trivial (fun hHeld => ?_)
    refine with_tabW mmark.tab0 mmark.bits0 (fun HT_ HW_ => ?_)
    have H1 : Aside0 (Pg B pb l w.drew) := ⟨H.out.below (below_drew1 (Below.refl _ _))⟩
    have HB1 : Aside0 (B ≤ w.drew.heap.size) := ⟨HB.out⟩
    have HK1 : Aside0 (Pk B pb w w.drew) := ⟨Pk.of_below HB.out (below_drew1 (Below.refl _ _))⟩
    generalize w.drew = wd at H1 HB1 HK1 hHeld ⊢
    refine pure_ (i := 0) (N := some 9) (v := ?_) (a' := ?_) #[true, false, false, false, false, false, false] rfl rfl (any_of HT_.out (by kernel_rfl)) (fun _ _ _ h => h) (Or.inl ⟨by rfl, ?_⟩) ?_ ?_
    rotate_left
    · intro w'
      go_simp
      with_reducible rfl
    rotate_left
    · simp only [Act.put, List.setIfInBounds_toArray, List.set_cons_zero, List.set_cons_succ, i64_w, i32_w]
      rfl
    refine pure_ (i := 1) (N := some 10) (v := ?_) (a' := ?_) #[true, true, false, false, false, false, false] rfl rfl (any_of HT_.out (by kernel_rfl)) (fun _ _ _ h => h) (Or.inl ⟨by rfl, ?_⟩) ?_ ?_
    rotate_left
    · intro w'
      go_simp
      with_reducible rfl
    rotate_left
    · simp only [Act.put, List.setIfInBounds_toArray, List.set_cons_zero, List.set_cons_succ, i64_w, i32_w]
      rfl
    refine pure_ (i := 2) (N := some 11) (v := ?_) (a' := ?_) #[true, true, true, false, false, false, false] rfl rfl (any_of HT_.out (by kernel_rfl)) (fun _ _ _ h => h) (Or.inl ⟨by rfl, ?_⟩) ?_ ?_
    rotate_left
    · intro w'
      go_simp
      with_reducible rfl
    rotate_left
    · simp only [Act.put, List.setIfInBounds_toArray, List.set_cons_zero, List.set_cons_succ, i64_w, i32_w]
      rfl
    refine pure_ (i := 3) (N := some 12) (v := ?_) (a' := ?_) #[true, true, true, true, false, false, false] rfl rfl (any_of HT_.out (by kernel_rfl)) (fun _ _ _ h => h) (Or.inl ⟨by rfl, ?_⟩) ?_ ?_
    rotate_left
    · intro w'
      go_simp
      with_reducible rfl
    rotate_left
    · simp only [Act.put, List.setIfInBounds_toArray, List.set_cons_zero, List.set_cons_succ, i64_w, i32_w]
      rfl
    refine pure_ (i := 4) (N := some 13) (v := ?_) (a' := ?_) #[true, true, true, true, true, false, false] rfl rfl (any_of HT_.out (by kernel_rfl)) (fun _ _ _ h => h) (Or.inl ⟨by rfl, ?_⟩) ?_ ?_
    rotate_left
    · intro w'
      go_simp
      with_reducible rfl
    rotate_left
    · simp only [Act.put, List.setIfInBounds_toArray, List.set_cons_zero, List.set_cons_succ, i64_w, i32_w]
      rfl
    refine inv_at [5, 6] (fun a0_ b a w' => a = putSel a0_ b [(5, 14, .string RB), (6, 15, .tuple #[.int .i64 (RB.size : Int), .nilIface])] ∧ (b 6 = false → Below wd.heap.size wd w') ∧ (b 6 = true → Pg B pb (l ++ sb RB) w' ∧ Pk B pb w w')) HT_.out HW_.out (by kernel_rfl) (by kernel_rfl) ?_ ?_ ?_
    · exact ⟨by simp only [putSel, Bool.false_eq_true, if_false], fun _ => Below.refl _ _, fun h_ => absurd h_ (by decide)⟩
    · skip
      clear E
      refine steps_cons ?_ ?_
      · rintro b a w' ⟨ha, Q_E, Q_F⟩ hb_ hon hoff
        refine ⟨_, rfl, fun K hK => ?_⟩
        have e12 : a.tmps[12]? = some (.string ⟨#[x]⟩) := by rw [ha]; exact (putSel_off rfl).trans rfl
        have e13 : a.tmps[13]? = some (.int .i64 (n : Int)) := by rw [ha]; exact (putSel_off rfl).trans rfl
        replace ha := Aside0.mk ha
        have E := Aside0.mk (Q_E (hoff 6 (by kernel_rfl)))
        refine goes_ Tryd.func55 (by kernel_rfl) rfl #[.string ⟨#[x]⟩, .int .i64 (n : Int)] (by rfl) rfl rfl (by first | (simp only [List.map_toArray, List.map_cons, List.map_nil, Act.eval, Array.getD_eq_getD_getElem?, Option.getD_some, e12, e13]; done) | (simp only [List.map_toArray, List.map_cons, List.map_nil, Act.eval, Array.getD_eq_getD_getElem?, Option.getD_some, e12, e13]; rfl)) ?_
        refine (rep_calls x n _ HN.out).mono ?_
        rw [show (⟨(List.replicate n x).toArray⟩ : ByteArray) = RB from hRB.out.symm]
        rintro e w24 ⟨rfl, hb⟩
        refine ⟨_, rfl, ?_⟩
        have E3_ := E.out.trans (below_lo hb E.out.size)
        refine hK.out _ _ ⟨(by rw [ha.out]; exact putSel_upk 0 hb_ rfl rfl rfl), fun _ => E3_, fun h0_ => absurd ((hoff 6 (by kernel_rfl)).symm.trans h0_) (by decide)⟩
      refine steps_cons ?_ ?_
      · rintro b a w' ⟨ha, Q_E, Q_F⟩ hb_ hon hoff
        refine ⟨_, rfl, fun K hK => ?_⟩
        have e11 : a.tmps[11]? = some (.pointer (some ⟨pb, 0, none⟩)) := by rw [ha]; exact (putSel_off rfl).trans rfl
        have e14 : a.tmps[14]? = some (.string RB) := by rw [ha]; exact putSel_on (e := (5, 14, .string RB)) 0 rfl rfl (hon 5 (by kernel_rfl)) rfl
        replace ha := Aside0.mk ha
        have E := Aside0.mk (Q_E hb_)
        refine goes_ Tryd.func54 (by kernel_rfl) rfl #[.pointer (some ⟨pb, 0, none⟩), .string RB] (by rfl) rfl rfl (by first | (simp only [List.map_toArray, List.map_cons, List.map_nil, Act.eval, Array.getD_eq_getD_getElem?, Option.getD_some, e11, e14]; done) | (simp only [List.map_toArray, List.map_cons, List.map_nil, Act.eval, Array.getD_eq_getD_getElem?, Option.getD_some, e11, e14]; rfl)) ?_
        refine (pg_str B pb l RB _ (H1.out.below E.out) (Nat.le_trans HB1.out E.out.size) (by have := HL.out; have := HRS.out; omega)).mono ?_
        rintro e w24 ⟨rfl, hp, hk⟩
        refine ⟨_, rfl, ?_⟩
        have E3_ := And.intro hp (HK1.out.trans ((Pk.of_below HB1.out E.out).trans hk))
        refine hK.out _ _ ⟨(by rw [ha.out]; exact putSel_upk 1 hb_ rfl rfl rfl), fun h0_ => absurd ((up_self b 6).symm.trans h0_) (by decide), fun _ => E3_⟩
      exact steps_nil
    · rintro b a w' hall ⟨ha, Q_E, Q_F⟩
      clear E
      have hb5_ := hall 5 (by kernel_rfl)
      have hb6_ := hall 6 (by kernel_rfl)
      subst ha
      simp only [putSel, hb5_, hb6_, if_true, Act.put, List.setIfInBounds_toArray, List.set_cons_zero, List.set_cons_succ]
      clear Q_E
      have F := Aside0.mk (Q_F hb6_)
      clear Q_F
      clear hall hb5_ hb6_
      go_wp2_with (first | (go_at_call 14; refine (Label_calls s w' HS.out).mono ?_; rw [HT.out]; rintro e w3 ⟨rfl, hb3⟩; have hP3 := F.out.1.below hb3; have hK3 := F.out.2.below (Nat.le_trans HB.out F.out.2.size) hb3) | (go_at_call 54; go_loud (refine (pg_str B pb (l ++ sb RB) _ w3 hP3 (Nat.le_trans HB.out hK3.size) (by have := HL.out; have := HLN.out; have := HSZ.out; have h32_ : (⟨#[32]⟩ : ByteArray).size = 1 := rfl; simp; omega)).mono ?_; rintro e w4 ⟨rfl, hP4, hK4⟩)) | (go_at_call 53; refine (pg_byte B pb _ 10 w4 hP4 (Nat.le_trans HB.out (Nat.le_trans hK3.size hK4.size)) (by have := HL.out; have := HLN.out; have := HSZ.out; have h32_ : (⟨#[32]⟩ : ByteArray).size = 1 := rfl; simp [sb_len]; have := HRS.out; omega)).mono ?_; rintro e w5 ⟨rfl, hP5, hK5⟩))
      (try simp only [Exit.inBlock, Exit.then])
      refine bodyPost_end (results_none rfl _ _ _) rfl ?_
      refine ⟨rfl, ?_, (hK3.trans hK4).trans hK5⟩
      rw [sb_app] at hP5
      have e32 : sb ⟨#[32]⟩ = [32] := rfl
      rw [e32] at hP5
      simpa using hP5
end Go.Proofs.YtnnnbeimehfiiaaDoor.Q

/-! mark.Write in plain Lean; what the walk needs of it. -/
set_option linter.unusedVariables false
set_option linter.unusedSimpArgs false
namespace Go.Proofs.YtnnnbeimehfiiaaDoor.Q
open Go Go.RowKit Go.Proofs.YtnnnbeimehfiiaaDoorW.PrintWords Go.Proofs.YtnnnbeimehfiiaaDoorW.SL
def wrReg (n : Nat) (s0 s1 s2 : ByteArray) (acc : List Int) (p : Pt) : List Int :=
  endNl (endNl (endNl (acc ++ mkLine 60 n s0 ++ p.s0) ++ mkLine 124 n s1 ++ p.s1) ++ mkLine 61 n ⟨#[]⟩ ++ p.s2) ++ mkLine 62 n s2
def wrPart (n : Nat) (s0 s1 s2 : ByteArray) (last : Bool) (acc : List Int) (p : Pt) : List Int :=
  if p.region then wrReg n s0 s1 s2 acc p else if last then acc ++ p.text else endNl (acc ++ p.text)
def wrAll (n : Nat) (s0 s1 s2 : ByteArray) : List Pt → List Int → List Int
  | [], acc => acc
  | p :: r, acc => wrAll n s0 s1 s2 r (wrPart n s0 s1 s2 r.isEmpty acc p)
def writeOf (n : Int) (s0 s1 s2 : ByteArray) (ps : List Pt) : List Int × Int :=
  if n ≥ 1 ∧ n ≤ 16777216 then (wrAll n.toNat s0 s1 s2 ps [], 0) else ([], 1)
theorem endNl_le (l : List Int) : (endNl l).length ≤ l.length + 1 := by
  rcases List.eq_nil_or_concat l with rfl | ⟨r, x, h⟩
  · simp [endNl_nil]
  · have h2 : l = r ++ [x] := by simpa using h
    subst h2
    rw [endNl_snoc]
    split <;> simp
theorem mkLine_le (x : UInt8) (n : Nat) (s : ByteArray) : (mkLine x n s).length ≤ n + 202 := by
  have h1 := labB_size s
  have h2 := sb_len (labB s)
  unfold mkLine
  split <;> simp <;> omega
theorem wrAll_next {n : Nat} {s0 s1 s2 : ByteArray} {ps : List Pt} {i : Nat} {p : Pt} {acc R : List Int} (h : wrAll n s0 s1 s2 (ps.drop i) acc = R) (hp : ps[i]? = some p) : wrAll n s0 s1 s2 (ps.drop (i + 1)) (wrPart n s0 s1 s2 (decide (i + 1 = ps.length)) acc p) = R := by
  have hlt := (List.getElem?_eq_some_iff.1 hp).1
  have hpe := (List.getElem?_eq_some_iff.1 hp).2
  rw [List.drop_eq_getElem_cons hlt, hpe] at h
  rw [← h]
  show _ = wrAll n s0 s1 s2 (ps.drop (i + 1)) (wrPart n s0 s1 s2 (ps.drop (i + 1)).isEmpty acc p)
  congr 2
  by_cases hi : i + 1 = ps.length
  · rw [List.drop_of_length_le (by omega)]; simp [hi]
  · have : ps.drop (i + 1) ≠ [] := by intro h; have := congrArg List.length h; simp at this; omega
    cases hd : ps.drop (i + 1) with
    | nil => exact absurd hd this
    | cons a r => simp [hi]
/-- The box of the part in hand: five cells. -/
def BoxP (g : Nat) (cs : Array Value) (w : World) : Prop := w.heap[g]? = some (.cells cs 50 (0, 0))
theorem BoxP.keep {g : Nat} {cs : Array Value} {w w' : World} (h : BoxP g cs w) (hb : Below w.heap.size w w') : BoxP g cs w' := by
  unfold BoxP at *
  rw [hb.block g (Array.getElem?_eq_some_iff.1 h).1]; exact h
theorem BoxP.pk {g B pb : Nat} {cs : Array Value} {w w' : World} (h : BoxP g cs w) (hg : g ≠ pb) (hk : Pk B pb w w') : BoxP g cs w' :=
  hk.2 g _ h (by intro e; injection e with e; exact hg e) (by intro c fz e; injection e with _ e _; exact absurd e (by decide))
theorem BoxP.cells {g : Nat} {a b c d e : Value} {w : World} (h : BoxP g #[a, b, c, d, e] w) : w.cell? ⟨g, 0, none⟩ = some a ∧ w.cell? ⟨g, 1, none⟩ = some b ∧ w.cell? ⟨g, 2, none⟩ = some c ∧ w.cell? ⟨g, 3, none⟩ = some d ∧ w.cell? ⟨g, 4, none⟩ = some e :=
  ⟨(blk_cell h 0).trans rfl, (blk_cell h 1).trans rfl, (blk_cell h 2).trans rfl, (blk_cell h 3).trans rfl, (blk_cell h 4).trans rfl⟩
theorem row_apart {w : World} {A : Option Addr} {xs : List Int} {m pb : Nat} (h : Kd.F B8 w (fun k => k < m) A xs.length xs) (hm : m ≤ pb) : xs ≠ [] → ∀ a, A = some a → a.block ≠ pb := by
  intro hx a ha
  subst ha
  have hl : 0 < xs.length := by cases xs with | nil => exact absurd rfl hx | cons _ _ => simp
  obtain ⟨a', cs, e, _, _, _, hok⟩ := Kd.F_get h 0 (0 : Int) (by omega) (by omega)
  injection e with e
  subst e
  have := hok (by decide)
  omega
/-- A page with a bound of its length. -/
def Pq (pb m : Nat) (l : List Int) (w : World) : Prop := Pg pb pb l w ∧ pb ≤ w.heap.size ∧ l.length ≤ m
theorem marker_st {pb m : Nat} {l : List Int} {w : World} (h : Pq pb m l w) (x : UInt8) (n : Nat) (s : ByteArray) (hn : n ≤ 16777216) (hs : s.size ≤ 9223372036854775807) (hm : m + 16777600 ≤ 140737488355328) :
    Calls Tryd.prog 36 #[.pointer (some ⟨pb, 0, none⟩), .string ⟨#[x]⟩, .int .i64 (n : Int), .string s] w fun e w' => e = .returned (.tuple #[]) ∧ Pq pb (m + 16777418) (l ++ mkLine x n s) w' ∧ Pk pb pb w w' := by
  refine (marker_calls pb pb l x n s w h.1 h.2.1 hn hs (by have := h.2.2; omega)).mono ?_
  rintro e w' ⟨rfl, h1, h2⟩
  exact ⟨rfl, ⟨h1, Nat.le_trans h.2.1 h2.size, by have := h.2.2; have := mkLine_le x n s; simp; omega⟩, h2⟩
theorem lines_st {pb m : Nat} {l : List Int} {w : World} (h : Pq pb m l w) (x : List Int) (A : Option Addr) (c : Nat) (hx : Kd.C B8 w A x.length x) (hA : x ≠ [] → ∀ a, A = some a → a.block ≠ pb) (hl : x.length ≤ 5000000) (hm : m + 5000001 ≤ 140737488355328) :
    Calls Tryd.prog 37 #[.pointer (some ⟨pb, 0, none⟩), .slice A x.length c] w fun e w' => e = .returned (.tuple #[]) ∧ Pq pb (m + 5000001) (endNl (l ++ x)) w' ∧ Pk pb pb w w' := by
  refine (lines_calls pb pb l x A c w h.1 h.2.1 hx hA (by have := h.2.2; omega)).mono ?_
  rintro e w' ⟨rfl, h1, h2⟩
  exact ⟨rfl, ⟨h1, Nat.le_trans h.2.1 h2.size, by have := h.2.2; have := endNl_le (l ++ x); simp at this ⊢; omega⟩, h2⟩
theorem write_st {pb m : Nat} {l : List Int} {w : World} (h : Pq pb m l w) (x : List Int) (A : Option Addr) (c : Nat) (hx : Kd.C B8 w A x.length x) (hA : x ≠ [] → ∀ a, A = some a → a.block ≠ pb) (hl : x.length ≤ 5000000) (hm : m + 5000001 ≤ 140737488355328) :
    Calls Tryd.prog 34 #[.pointer (some ⟨pb, 0, none⟩), .slice A x.length c] w fun e w' => e = .returned (.tuple #[.int .i64 (x.length : Int), .nilIface]) ∧ Pq pb (m + 5000001) (l ++ x) w' ∧ Pk pb pb w w' := by
  refine (pg_write pb pb l x A c w h.1 h.2.1 hx hA (by have := h.2.2; omega)).mono ?_
  rintro e w' ⟨rfl, h1, h2⟩
  exact ⟨rfl, ⟨h1, Nat.le_trans h.2.1 h2.size, by have := h.2.2; simp; omega⟩, h2⟩
theorem shut_st {pb m : Nat} {l : List Int} {w : World} (h : Pq pb m l w) (hm : m + 5000001 ≤ 140737488355328) :
    Calls Tryd.prog 35 #[.pointer (some ⟨pb, 0, none⟩)] w fun e w' => e = .returned (.tuple #[]) ∧ Pq pb (m + 1) (endNl l) w' ∧ Pk pb pb w w' := by
  refine (shut_calls pb pb l w h.1 h.2.1 (by have := h.2.2; omega)).mono ?_
  rintro e w' ⟨rfl, h1, h2⟩
  exact ⟨rfl, ⟨h1, Nat.le_trans h.2.1 h2.size, by have := h.2.2; have := endNl_le l; omega⟩, h2⟩
/-- What a round reads: the labels, the part in hand, the part's rows. -/
structure Rd3 (w wA w1 : World) (pb lb g : Nat) (s0 s1 s2 : ByteArray) (p : Pt) (A1 A2 A3 A4 : Option Addr) (c1 c2 c3 c4 : Nat) (W : World) : Prop where
  l0 : W.cell? ⟨lb, 0, none⟩ = some (.string s0)
  l1 : W.cell? ⟨lb, 1, none⟩ = some (.string s1)
  l2 : W.cell? ⟨lb, 2, none⟩ = some (.string s2)
  b0 : W.cell? ⟨g, 0, none⟩ = some (.bool p.region)
  b1 : W.cell? ⟨g, 1, none⟩ = some (.slice A1 p.text.length c1)
  b2 : W.cell? ⟨g, 2, none⟩ = some (.slice A2 p.s0.length c2)
  b3 : W.cell? ⟨g, 3, none⟩ = some (.slice A3 p.s1.length c3)
  b4 : W.cell? ⟨g, 4, none⟩ = some (.slice A4 p.s2.length c4)
  h1 : Kd.C B8 W A1 p.text.length p.text
  h2 : Kd.C B8 W A2 p.s0.length p.s0
  h3 : Kd.C B8 W A3 p.s1.length p.s1
  h4 : Kd.C B8 W A4 p.s2.length p.s2
  bA : Below pb wA W
theorem Rd3.of {w wA w1 : World} {pb lb g : Nat} {s0 s1 s2 : ByteArray} {p : Pt} {A1 A2 A3 A4 : Option Addr} {c1 c2 c3 c4 : Nat} (hl : wA.heap[lb]? = some (.cells #[.string s0, .string s1, .string s2] 39 (0, 0))) (hlb : lb < pb)
    (hbx : BoxP g #[.bool p.region, .slice A1 p.text.length c1, .slice A2 p.s0.length c2, .slice A3 p.s1.length c3, .slice A4 p.s2.length c4] w1) (hg : g ≠ pb) (hwp : w.heap.size ≤ pb) (h1 : Below pb wA w1)
    (g1 : Kd.F B8 w1 (fun k => k < w.heap.size) A1 p.text.length p.text) (g2 : Kd.F B8 w1 (fun k => k < w.heap.size) A2 p.s0.length p.s0) (g3 : Kd.F B8 w1 (fun k => k < w.heap.size) A3 p.s1.length p.s1) (g4 : Kd.F B8 w1 (fun k => k < w.heap.size) A4 p.s2.length p.s2) :
    ∀ W, Pk pb pb w1 W → Rd3 w wA w1 pb lb g s0 s1 s2 p A1 A2 A3 A4 c1 c2 c3 c4 W := fun W hk => by
  have hW : Below pb wA W := h1.trans hk.1
  have hL := (hW.block lb hlb).trans hl
  have hB := (hbx.pk hg hk).cells
  have st : ∀ k, k < w.heap.size → W.heap[k]? = w1.heap[k]? := fun k hk2 => hk.1.block k (by omega)
  exact ⟨(blk_cell hL 0).trans rfl, (blk_cell hL 1).trans rfl, (blk_cell hL 2).trans rfl, hB.1, hB.2.1, hB.2.2.1, hB.2.2.2.1, hB.2.2.2.2, Kd.F_now (Kd.F_step g1 (fun k hk _ => st k hk)), Kd.F_now (Kd.F_step g2 (fun k hk _ => st k hk)), Kd.F_now (Kd.F_step g3 (fun k hk _ => st k hk)), Kd.F_now (Kd.F_step g4 (fun k hk _ => st k hk)), hW⟩
end Go.Proofs.YtnnnbeimehfiiaaDoor.Q

-- Written by a program of this session (wip/gen_write.py) for this claim; Lean checks it.
/-! mark.Write, walked. -/
set_option linter.unusedVariables false
set_option linter.unusedSimpArgs false
namespace Go.Proofs.YtnnnbeimehfiiaaDoor.Q
open Go Go.RowKit Go.Proofs.YtnnnbeimehfiiaaDoorW.PrintWords Go.Proofs.YtnnnbeimehfiiaaDoorW.PrintLast Go.Proofs.YtnnnbeimehfiiaaDoorW.PrintMore Go.Proofs.YtnnnbeimehfiiaaDoorW.SL
attribute [local go_sem] max2_int min2_int max_two min_two max_three min_three max_four min_four
set_option maxHeartbeats 16000000 in
set_option maxRecDepth 100000 in
theorem Write_calls (n : Int) (s0 s1 s2 : ByteArray) (A : Option Addr) (c : Nat) (ps : List Pt) (w : World) (hr : Kd.C kP w A ps.length ps) (hc : ps.length ≤ c) (hps : ps.length ≤ 1000) (hf : ∀ p ∈ ps, p.text.length ≤ 5000000 ∧ p.s0.length ≤ 5000000 ∧ p.s1.length ≤ 5000000 ∧ p.s2.length ≤ 5000000)
    (hs0 : s0.size ≤ 9223372036854775807) (hs1 : s1.size ≤ 9223372036854775807) (hs2 : s2.size ≤ 9223372036854775807) :
    Calls Tryd.prog 19 #[.int .i64 n, .agg #[.string s0, .string s1, .string s2], .slice A ps.length c] w fun e w' => ∃ (A' : Option Addr) (c' : Nat), e = .returned (.tuple #[.slice A' (writeOf n s0 s1 s2 ps).1.length c', .int .i64 (writeOf n s0 s1 s2 ps).2]) ∧ (writeOf n s0 s1 s2 ps).1.length ≤ c' ∧ Kd.C B8 w' A' (writeOf n s0 s1 s2 ps).1.length (writeOf n s0 s1 s2 ps).1 ∧ Below w.heap.size w w' := by
 have HX := Aside0.mk (Kd.C_F kP_heap hr)
 have HC := Aside0.mk hc; have HPS := Aside0.mk hps; have HF := Aside0.mk hf; have HS0 := Aside0.mk hs0; have HS1 := Aside0.mk hs1; have HS2 := Aside0.mk hs2
 clear hr hc hps hf hs0 hs1 hs2
 by_cases hn : n ≥ 1 ∧ n ≤ 16777216
 · have hright : mark_right.f n = some true := by unfold mark_right.f; rw [if_pos hn.1]; simp [hn.2]
   obtain ⟨N, hN⟩ := Int.eq_ofNat_of_zero_le (by omega : 0 ≤ n)
   have hN1 : 1 ≤ N := by omega
   have hN2 : N ≤ 16777216 := by omega
   have hres : writeOf n s0 s1 s2 ps = (wrAll N s0 s1 s2 ps [], 0) := by unfold writeOf; rw [if_pos hn, hN]; rfl
   obtain ⟨R, hR⟩ : ∃ R, wrAll N s0 s1 s2 ps [] = R := ⟨_, rfl⟩
   rw [hres, hR]
   have HRT := Aside0.mk hright
   clear hres hn hright
   subst hN
   replace hR := Aside0.mk hR
   replace hN1 := Aside0.mk hN1
   replace hN2 := Aside0.mk hN2
   go_enter Tryd.func19, Tryd.ntmps19
   go_wp2_with (go_at_call 24; refine (mark_right.calls _ true _ HRT.out).mono ?_; rintro e w2 ⟨rfl, hb1⟩; replace hb1 := drawn_below hb1)
   have hlt2 : w.heap.size < w2.heap.size := by have := hb1.size; simp at this; omega
   have hbA0 : Below w.heap.size w w2 := (below_alloc (Below.refl _ _) _).trans (below_lo hb1 (by simp))
   have hlb : w2.heap[w.heap.size]? = some (.cells #[.string s0, .string s1, .string s2] 39 (0, 0)) := (hb1.block _ (by simp)).trans (heap_alloc_new w _)
   obtain ⟨pb, hpb⟩ : ∃ pb, pb = w2.heap.size := ⟨_, rfl⟩
   obtain ⟨lb, hlb0⟩ : ∃ lb, lb = w.heap.size := ⟨_, rfl⟩
   obtain ⟨wA, hwA⟩ : ∃ wA, wA = w2.alloc (Obj.cells #[Value.slice none 0 0, Value.int IntKind.i64 0, Value.int IntKind.i8 0] 73) := ⟨_, rfl⟩
   have hPg0 : Pg pb pb [] wA := LibA.zero_isBuffer (Nat.le_refl _) (LibA.three_whole (by rw [hwA, hpb]; exact heap_alloc_new w2 _))
   have hbA : Below w.heap.size w wA := by rw [hwA]; exact hbA0.trans (below_lo (below_alloc (Below.refl _ _) _) hbA0.size)
   have hlbA : wA.heap[lb]? = some (.cells #[.string s0, .string s1, .string s2] 39 (0, 0)) := by rw [hwA, hlb0]; exact ((below_alloc (Below.refl w2.heap.size w2) _).block _ hlt2).trans hlb
   have hsA : pb < wA.heap.size := by rw [hwA, hpb]; simp
   have hpw : w.heap.size ≤ pb ∧ lb < pb := by omega
   rw [← hpb, ← hwA, ← hlb0]
   have HA := Aside0.mk (⟨hPg0, hbA, hlbA, hsA, hpw⟩ : _ ∧ _ ∧ _ ∧ _ ∧ _)
   clear hlt2 hbA0 hlb hPg0 hbA hlbA hsA hpw hwA hpb hb1 hlb0
   go_loopg [16] ps.length (fun kq v16 W => ∃ (ii : Int) (i : Nat) (acc : List Int), v16 = .int .i64 ii ∧ Aside0 (ii = (i : Int)) ∧ i ≤ ps.length ∧ kq = ps.length - i ∧ Aside0 (wrAll N s0 s1 s2 (ps.drop i) acc = R) ∧ Aside0 (acc.length ≤ i * 200000000) ∧ Aside0 (Pg pb pb acc W ∧ Below pb wA W))
   case atStart => exact ⟨0, 0, [], rfl, ⟨rfl⟩, Nat.zero_le _, rfl, hR, ⟨Nat.le_refl _⟩, ⟨HA.out.1, Below.refl _ _⟩⟩
   case round =>
    obtain ⟨ii, i, acc, rfl, hii, hi, hgk, hall, hal, hI⟩ := hrel
    obtain ⟨wb, rfl⟩ : ∃ q, q = wr := ⟨_, rfl⟩
    by_cases hin : ii < (ps.length : Int)
    · have p0 : 0 ≤ ii := by have := hii.out; omega
      have hbw : Below w.heap.size w wb := HA.out.2.1.trans (below_lo hI.out.2 HA.out.2.2.2.2.1)
      obtain ⟨ad, x, A1, c1, A2, c2, A3, c3, A4, c4, rfl, hxi, hok, hx0, hx1, hx2, hx3, hx4, g1, g2, g3, g4⟩ := at_Pt (Kd.F_step HX.out (fun k hk _ => hbw.block k hk)) ii p0 hin
      have e0 : ii.toNat = i := by have := hii.out; omega
      rw [e0] at hxi
      have hxm := HF.out x (List.mem_of_getElem? hxi)
      have hsz : wA.heap.size ≤ wb.heap.size := hI.out.2.size
      have hg : pb < wb.heap.size := Nat.lt_of_lt_of_le HA.out.2.2.2.1 hsz
      have hw1 : wrap64 (ii + 1) = ii + 1 := by have := hii.out; have := HPS.out; unfold wrap64; omega
      have hw2 : wrap64 ((ps.length : Int) - 1) = (ps.length : Int) - 1 := by have := HPS.out; unfold wrap64; omega
      have G := Aside0.mk (⟨g1, g2, g3, g4, hxi, hxm, hg, hi, hgk⟩ : _ ∧ _ ∧ _ ∧ _ ∧ _ ∧ _ ∧ _ ∧ _ ∧ _)
      have hinb := eq_true hin
      have p0b := eq_true p0
      obtain ⟨rg, T, S0, S1, S2⟩ := x
      simp only at hx0 hx1 hx2 hx3 hx4
      replace e0 := Aside0.mk e0
      have hbw' := Aside0.mk hbw
      clear g1 g2 g3 g4 hxi hok hxm hsz hg hbw hi hgk
      cases rg with
      | false =>
        by_cases hlast : i + 1 = ps.length
        · have hcl := eq_false (show ¬ ii < (ps.length : Int) - 1 by have := hii.out; omega)
          have hcl2 := eq_true (show (ps.length : Int) - 1 ≤ ii by have := hii.out; omega)
          have hnext : wrAll N s0 s1 s2 (ps.drop (i + 1)) (acc ++ T) = R := by
            have := wrAll_next hall.out G.out.2.2.2.2.1
            simpa [wrPart, hlast] using this
          replace hnext := Aside0.mk hnext
          go_upto_region 7 with (fail)
          have FACT := Aside0.mk (Rd3.of (w := w) (wA := wA) (lb := lb) (g := wb.heap.size) (p := ⟨false, T, S0, S1, S2⟩) HA.out.2.2.1 HA.out.2.2.2.2.2 (heap_alloc_new wb _) (by have := G.out.2.2.2.2.2.2.1; omega) HA.out.2.2.2.2.1 (hI.out.2.trans (below_lo (below_alloc (Below.refl _ _) (Obj.cells #[Value.bool false, Value.slice A1 T.length c1, Value.slice A2 S0.length c2, Value.slice A3 S1.length c3, Value.slice A4 S2.length c4] 50)) (by have := G.out.2.2.2.2.2.2.1; omega)))
            (Kd.F_step G.out.1.2 (fun k hk hl => (below_alloc (Below.refl wb.heap.size wb) _).block k hl)) (Kd.F_step G.out.2.1.2 (fun k hk hl => (below_alloc (Below.refl wb.heap.size wb) _).block k hl)) (Kd.F_step G.out.2.2.1.2 (fun k hk hl => (below_alloc (Below.refl wb.heap.size wb) _).block k hl)) (Kd.F_step G.out.2.2.2.1.2 (fun k hk hl => (below_alloc (Below.refl wb.heap.size wb) _).block k hl)))
          have P : Aside0 (Pq pb (i * 200000000) acc (wb.alloc (Obj.cells #[Value.bool false, Value.slice A1 T.length c1, Value.slice A2 S0.length c2, Value.slice A3 S1.length c3, Value.slice A4 S2.length c4] 50))) := ⟨hI.out.1.below (below_alloc (Below.refl _ _) _), by have := G.out.2.2.2.2.2.2.1; simp; omega, hal.out⟩
          have hi3 : i ≤ 1000 := Nat.le_trans G.out.2.2.2.2.2.2.2.1 HPS.out
          generalize wb.alloc (Obj.cells #[Value.bool false, Value.slice A1 T.length c1, Value.slice A2 S0.length c2, Value.slice A3 S1.length c3, Value.slice A4 S2.length c4] 50) = w1 at FACT P ⊢
          have K := Aside0.mk (Pk.refl pb pb w1)
          have FX := Aside0.mk (FACT.out _ K.out)
          have fl0 := FX.out.l0
          have fl1 := FX.out.l1
          have fl2 := FX.out.l2
          have fb0 := FX.out.b0
          have fb1 := FX.out.b1
          have fb2 := FX.out.b2
          have fb3 := FX.out.b3
          have fb4 := FX.out.b4
          simp only at fb0 fb1 fb2 fb3 fb4
          clear hx0 hx1 hx2 hx3 hx4
          go_wp2_with (first | (go_at_call 36; refine (marker_st P.out _ N _ hN2.out (by first | exact HS0.out | exact HS1.out | exact HS2.out | decide) (by omega)).mono ?_; rintro e wN ⟨rfl, hp, hk⟩; replace K := Aside0.mk (K.out.trans hk); replace P := Aside0.mk hp; replace FX := Aside0.mk (FACT.out _ K.out); clear hp hk; clear fl0 fl1 fl2 fb0 fb1 fb2 fb3 fb4; have fl0 := FX.out.l0; have fl1 := FX.out.l1; have fl2 := FX.out.l2; have fb0 := FX.out.b0; have fb1 := FX.out.b1; have fb2 := FX.out.b2; have fb3 := FX.out.b3; have fb4 := FX.out.b4; simp only at fb0 fb1 fb2 fb3 fb4) | (go_at_call 37; refine (lines_st P.out _ _ _ (by first | exact FX.out.h2 | exact FX.out.h3 | exact FX.out.h4) (by first | exact row_apart G.out.2.1.2 HA.out.2.2.2.2.1 | exact row_apart G.out.2.2.1.2 HA.out.2.2.2.2.1 | exact row_apart G.out.2.2.2.1.2 HA.out.2.2.2.2.1) (by have := G.out.2.2.2.2.2.1; first | exact this.2.1 | exact this.2.2.1 | exact this.2.2.2) (by omega)).mono ?_; rintro e wN ⟨rfl, hp, hk⟩; replace K := Aside0.mk (K.out.trans hk); replace P := Aside0.mk hp; replace FX := Aside0.mk (FACT.out _ K.out); clear hp hk; clear fl0 fl1 fl2 fb0 fb1 fb2 fb3 fb4; have fl0 := FX.out.l0; have fl1 := FX.out.l1; have fl2 := FX.out.l2; have fb0 := FX.out.b0; have fb1 := FX.out.b1; have fb2 := FX.out.b2; have fb3 := FX.out.b3; have fb4 := FX.out.b4; simp only at fb0 fb1 fb2 fb3 fb4) | (go_at_call 34; refine (write_st P.out _ _ _ FX.out.h1 (row_apart G.out.1.2 HA.out.2.2.2.2.1) G.out.2.2.2.2.2.1.1 (by omega)).mono ?_; rintro e wN ⟨rfl, hp, hk⟩; replace K := Aside0.mk (K.out.trans hk); replace P := Aside0.mk hp; replace FX := Aside0.mk (FACT.out _ K.out); clear hp hk; clear fl0 fl1 fl2 fb0 fb1 fb2 fb3 fb4; have fl0 := FX.out.l0; have fl1 := FX.out.l1; have fl2 := FX.out.l2; have fb0 := FX.out.b0; have fb1 := FX.out.b1; have fb2 := FX.out.b2; have fb3 := FX.out.b3; have fb4 := FX.out.b4; simp only at fb0 fb1 fb2 fb3 fb4) | (go_at_call 35; refine (shut_st P.out (by omega)).mono ?_; rintro e wN ⟨rfl, hp, hk⟩; replace K := Aside0.mk (K.out.trans hk); replace P := Aside0.mk hp; replace FX := Aside0.mk (FACT.out _ K.out); clear hp hk; clear fl0 fl1 fl2 fb0 fb1 fb2 fb3 fb4; have fl0 := FX.out.l0; have fl1 := FX.out.l1; have fl2 := FX.out.l2; have fb0 := FX.out.b0; have fb1 := FX.out.b1; have fb2 := FX.out.b2; have fb3 := FX.out.b3; have fb4 := FX.out.b4; simp only at fb0 fb1 fb2 fb3 fb4))
          go_roundg (ps.length - (i + 1))
          case rel => exact ⟨wrap64 (ii + 1), i + 1, _, by first | rfl | (simp; done) | (simp [hw1]; done), ⟨by rw [hw1]; have := hii.out; omega⟩, by have := hii.out; omega, rfl, Aside0.mk hnext.out, ⟨Nat.le_trans P.out.2.2 (by omega)⟩, ⟨P.out.1, FX.out.bA⟩⟩
          case measure => have := hii.out; have := G.out.2.2.2.2.2.2.2.2; omega
        · have hcl := eq_true (show ii < (ps.length : Int) - 1 by have := hii.out; omega)
          have hnext : wrAll N s0 s1 s2 (ps.drop (i + 1)) (endNl (acc ++ T)) = R := by
            have := wrAll_next hall.out G.out.2.2.2.2.1
            simpa [wrPart, hlast] using this
          replace hnext := Aside0.mk hnext
          go_upto_region 7 with (fail)
          have FACT := Aside0.mk (Rd3.of (w := w) (wA := wA) (lb := lb) (g := wb.heap.size) (p := ⟨false, T, S0, S1, S2⟩) HA.out.2.2.1 HA.out.2.2.2.2.2 (heap_alloc_new wb _) (by have := G.out.2.2.2.2.2.2.1; omega) HA.out.2.2.2.2.1 (hI.out.2.trans (below_lo (below_alloc (Below.refl _ _) (Obj.cells #[Value.bool false, Value.slice A1 T.length c1, Value.slice A2 S0.length c2, Value.slice A3 S1.length c3, Value.slice A4 S2.length c4] 50)) (by have := G.out.2.2.2.2.2.2.1; omega)))
            (Kd.F_step G.out.1.2 (fun k hk hl => (below_alloc (Below.refl wb.heap.size wb) _).block k hl)) (Kd.F_step G.out.2.1.2 (fun k hk hl => (below_alloc (Below.refl wb.heap.size wb) _).block k hl)) (Kd.F_step G.out.2.2.1.2 (fun k hk hl => (below_alloc (Below.refl wb.heap.size wb) _).block k hl)) (Kd.F_step G.out.2.2.2.1.2 (fun k hk hl => (below_alloc (Below.refl wb.heap.size wb) _).block k hl)))
          have P : Aside0 (Pq pb (i * 200000000) acc (wb.alloc (Obj.cells #[Value.bool false, Value.slice A1 T.length c1, Value.slice A2 S0.length c2, Value.slice A3 S1.length c3, Value.slice A4 S2.length c4] 50))) := ⟨hI.out.1.below (below_alloc (Below.refl _ _) _), by have := G.out.2.2.2.2.2.2.1; simp; omega, hal.out⟩
          have hi3 : i ≤ 1000 := Nat.le_trans G.out.2.2.2.2.2.2.2.1 HPS.out
          generalize wb.alloc (Obj.cells #[Value.bool false, Value.slice A1 T.length c1, Value.slice A2 S0.length c2, Value.slice A3 S1.length c3, Value.slice A4 S2.length c4] 50) = w1 at FACT P ⊢
          have K := Aside0.mk (Pk.refl pb pb w1)
          have FX := Aside0.mk (FACT.out _ K.out)
          have fl0 := FX.out.l0
          have fl1 := FX.out.l1
          have fl2 := FX.out.l2
          have fb0 := FX.out.b0
          have fb1 := FX.out.b1
          have fb2 := FX.out.b2
          have fb3 := FX.out.b3
          have fb4 := FX.out.b4
          simp only at fb0 fb1 fb2 fb3 fb4
          clear hx0 hx1 hx2 hx3 hx4
          go_wp2_with (first | (go_at_call 36; refine (marker_st P.out _ N _ hN2.out (by first | exact HS0.out | exact HS1.out | exact HS2.out | decide) (by omega)).mono ?_; rintro e wN ⟨rfl, hp, hk⟩; replace K := Aside0.mk (K.out.trans hk); replace P := Aside0.mk hp; replace FX := Aside0.mk (FACT.out _ K.out); clear hp hk; clear fl0 fl1 fl2 fb0 fb1 fb2 fb3 fb4; have fl0 := FX.out.l0; have fl1 := FX.out.l1; have fl2 := FX.out.l2; have fb0 := FX.out.b0; have fb1 := FX.out.b1; have fb2 := FX.out.b2; have fb3 := FX.out.b3; have fb4 := FX.out.b4; simp only at fb0 fb1 fb2 fb3 fb4) | (go_at_call 37; refine (lines_st P.out _ _ _ (by first | exact FX.out.h2 | exact FX.out.h3 | exact FX.out.h4) (by first | exact row_apart G.out.2.1.2 HA.out.2.2.2.2.1 | exact row_apart G.out.2.2.1.2 HA.out.2.2.2.2.1 | exact row_apart G.out.2.2.2.1.2 HA.out.2.2.2.2.1) (by have := G.out.2.2.2.2.2.1; first | exact this.2.1 | exact this.2.2.1 | exact this.2.2.2) (by omega)).mono ?_; rintro e wN ⟨rfl, hp, hk⟩; replace K := Aside0.mk (K.out.trans hk); replace P := Aside0.mk hp; replace FX := Aside0.mk (FACT.out _ K.out); clear hp hk; clear fl0 fl1 fl2 fb0 fb1 fb2 fb3 fb4; have fl0 := FX.out.l0; have fl1 := FX.out.l1; have fl2 := FX.out.l2; have fb0 := FX.out.b0; have fb1 := FX.out.b1; have fb2 := FX.out.b2; have fb3 := FX.out.b3; have fb4 := FX.out.b4; simp only at fb0 fb1 fb2 fb3 fb4) | (go_at_call 34; refine (write_st P.out _ _ _ FX.out.h1 (row_apart G.out.1.2 HA.out.2.2.2.2.1) G.out.2.2.2.2.2.1.1 (by omega)).mono ?_; rintro e wN ⟨rfl, hp, hk⟩; replace K := Aside0.mk (K.out.trans hk); replace P := Aside0.mk hp; replace FX := Aside0.mk (FACT.out _ K.out); clear hp hk; clear fl0 fl1 fl2 fb0 fb1 fb2 fb3 fb4; have fl0 := FX.out.l0; have fl1 := FX.out.l1; have fl2 := FX.out.l2; have fb0 := FX.out.b0; have fb1 := FX.out.b1; have fb2 := FX.out.b2; have fb3 := FX.out.b3; have fb4 := FX.out.b4; simp only at fb0 fb1 fb2 fb3 fb4) | (go_at_call 35; refine (shut_st P.out (by omega)).mono ?_; rintro e wN ⟨rfl, hp, hk⟩; replace K := Aside0.mk (K.out.trans hk); replace P := Aside0.mk hp; replace FX := Aside0.mk (FACT.out _ K.out); clear hp hk; clear fl0 fl1 fl2 fb0 fb1 fb2 fb3 fb4; have fl0 := FX.out.l0; have fl1 := FX.out.l1; have fl2 := FX.out.l2; have fb0 := FX.out.b0; have fb1 := FX.out.b1; have fb2 := FX.out.b2; have fb3 := FX.out.b3; have fb4 := FX.out.b4; simp only at fb0 fb1 fb2 fb3 fb4))
          go_roundg (ps.length - (i + 1))
          case rel => exact ⟨wrap64 (ii + 1), i + 1, _, by first | rfl | (simp; done) | (simp [hw1]; done), ⟨by rw [hw1]; have := hii.out; omega⟩, by have := hii.out; omega, rfl, Aside0.mk hnext.out, ⟨Nat.le_trans P.out.2.2 (by omega)⟩, ⟨P.out.1, FX.out.bA⟩⟩
          case measure => have := hii.out; have := G.out.2.2.2.2.2.2.2.2; omega
      | true =>
        have hnext : wrAll N s0 s1 s2 (ps.drop (i + 1)) (wrReg N s0 s1 s2 acc ⟨true, T, S0, S1, S2⟩) = R := by
          have := wrAll_next hall.out G.out.2.2.2.2.1
          simpa [wrPart] using this
        replace hnext := Aside0.mk hnext
        unfold wrReg at hnext
        go_upto_region 7 with (fail)
        have FACT := Aside0.mk (Rd3.of (w := w) (wA := wA) (lb := lb) (g := wb.heap.size) (p := ⟨true, T, S0, S1, S2⟩) HA.out.2.2.1 HA.out.2.2.2.2.2 (heap_alloc_new wb _) (by have := G.out.2.2.2.2.2.2.1; omega) HA.out.2.2.2.2.1 (hI.out.2.trans (below_lo (below_alloc (Below.refl _ _) (Obj.cells #[Value.bool true, Value.slice A1 T.length c1, Value.slice A2 S0.length c2, Value.slice A3 S1.length c3, Value.slice A4 S2.length c4] 50)) (by have := G.out.2.2.2.2.2.2.1; omega)))
          (Kd.F_step G.out.1.2 (fun k hk hl => (below_alloc (Below.refl wb.heap.size wb) _).block k hl)) (Kd.F_step G.out.2.1.2 (fun k hk hl => (below_alloc (Below.refl wb.heap.size wb) _).block k hl)) (Kd.F_step G.out.2.2.1.2 (fun k hk hl => (below_alloc (Below.refl wb.heap.size wb) _).block k hl)) (Kd.F_step G.out.2.2.2.1.2 (fun k hk hl => (below_alloc (Below.refl wb.heap.size wb) _).block k hl)))
        have P : Aside0 (Pq pb (i * 200000000) acc (wb.alloc (Obj.cells #[Value.bool true, Value.slice A1 T.length c1, Value.slice A2 S0.length c2, Value.slice A3 S1.length c3, Value.slice A4 S2.length c4] 50))) := ⟨hI.out.1.below (below_alloc (Below.refl _ _) _), by have := G.out.2.2.2.2.2.2.1; simp; omega, hal.out⟩
        have hi3 : i ≤ 1000 := Nat.le_trans G.out.2.2.2.2.2.2.2.1 HPS.out
        generalize wb.alloc (Obj.cells #[Value.bool true, Value.slice A1 T.length c1, Value.slice A2 S0.length c2, Value.slice A3 S1.length c3, Value.slice A4 S2.length c4] 50) = w1 at FACT P ⊢
        have K := Aside0.mk (Pk.refl pb pb w1)
        have FX := Aside0.mk (FACT.out _ K.out)
        have fl0 := FX.out.l0
        have fl1 := FX.out.l1
        have fl2 := FX.out.l2
        have fb0 := FX.out.b0
        have fb1 := FX.out.b1
        have fb2 := FX.out.b2
        have fb3 := FX.out.b3
        have fb4 := FX.out.b4
        simp only at fb0 fb1 fb2 fb3 fb4
        clear hx0 hx1 hx2 hx3 hx4
        go_wp2_with (first | (go_at_call 36; refine (marker_st P.out _ N _ hN2.out (by first | exact HS0.out | exact HS1.out | exact HS2.out | decide) (by omega)).mono ?_; rintro e wN ⟨rfl, hp, hk⟩; replace K := Aside0.mk (K.out.trans hk); replace P := Aside0.mk hp; replace FX := Aside0.mk (FACT.out _ K.out); clear hp hk; clear fl0 fl1 fl2 fb0 fb1 fb2 fb3 fb4; have fl0 := FX.out.l0; have fl1 := FX.out.l1; have fl2 := FX.out.l2; have fb0 := FX.out.b0; have fb1 := FX.out.b1; have fb2 := FX.out.b2; have fb3 := FX.out.b3; have fb4 := FX.out.b4; simp only at fb0 fb1 fb2 fb3 fb4) | (go_at_call 37; refine (lines_st P.out _ _ _ (by first | exact FX.out.h2 | exact FX.out.h3 | exact FX.out.h4) (by first | exact row_apart G.out.2.1.2 HA.out.2.2.2.2.1 | exact row_apart G.out.2.2.1.2 HA.out.2.2.2.2.1 | exact row_apart G.out.2.2.2.1.2 HA.out.2.2.2.2.1) (by have := G.out.2.2.2.2.2.1; first | exact this.2.1 | exact this.2.2.1 | exact this.2.2.2) (by omega)).mono ?_; rintro e wN ⟨rfl, hp, hk⟩; replace K := Aside0.mk (K.out.trans hk); replace P := Aside0.mk hp; replace FX := Aside0.mk (FACT.out _ K.out); clear hp hk; clear fl0 fl1 fl2 fb0 fb1 fb2 fb3 fb4; have fl0 := FX.out.l0; have fl1 := FX.out.l1; have fl2 := FX.out.l2; have fb0 := FX.out.b0; have fb1 := FX.out.b1; have fb2 := FX.out.b2; have fb3 := FX.out.b3; have fb4 := FX.out.b4; simp only at fb0 fb1 fb2 fb3 fb4) | (go_at_call 34; refine (write_st P.out _ _ _ FX.out.h1 (row_apart G.out.1.2 HA.out.2.2.2.2.1) G.out.2.2.2.2.2.1.1 (by omega)).mono ?_; rintro e wN ⟨rfl, hp, hk⟩; replace K := Aside0.mk (K.out.trans hk); replace P := Aside0.mk hp; replace FX := Aside0.mk (FACT.out _ K.out); clear hp hk; clear fl0 fl1 fl2 fb0 fb1 fb2 fb3 fb4; have fl0 := FX.out.l0; have fl1 := FX.out.l1; have fl2 := FX.out.l2; have fb0 := FX.out.b0; have fb1 := FX.out.b1; have fb2 := FX.out.b2; have fb3 := FX.out.b3; have fb4 := FX.out.b4; simp only at fb0 fb1 fb2 fb3 fb4) | (go_at_call 35; refine (shut_st P.out (by omega)).mono ?_; rintro e wN ⟨rfl, hp, hk⟩; replace K := Aside0.mk (K.out.trans hk); replace P := Aside0.mk hp; replace FX := Aside0.mk (FACT.out _ K.out); clear hp hk; clear fl0 fl1 fl2 fb0 fb1 fb2 fb3 fb4; have fl0 := FX.out.l0; have fl1 := FX.out.l1; have fl2 := FX.out.l2; have fb0 := FX.out.b0; have fb1 := FX.out.b1; have fb2 := FX.out.b2; have fb3 := FX.out.b3; have fb4 := FX.out.b4; simp only at fb0 fb1 fb2 fb3 fb4))
        go_roundg (ps.length - (i + 1))
        case rel => exact ⟨wrap64 (ii + 1), i + 1, _, by first | rfl | (simp; done) | (simp [hw1]; done), ⟨by rw [hw1]; have := hii.out; omega⟩, by have := hii.out; omega, rfl, Aside0.mk hnext.out, ⟨Nat.le_trans P.out.2.2 (by omega)⟩, ⟨P.out.1, FX.out.bA⟩⟩
        case measure => have := hii.out; have := G.out.2.2.2.2.2.2.2.2; omega
    · have hi' : i = ps.length := by have := hii.out; omega
      have hacc : acc = R := by have := hall.out; rw [hi', List.drop_of_length_le (Nat.le_refl _)] at this; exact this
      subst hacc
      have hlen : acc.length ≤ 140737488355328 := by have := hal.out; have := HPS.out; omega
      replace hlen := Aside0.mk hlen
      clear hi'
      go_wp2_with (go_at_call 38; refine (out_calls pb pb acc wb hI.out.1 hlen.out).mono ?_; rintro e w5 ⟨A5, c5, rfl, hc5, hC5, hb5⟩; have HH := Aside0.mk (⟨hc5, hC5, hb5⟩ : _ ∧ _ ∧ _); clear hc5 hC5 hb5)
      refine bodyPost_ret (results_tmp2 rfl _ _ _) rfl ?_
      refine ⟨A5, c5, rfl, HH.out.1, HH.out.2.1, ?_⟩
      have hbw : Below w.heap.size w wb := HA.out.2.1.trans (below_lo hI.out.2 HA.out.2.2.2.2.1)
      exact hbw.trans (below_lo HH.out.2.2 hbw.size)
 · have hright : mark_right.f n = some false := by
     unfold mark_right.f
     by_cases h : n ≥ 1
     · rw [if_pos h]; have : ¬ n ≤ 16777216 := fun h2 => hn ⟨h, h2⟩; simp [this]
     · rw [if_neg h]
   have hres : writeOf n s0 s1 s2 ps = ([], 1) := by unfold writeOf; rw [if_neg hn]
   rw [hres]
   clear hn hres
   go_enter Tryd.func19, Tryd.ntmps19
   go_wp2_with (go_at_call 24; refine (mark_right.calls _ false _ hright).mono ?_; rintro e w1 ⟨rfl, hb1⟩; replace hb1 := drawn_below hb1)
   refine bodyPost_ret (results_tmp2 rfl _ _ _) rfl ?_
   exact ⟨none, 0, rfl, Nat.zero_le _, Kd.C_nil B8 _, (below_alloc (Below.refl _ _) _).trans (below_lo hb1 (by simp))⟩
end Go.Proofs.YtnnnbeimehfiiaaDoor.Q

/-! The chapter's example in plain Lean. -/
set_option linter.unusedVariables false
namespace Go.Proofs.YtnnnbeimehfiiaaDoor.Q
open Go Go.RowKit Go.Proofs.YtnnnbeimehfiiaaDoorW.PrintWords Go.Proofs.YtnnnbeimehfiiaaDoorW.SL
def knP : Pt := ⟨true, [], [120], [121], [122]⟩
def knT : List Int := [60, 60, 60, 60, 60, 60, 60, 32, 97, 10, 120, 10, 124, 124, 124, 124, 124, 124, 124, 32, 98, 10, 121, 10, 61, 61, 61, 61, 61, 61, 61, 10, 122, 10, 62, 62, 62, 62, 62, 62, 62, 32, 99, 10]
def knQ : Pt := ⟨true, [], [120, 10], [121, 10], [122, 10]⟩
theorem kn_w : writeOf 7 ⟨#[97]⟩ ⟨#[98]⟩ ⟨#[99]⟩ [knP] = (knT, 0) := by kernel_rfl
theorem kn_r : readOf 7 knT = ([knQ], 0) := by kernel_rfl
theorem kn_e : readOf 7 [60, 60, 60, 60, 60, 60, 60, 10] = ([], 5) := by kernel_rfl
end Go.Proofs.YtnnnbeimehfiiaaDoor.Q

-- Written by a program of this session (wip/gen_kn.py) for this claim; Lean checks it.
/-! known, walked. -/
set_option linter.unusedVariables false
set_option linter.unusedSimpArgs false
namespace Go.Proofs.YtnnnbeimehfiiaaDoor.Q
open Go Go.RowKit Go.Proofs.YtnnnbeimehfiiaaDoorW.PrintWords Go.Proofs.YtnnnbeimehfiiaaDoorW.PrintLast Go.Proofs.YtnnnbeimehfiiaaDoorW.PrintMore Go.Proofs.YtnnnbeimehfiiaaDoorW.SL
attribute [local go_sem] max2_int min2_int max_two min_two max_three min_three max_four min_four
theorem kn_b : ∀ x ∈ knT, byte x := by intro x hx; simp only [knT, List.mem_cons, List.not_mem_nil, or_false] at hx; unfold byte; omega
theorem kn_b2 : ∀ x ∈ ([60, 60, 60, 60, 60, 60, 60, 10] : List Int), byte x := by intro x hx; simp only [List.mem_cons, List.not_mem_nil, or_false] at hx; unfold byte; omega
theorem kn_s : strOfNums knT = (⟨#[60, 60, 60, 60, 60, 60, 60, 32, 97, 10, 120, 10, 124, 124, 124, 124, 124, 124, 124, 32, 98, 10, 121, 10, 61, 61, 61, 61, 61, 61, 61, 10, 122, 10, 62, 62, 62, 62, 62, 62, 62, 32, 99, 10]⟩ : ByteArray) := by kernel_rfl
theorem kn_s2 : strOfNums [122, 10] = (⟨#[122, 10]⟩ : ByteArray) := by kernel_rfl
theorem five_at (w : World) (o1 o2 o3 o4 o5 : Obj) : (((((w.alloc o1).alloc o2).alloc o3).alloc o4).alloc o5).heap[w.heap.size]? = some o1 ∧ (((((w.alloc o1).alloc o2).alloc o3).alloc o4).alloc o5).heap[w.heap.size + 1]? = some o2 ∧ (((((w.alloc o1).alloc o2).alloc o3).alloc o4).alloc o5).heap[w.heap.size + 1 + 1]? = some o3 ∧ (((((w.alloc o1).alloc o2).alloc o3).alloc o4).alloc o5).heap[w.heap.size + 1 + 1 + 1 + 1]? = some o5 ∧ Below w.heap.size w (((((w.alloc o1).alloc o2).alloc o3).alloc o4).alloc o5) ∧ w.heap.size ≤ (((((w.alloc o1).alloc o2).alloc o3).alloc o4).alloc o5).heap.size := by
  have z1 : (w.alloc o1).heap.size = w.heap.size + 1 := by simp
  obtain ⟨w1, h1⟩ : ∃ w1, w.alloc o1 = w1 := ⟨_, rfl⟩
  have e1 : w1.heap[w.heap.size]? = some o1 := by rw [← h1]; exact heap_alloc_new w o1
  have b1 : Below w.heap.size w w1 := by rw [← h1]; exact below_alloc (Below.refl _ _) _
  rw [h1] at z1 ⊢
  have z2 : (w1.alloc o2).heap.size = w.heap.size + 1 + 1 := by simp [z1]
  obtain ⟨w2, h2⟩ : ∃ w2, w1.alloc o2 = w2 := ⟨_, rfl⟩
  have e2 : w2.heap[w.heap.size + 1]? = some o2 := by rw [← h2, ← z1]; exact heap_alloc_new w1 o2
  have b2 : Below w1.heap.size w1 w2 := by rw [← h2]; exact below_alloc (Below.refl _ _) _
  rw [h2] at z2 ⊢
  have z3 : (w2.alloc o3).heap.size = w.heap.size + 1 + 1 + 1 := by simp [z2]
  obtain ⟨w3, h3⟩ : ∃ w3, w2.alloc o3 = w3 := ⟨_, rfl⟩
  have e3 : w3.heap[w.heap.size + 1 + 1]? = some o3 := by rw [← h3, ← z2]; exact heap_alloc_new w2 o3
  have b3 : Below w2.heap.size w2 w3 := by rw [← h3]; exact below_alloc (Below.refl _ _) _
  rw [h3] at z3 ⊢
  have z4 : (w3.alloc o4).heap.size = w.heap.size + 1 + 1 + 1 + 1 := by simp [z3]
  obtain ⟨w4, h4⟩ : ∃ w4, w3.alloc o4 = w4 := ⟨_, rfl⟩
  have b4 : Below w3.heap.size w3 w4 := by rw [← h4]; exact below_alloc (Below.refl _ _) _
  rw [h4] at z4 ⊢
  obtain ⟨w5, h5⟩ : ∃ w5, w4.alloc o5 = w5 := ⟨_, rfl⟩
  have e5 : w5.heap[w.heap.size + 1 + 1 + 1 + 1]? = some o5 := by rw [← h5, ← z4]; exact heap_alloc_new w4 o5
  have b5 : Below w4.heap.size w4 w5 := by rw [← h5]; exact below_alloc (Below.refl _ _) _
  rw [h5]
  have s5 := b5.size
  refine ⟨?_, ?_, ?_, e5, ?_, by omega⟩
  · rw [b5.block _ (by omega), b4.block _ (by omega), b3.block _ (by omega), b2.block _ (by omega)]; exact e1
  · rw [b5.block _ (by omega), b4.block _ (by omega), b3.block _ (by omega)]; exact e2
  · rw [b5.block _ (by omega), b4.block _ (by omega)]; exact e3
  · exact (((b1.trans (below_lo b2 (by omega))).trans (below_lo b3 (by omega))).trans (below_lo b4 (by omega))).trans (below_lo b5 (by omega))
theorem kn_C {W : World} {g a1 a2 a3 t : Nat} (h : W.heap[g]? = some (.cells #[.bool true, .slice none 0 0, .slice (some ⟨a1, 0, none⟩) 1 1, .slice (some ⟨a2, 0, none⟩) 1 1, .slice (some ⟨a3, 0, none⟩) 1 1] t (0, 0))) (h1 : W.heap[a1]? = some (.cells #[.int .u8 120] 5 (1, 2))) (h2 : W.heap[a2]? = some (.cells #[.int .u8 121] 5 (1, 2))) (h3 : W.heap[a3]? = some (.cells #[.int .u8 122] 5 (1, 2))) :
    Kd.C kP W (some ⟨g, 0, none⟩) [knP].length [knP] := by
  refine ⟨rfl, by decide, fun _ => ⟨_, rfl, fun j x hj => ?_⟩⟩
  cases j with
  | zero =>
    simp only [List.getElem?_cons_zero, Option.some.injEq] at hj
    subst hj
    refine ⟨_, by rfl, kP_mk W knP (A1 := none) (c1 := 0) (A2 := some ⟨a1, 0, none⟩) (c2 := 1) (A3 := some ⟨a2, 0, none⟩) (c3 := 1) (A4 := some ⟨a3, 0, none⟩) (c4 := 1) ⟨Nat.le_refl _, Kd.C_nil B8 _⟩ ⟨Nat.le_refl _, lit_C (cs := [120]) h1 (by decide)⟩ ⟨Nat.le_refl _, lit_C (cs := [121]) h2 (by decide)⟩ ⟨Nat.le_refl _, lit_C (cs := [122]) h3 (by decide)⟩, fun i u hi => ?_⟩
    rw [base_add, blk_cell h]
    rw [← Array.getElem?_toList]
    refine Eq.trans ?_ hi
    simp [knP]
  | succ j => simp at hj
set_option maxHeartbeats 16000000 in
set_option maxRecDepth 100000 in
theorem known_walk (w : World) : Calls Tryd.prog 11 #[] w fun e w' => e = .returned (.bool true) ∧ Below w.heap.size w w' := by
  obtain ⟨wa, hwa⟩ : ∃ wa, wa = w.alloc (.cells #[.int .u8 120] 5 (1, 2)) := ⟨_, rfl⟩
  obtain ⟨wb, hwb⟩ : ∃ wb, wb = wa.alloc (.cells #[.int .u8 121] 5 (1, 2)) := ⟨_, rfl⟩
  have hca := Go.Joins.run_convert_bytes_const_at (P := Tryd.prog) w 22 5 #[.int .u8 120] 1 1 w.heap.size rfl Tryd.underlying22 Tryd.underlying5
  have hcb := Go.Joins.run_convert_bytes_const_at (P := Tryd.prog) wa 22 5 #[.int .u8 121] 1 1 (w.heap.size + 1) (by rw [hwa]; simp) Tryd.underlying22 Tryd.underlying5
  have hcc := Go.Joins.run_convert_bytes_const_at (P := Tryd.prog) wb 22 5 #[.int .u8 122] 1 1 (w.heap.size + 1 + 1) (by rw [hwb, hwa]; simp) Tryd.underlying22 Tryd.underlying5
  rw [hwb, hwa] at hcc
  rw [hwa] at hcb
  clear hwa hwb
  go_enter Tryd.func11, Tryd.ntmps11
  go_wp2_with (first | (go_at_call 19; refine (Write_calls 7 ⟨#[97]⟩ ⟨#[98]⟩ ⟨#[99]⟩ (some ⟨w.heap.size + 1 + 1 + 1 + 1, 0, none⟩) 1 [knP] _ (kn_C (t := 50) (a1 := w.heap.size) (a2 := w.heap.size + 1) (a3 := w.heap.size + 1 + 1) (five_at w _ _ _ _ _).2.2.2.1 (five_at w _ _ _ _ _).1 (five_at w _ _ _ _ _).2.1 (five_at w _ _ _ _ _).2.2.1) (Nat.le_refl _) (by decide) (by intro p hp; rw [List.mem_singleton] at hp; subst hp; decide) (by decide) (by decide) (by decide)).mono ?_; rw [kn_w]; rintro e w1 ⟨A1, c1, rfl, hc1, hC1, hb1⟩; have HB1 : Aside0 (Below w.heap.size w w1) := ⟨(five_at w _ _ _ _ _).2.2.2.2.1.trans (below_lo hb1 (five_at w _ _ _ _ _).2.2.2.2.2)⟩; replace hC1 := Aside0.mk hC1; replace hc1 := Aside0.mk hc1; clear hb1) | (go_at_call 9; refine (read_calls 7 A1 c1 knT w1 hC1.out hc1.out kn_b (by decide)).mono ?_; rw [kn_r]; rintro e w2 ⟨A2, c2, rfl, hc2, hC2, hb2⟩; have HB2 := Aside0.mk (HB1.out.trans (below_lo hb2 HB1.out.size)); replace hC1 := Aside0.mk (Kd.C_below hC1.out hb2); replace hC2 := Aside0.mk hC2; have hcd := Go.Joins.run_convert_bytes_const_at (P := Tryd.prog) w2 22 5 #[.int .u8 60, .int .u8 60, .int .u8 60, .int .u8 60, .int .u8 60, .int .u8 60, .int .u8 60, .int .u8 10] 8 8 w2.heap.size rfl Tryd.underlying22 Tryd.underlying5; clear hb2) | (go_at_call 9; refine (read_calls 7 (some ⟨w2.heap.size, 0, none⟩) 8 [60, 60, 60, 60, 60, 60, 60, 10] _ (lit_C (cs := [60, 60, 60, 60, 60, 60, 60, 10]) (heap_alloc_new w2 _) (by decide)) (Nat.le_refl _) kn_b2 (by decide)).mono ?_; rw [kn_e]; rintro e w3 ⟨A3, c3, rfl, _, _, hb3⟩; have hb3_ := (below_alloc (Below.refl _ _) _).trans (below_lo hb3 (by simp)); have HB3 := Aside0.mk (HB2.out.trans (below_lo hb3_ HB2.out.size)); replace hC1 := Kd.C_below hC1.out hb3_; replace hC2 := Kd.C_below hC2.out hb3_; clear hb3 hb3_; have hst1 := Kd.C_string (P := Tryd.prog) (c := c1) Tryd.underlying22 Tryd.underlying5 Tryd.underlying9 hC1; rw [kn_s] at hst1; obtain ⟨a2, x2, B1, d1, B2, d2, B3, d3, B4, d4, rfl, hx2, _, q0, q1, q2, q3, q4, k1, k2, k3, k4⟩ := at_Pt (Kd.C_F kP_heap hC2) 0 (Int.le_refl _) (by decide); obtain rfl : knQ = x2 := Option.some.inj hx2; have hst2 := Kd.C_string (P := Tryd.prog) (c := d4) Tryd.underlying22 Tryd.underlying5 Tryd.underlying9 (Kd.F_now k4.2); rw [show knQ.s2 = [122, 10] from rfl, kn_s2] at hst2; have e0_ : a2.add ((0 : Int).toNat * 5) = a2 := (by simp [Addr.add]); rw [e0_] at q0 q4; replace q0 : w3.cell? a2 = some (.bool true) := q0; replace q4 : w3.cell? ⟨a2.block, a2.off + 4, none⟩ = some (.slice B4 2 d4) := q4; replace hst2 : (convert 22 9 (.slice B4 2 d4)).run Tryd.prog w3 = .ok (.string ⟨#[122, 10]⟩) w3 := hst2; clear e0_ q1 q2 q3; replace hC1 := Aside0.mk hC1; replace hC2 := Aside0.mk hC2; clear k1 k2 k3 k4 hx2))
  go_ret
  exact ⟨rfl, HB3.out⟩
end Go.Proofs.YtnnnbeimehfiiaaDoor.Q

/-! MarkReads, walked: it answers true. -/
set_option linter.unusedVariables false
set_option linter.unusedSimpArgs false
namespace Go.Proofs.YtnnnbeimehfiiaaDoor.Q
open Go Go.RowKit Go.Proofs.YtnnnbeimehfiiaaDoorW.PrintWords Go.Proofs.YtnnnbeimehfiiaaDoorW.PrintLast Go.Proofs.YtnnnbeimehfiiaaDoorW.PrintMore Go.Proofs.YtnnnbeimehfiiaaDoorW.SL
attribute [local go_sem] max2_int min2_int max_two min_two max_three min_three max_four min_four
theorem onLast_len (f : Pt → Pt) : ∀ l : List Pt, (onLast f l).length = l.length
  | [] => rfl
  | [p] => rfl
  | p :: q :: r => by simp only [onLast, List.length_cons]; rw [onLast_len f (q :: r)]; rfl
theorem rdStep_len {n : Nat} {s t : List Pt × Nat} {x : List Int} (h : rdStep n s x = some t) : t.1.length ≤ s.1.length + 1 := by
  unfold rdStep at h
  split at h
  · split at h
    · split at h
      · split at h
        · injection h with h; subst h; simp
        · injection h with h; subst h; simp [onLast_len]
      · rename_i h2
        injection h with h; subst h; simp
    · injection h with h; subst h; simp [onLast_len]
  · split at h
    · injection h with h; subst h; simp
    · split at h
      · injection h with h; subst h; simp
      · split at h
        · injection h with h; subst h; simp
        · cases h
theorem rdAll_len {n : Nat} : ∀ {l : List (List Int)} {s t : List Pt × Nat}, rdAll n l s = some t → t.1.length ≤ s.1.length + l.length
  | [], s, t, h => by simp only [rdAll, Option.some.injEq] at h; subst h; simp
  | x :: r, s, t, h => by
    simp only [rdAll] at h
    obtain ⟨u, hu, h⟩ := Option.bind_eq_some_iff.1 h
    have h1 := rdStep_len hu
    have h2 := rdAll_len h
    simp only [List.length_cons]; omega
theorem readOf_len (n : Int) (b : List Int) : (readOf n b).1.length ≤ b.length := by
  unfold readOf
  split
  · split
    · rename_i ps st h
      split
      · have := rdAll_len h
        have h2 := linesOf_len b
        simp at this ⊢; omega
      · simp
    · simp
  · simp
set_option maxHeartbeats 16000000 in
set_option maxRecDepth 100000 in
theorem reads_calls (n : Int) (A : Option Addr) (c : Nat) (b : List Int) (w : World) (hr : Kd.C B8 w A b.length b) (hc : b.length ≤ c) (hb : ∀ x ∈ b, byte x) :
    Calls Tryd.prog 3 #[.int .i64 n, .slice A b.length c] w fun e w' => e = .returned (.bool true) ∧ Below w.heap.size w w' := by
  by_cases hle : (b.length : Int) ≤ 5000
  · have hle2 := eq_true hle
    obtain ⟨d, hd⟩ : ∃ d, d = b := ⟨_, rfl⟩
    have hC : Kd.C B8 w A d.length d := by rw [hd]; exact hr
    have hdb : ∀ x ∈ d, byte x := by rw [hd]; exact hb
    have hdq : d.length = b.length := by rw [hd]
    have hd5 : d.length ≤ 5000 := by rw [hd]; omega
    have hdc : d.length ≤ c := by rw [hd]; exact hc
    have htk := take_at A c b (b.length : Int) (by omega) (by omega) hc
    have hstr : ∀ W, Kd.C B8 W A d.length d → (convert 22 9 (.slice A d.length c)).run Tryd.prog W = .ok (.string (strOfNums d)) W := fun W h => Kd.C_string Tryd.underlying22 Tryd.underlying5 Tryd.underlying9 h
    have hst := hstr w hC
    have hpl := readOf_len n d
    obtain ⟨⟨ps, err⟩, hpe⟩ : ∃ r, readOf n d = r := ⟨_, rfl⟩
    have hR := fun W hW => read_calls n A c d W hW hdc hdb (by omega)
    have hRR := fun W hW => rread_calls n A c d W hW hdc hdb (by omega)
    rw [hpe] at hpl
    simp only [hpe] at hR hRR
    have hpl2 : ps.length ≤ 5000000 := by simp only at hpl; omega
    rw [Int.toNat_natCast] at htk
    have hq0 := eq_true (show (0 : Int) ≤ (b.length : Int) by omega)
    subst hd
    have HC := Aside0.mk hC
    have HPL := Aside0.mk hpl2
    replace hR := Aside0.mk hR
    replace hRR := Aside0.mk hRR
    replace hstr := Aside0.mk hstr
    clear hr hc hb hC hdb hdc hd5 hpl hpe hpl2 hdq
    go_enter Tryd.func3, Tryd.ntmps3
    go_wp2_with (first | (go_at_call 9; refine (hR.out w HC.out).mono ?_; rintro e w1 ⟨A1, c1, rfl, hc1, hC1, hb1⟩; have H1 := Aside0.mk (⟨hc1, hC1, hb1⟩ : _ ∧ _ ∧ _); clear hc1 hC1 hb1) | (go_at_call 10; refine (hRR.out w1 (Kd.C_below HC.out H1.out.2.2)).mono ?_; rintro e w2 ⟨A2, c2, rfl, hc2, hC2, hb2⟩; have H2 := Aside0.mk (⟨hc2, hC2, Kd.C_below H1.out.2.1 hb2, H1.out.2.2.trans (below_lo hb2 H1.out.2.2.size)⟩ : _ ∧ _ ∧ _ ∧ _); clear hc2 hC2 hb2) | (go_at_call 11; refine (known_walk w2).mono ?_; rintro e w3 ⟨rfl, hb3⟩; have H3 := Aside0.mk (⟨Kd.C_below H2.out.2.1 hb3, Kd.C_below H2.out.2.2.1 hb3, H2.out.2.2.2.trans (below_lo hb3 H2.out.2.2.2.size)⟩ : _ ∧ _ ∧ _); clear hb3) | (go_at_call 13; refine (as_calls A1 c1 ps w3 H3.out.2.1 H1.out.1 HPL.out).mono ?_; rintro e w4 ⟨A4, c4, rfl, hc4, hC4, hb4⟩; have H4 := Aside0.mk (⟨hC4, Kd.C_below H3.out.1 hb4, H3.out.2.2.trans (below_lo hb4 H3.out.2.2.size)⟩ : _ ∧ _ ∧ _); clear hc4 hC4 hb4) | (go_at_call 12; refine (same_calls A4 A2 c4 c2 ps w4 H4.out.1 H4.out.2.1).mono ?_; rintro e w5 ⟨rfl, hb5⟩; have H5 := Aside0.mk (H4.out.2.2.trans (below_lo hb5 H4.out.2.2.size)); have hst5 := hstr.out w5 (Kd.C_below HC.out H5.out); clear hb5))
    go_ret
    exact ⟨rfl, H5.out⟩
  · have hlt : (5000 : Int) < (b.length : Int) := by omega
    have hlt2 := eq_true hlt
    have hle3 := eq_true (show (5000 : Int) ≤ (b.length : Int) by omega)
    obtain ⟨d, hd⟩ : ∃ d, d = b.take 5000 := ⟨_, rfl⟩
    have hC : Kd.C B8 w A d.length d := by rw [hd]; exact Kd.C_take hr (m := 5000) (by omega)
    have hdb : ∀ x ∈ d, byte x := by rw [hd]; exact fun x hx => hb x (List.mem_of_mem_take hx)
    have hdq : d.length = 5000 := by rw [hd]; rw [List.length_take]; omega
    have hd5 : d.length ≤ 5000 := by omega
    have hdc : d.length ≤ c := by omega
    have htk := take_at A c b (5000 : Int) (by omega) (by omega) hc
    have hstr : ∀ W, Kd.C B8 W A d.length d → (convert 22 9 (.slice A d.length c)).run Tryd.prog W = .ok (.string (strOfNums d)) W := fun W h => Kd.C_string Tryd.underlying22 Tryd.underlying5 Tryd.underlying9 h
    have hst := hstr w hC
    have hpl := readOf_len n d
    obtain ⟨⟨ps, err⟩, hpe⟩ : ∃ r, readOf n d = r := ⟨_, rfl⟩
    have hR := fun W hW => read_calls n A c d W hW hdc hdb (by omega)
    have hRR := fun W hW => rread_calls n A c d W hW hdc hdb (by omega)
    rw [hpe] at hpl
    simp only [hpe] at hR hRR
    have hpl2 : ps.length ≤ 5000000 := by simp only at hpl; omega
    rw [show (5000 : Int).toNat = 5000 from rfl] at htk
    rw [hdq] at hstr hst hR hRR hC
    have HC := Aside0.mk hC
    have HPL := Aside0.mk hpl2
    replace hR := Aside0.mk hR
    replace hRR := Aside0.mk hRR
    replace hstr := Aside0.mk hstr
    clear hr hc hb hd hC hdb hdc hd5 hpl hpe hpl2 hdq
    go_enter Tryd.func3, Tryd.ntmps3
    go_wp2_with (first | (go_at_call 9; refine (hR.out w HC.out).mono ?_; rintro e w1 ⟨A1, c1, rfl, hc1, hC1, hb1⟩; have H1 := Aside0.mk (⟨hc1, hC1, hb1⟩ : _ ∧ _ ∧ _); clear hc1 hC1 hb1) | (go_at_call 10; refine (hRR.out w1 (Kd.C_below HC.out H1.out.2.2)).mono ?_; rintro e w2 ⟨A2, c2, rfl, hc2, hC2, hb2⟩; have H2 := Aside0.mk (⟨hc2, hC2, Kd.C_below H1.out.2.1 hb2, H1.out.2.2.trans (below_lo hb2 H1.out.2.2.size)⟩ : _ ∧ _ ∧ _ ∧ _); clear hc2 hC2 hb2) | (go_at_call 11; refine (known_walk w2).mono ?_; rintro e w3 ⟨rfl, hb3⟩; have H3 := Aside0.mk (⟨Kd.C_below H2.out.2.1 hb3, Kd.C_below H2.out.2.2.1 hb3, H2.out.2.2.2.trans (below_lo hb3 H2.out.2.2.2.size)⟩ : _ ∧ _ ∧ _); clear hb3) | (go_at_call 13; refine (as_calls A1 c1 ps w3 H3.out.2.1 H1.out.1 HPL.out).mono ?_; rintro e w4 ⟨A4, c4, rfl, hc4, hC4, hb4⟩; have H4 := Aside0.mk (⟨hC4, Kd.C_below H3.out.1 hb4, H3.out.2.2.trans (below_lo hb4 H3.out.2.2.size)⟩ : _ ∧ _ ∧ _); clear hc4 hC4 hb4) | (go_at_call 12; refine (same_calls A4 A2 c4 c2 ps w4 H4.out.1 H4.out.2.1).mono ?_; rintro e w5 ⟨rfl, hb5⟩; have H5 := Aside0.mk (H4.out.2.2.trans (below_lo hb5 H4.out.2.2.size)); have hst5 := hstr.out w5 (Kd.C_below HC.out H5.out); clear hb5))
    go_ret
    exact ⟨rfl, H5.out⟩
end Go.Proofs.YtnnnbeimehfiiaaDoor.Q
