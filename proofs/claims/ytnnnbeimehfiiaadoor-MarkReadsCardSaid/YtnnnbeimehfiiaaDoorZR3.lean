/- The texts of this claim that lie below its row, in their order: KWr KRead KKn0 KKn KReadsL. -/
import Derived.Test.YtnnnbeimehfiiaaDoorZR2
-- Written by a program of this session (wip/gen_write.py) for this claim; Lean checks it.
/-! mark.Write, walked. -/
set_option linter.unusedVariables false
set_option linter.unusedSimpArgs false
namespace Go.Proofs.YtnnnbeimehfiiaaDoor.Q
open Go Go.RowKit Go.Proofs.YtnnnbeimehfiiaaDoorW.PrintWords Go.Proofs.YtnnnbeimehfiiaaDoorW.PrintLast Go.Proofs.YtnnnbeimehfiiaaDoorW.PrintMore Go.Proofs.YtnnnbeimehfiiaaDoorW.SL
attribute [local go_sem] max2_int min2_int max_two min_two max_three min_three max_four min_four
set_option maxHeartbeats 16000000 in
set_option maxRecDepth 100000 in
theorem Write_calls (n : Int) (s0 s1 s2 : ByteArray) (A : Option Addr) (c : Nat) (ps : List Pt) (w : World) (hr : Kd.C kP w A ps.length ps) (hc : ps.length ≤ c) (hps : ps.length ≤ 1000) (hf : ∀ p ∈ ps, p.text.length ≤ 5000000 ∧ p.s0.length ≤ 5000000 ∧ p.s1.length ≤ 5000000 ∧ p.s2.length ≤ 5000000)
    (hs0 : s0.size ≤ 9223372036854775807) (hs1 : s1.size ≤ 9223372036854775807) (hs2 : s2.size ≤ 9223372036854775807) :
    Calls Tryd.prog 19 #[.int .i64 n, .agg #[.string s0, .string s1, .string s2], .slice A ps.length c] w fun e w' => ∃ (A' : Option Addr) (c' : Nat), e = .returned (.tuple #[.slice A' (writeOf n s0 s1 s2 ps).1.length c', .int .i64 (writeOf n s0 s1 s2 ps).2]) ∧ (writeOf n s0 s1 s2 ps).1.length ≤ c' ∧ Kd.C B8 w' A' (writeOf n s0 s1 s2 ps).1.length (writeOf n s0 s1 s2 ps).1 ∧ Below w.heap.size w w' := by
 have HX := Aside0.mk (Kd.C_F kP_heap hr)
 have HC := Aside0.mk hc; have HPS := Aside0.mk hps; have HF := Aside0.mk hf; have HS0 := Aside0.mk hs0; have HS1 := Aside0.mk hs1; have HS2 := Aside0.mk hs2
 clear hr hc hps hf hs0 hs1 hs2
 by_cases hn : n ≥ 1 ∧ n ≤ 16777216
 · have hright : mark_right.f n = some true := by unfold mark_right.f; rw [if_pos hn.1]; simp [hn.2]
   obtain ⟨N, hN⟩ := Int.eq_ofNat_of_zero_le (by omega : 0 ≤ n)
   have hN1 : 1 ≤ N := by omega
   have hN2 : N ≤ 16777216 := by omega
   have hres : writeOf n s0 s1 s2 ps = (wrAll N s0 s1 s2 ps [], 0) := by unfold writeOf; rw [if_pos hn, hN]; rfl
   obtain ⟨R, hR⟩ : ∃ R, wrAll N s0 s1 s2 ps [] = R := ⟨_, rfl⟩
   rw [hres, hR]
   have HRT := Aside0.mk hright
   clear hres hn hright
   subst hN
   replace hR := Aside0.mk hR
   replace hN1 := Aside0.mk hN1
   replace hN2 := Aside0.mk hN2
   go_enter Tryd.func19, Tryd.ntmps19
   go_wp2_with (go_at_call 24; refine (mark_right.calls _ true _ HRT.out).mono ?_; rintro e w2 ⟨rfl, hb1⟩; replace hb1 := drawn_below hb1)
   have hlt2 : w.heap.size < w2.heap.size := by have := hb1.size; simp at this; omega
   have hbA0 : Below w.heap.size w w2 := (below_alloc (Below.refl _ _) _).trans (below_lo hb1 (by simp))
   have hlb : w2.heap[w.heap.size]? = some (.cells #[.string s0, .string s1, .string s2] 39 (0, 0)) := (hb1.block _ (by simp)).trans (heap_alloc_new w _)
   obtain ⟨pb, hpb⟩ : ∃ pb, pb = w2.heap.size := ⟨_, rfl⟩
   obtain ⟨lb, hlb0⟩ : ∃ lb, lb = w.heap.size := ⟨_, rfl⟩
   obtain ⟨wA, hwA⟩ : ∃ wA, wA = w2.alloc (Obj.cells #[Value.slice none 0 0, Value.int IntKind.i64 0, Value.int IntKind.i8 0] 73) := ⟨_, rfl⟩
   have hPg0 : Pg pb pb [] wA := LibA.zero_isBuffer (Nat.le_refl _) (LibA.three_whole (by rw [hwA, hpb]; exact heap_alloc_new w2 _))
   have hbA : Below w.heap.size w wA := by rw [hwA]; exact hbA0.trans (below_lo (below_alloc (Below.refl _ _) _) hbA0.size)
   have hlbA : wA.heap[lb]? = some (.cells #[.string s0, .string s1, .string s2] 39 (0, 0)) := by rw [hwA, hlb0]; exact ((below_alloc (Below.refl w2.heap.size w2) _).block _ hlt2).trans hlb
   have hsA : pb < wA.heap.size := by rw [hwA, hpb]; simp
   have hpw : w.heap.size ≤ pb ∧ lb < pb := by omega
   rw [← hpb, ← hwA, ← hlb0]
   have HA := Aside0.mk (⟨hPg0, hbA, hlbA, hsA, hpw⟩ : _ ∧ _ ∧ _ ∧ _ ∧ _)
   clear hlt2 hbA0 hlb hPg0 hbA hlbA hsA hpw hwA hpb hb1 hlb0
   go_loopg [16] ps.length (fun kq v16 W => ∃ (ii : Int) (i : Nat) (acc : List Int), v16 = .int .i64 ii ∧ Aside0 (ii = (i : Int)) ∧ i ≤ ps.length ∧ kq = ps.length - i ∧ Aside0 (wrAll N s0 s1 s2 (ps.drop i) acc = R) ∧ Aside0 (acc.length ≤ i * 200000000) ∧ Aside0 (Pg pb pb acc W ∧ Below pb wA W))
   case atStart => exact ⟨0, 0, [], rfl, ⟨rfl⟩, Nat.zero_le _, rfl, hR, ⟨Nat.le_refl _⟩, ⟨HA.out.1, Below.refl _ _⟩⟩
   case round =>
    obtain ⟨ii, i, acc, rfl, hii, hi, hgk, hall, hal, hI⟩ := hrel
    obtain ⟨wb, rfl⟩ : ∃ q, q = wr := ⟨_, rfl⟩
    by_cases hin : ii < (ps.length : Int)
    · have p0 : 0 ≤ ii := by have := hii.out; omega
      have hbw : Below w.heap.size w wb := HA.out.2.1.trans (below_lo hI.out.2 HA.out.2.2.2.2.1)
      obtain ⟨ad, x, A1, c1, A2, c2, A3, c3, A4, c4, rfl, hxi, hok, hx0, hx1, hx2, hx3, hx4, g1, g2, g3, g4⟩ := at_Pt (Kd.F_step HX.out (fun k hk _ => hbw.block k hk)) ii p0 hin
      have e0 : ii.toNat = i := by have := hii.out; omega
      rw [e0] at hxi
      have hxm := HF.out x (List.mem_of_getElem? hxi)
      have hsz : wA.heap.size ≤ wb.heap.size := hI.out.2.size
      have hg : pb < wb.heap.size := Nat.lt_of_lt_of_le HA.out.2.2.2.1 hsz
      have hw1 : wrap64 (ii + 1) = ii + 1 := by have := hii.out; have := HPS.out; unfold wrap64; omega
      have hw2 : wrap64 ((ps.length : Int) - 1) = (ps.length : Int) - 1 := by have := HPS.out; unfold wrap64; omega
      have G := Aside0.mk (⟨g1, g2, g3, g4, hxi, hxm, hg, hi, hgk⟩ : _ ∧ _ ∧ _ ∧ _ ∧ _ ∧ _ ∧ _ ∧ _ ∧ _)
      have hinb := eq_true hin
      have p0b := eq_true p0
      obtain ⟨rg, T, S0, S1, S2⟩ := x
      simp only at hx0 hx1 hx2 hx3 hx4
      replace e0 := Aside0.mk e0
      have hbw' := Aside0.mk hbw
      clear g1 g2 g3 g4 hxi hok hxm hsz hg hbw hi hgk
      cases rg with
      | false =>
        by_cases hlast : i + 1 = ps.length
        · have hcl := eq_false (show ¬ ii < (ps.length : Int) - 1 by have := hii.out; omega)
          have hcl2 := eq_true (show (ps.length : Int) - 1 ≤ ii by have := hii.out; omega)
          have hnext : wrAll N s0 s1 s2 (ps.drop (i + 1)) (acc ++ T) = R := by
            have := wrAll_next hall.out G.out.2.2.2.2.1
            simpa [wrPart, hlast] using this
          replace hnext := Aside0.mk hnext
          go_upto_region 7 with (fail)
          have FACT := Aside0.mk (Rd3.of (w := w) (wA := wA) (lb := lb) (g := wb.heap.size) (p := ⟨false, T, S0, S1, S2⟩) HA.out.2.2.1 HA.out.2.2.2.2.2 (heap_alloc_new wb _) (by have := G.out.2.2.2.2.2.2.1; omega) HA.out.2.2.2.2.1 (hI.out.2.trans (below_lo (below_alloc (Below.refl _ _) (Obj.cells #[Value.bool false, Value.slice A1 T.length c1, Value.slice A2 S0.length c2, Value.slice A3 S1.length c3, Value.slice A4 S2.length c4] 50)) (by have := G.out.2.2.2.2.2.2.1; omega)))
            (Kd.F_step G.out.1.2 (fun k hk hl => (below_alloc (Below.refl wb.heap.size wb) _).block k hl)) (Kd.F_step G.out.2.1.2 (fun k hk hl => (below_alloc (Below.refl wb.heap.size wb) _).block k hl)) (Kd.F_step G.out.2.2.1.2 (fun k hk hl => (below_alloc (Below.refl wb.heap.size wb) _).block k hl)) (Kd.F_step G.out.2.2.2.1.2 (fun k hk hl => (below_alloc (Below.refl wb.heap.size wb) _).block k hl)))
          have P : Aside0 (Pq pb (i * 200000000) acc (wb.alloc (Obj.cells #[Value.bool false, Value.slice A1 T.length c1, Value.slice A2 S0.length c2, Value.slice A3 S1.length c3, Value.slice A4 S2.length c4] 50))) := ⟨hI.out.1.below (below_alloc (Below.refl _ _) _), by have := G.out.2.2.2.2.2.2.1; simp; omega, hal.out⟩
          have hi3 : i ≤ 1000 := Nat.le_trans G.out.2.2.2.2.2.2.2.1 HPS.out
          generalize wb.alloc (Obj.cells #[Value.bool false, Value.slice A1 T.length c1, Value.slice A2 S0.length c2, Value.slice A3 S1.length c3, Value.slice A4 S2.length c4] 50) = w1 at FACT P ⊢
          have K := Aside0.mk (Pk.refl pb pb w1)
          have FX := Aside0.mk (FACT.out _ K.out)
          have fl0 := FX.out.l0
          have fl1 := FX.out.l1
          have fl2 := FX.out.l2
          have fb0 := FX.out.b0
          have fb1 := FX.out.b1
          have fb2 := FX.out.b2
          have fb3 := FX.out.b3
          have fb4 := FX.out.b4
          simp only at fb0 fb1 fb2 fb3 fb4
          clear hx0 hx1 hx2 hx3 hx4
          go_wp2_with (first | (go_at_call 36; refine (marker_st P.out _ N _ hN2.out (by first | exact HS0.out | exact HS1.out | exact HS2.out | decide) (by omega)).mono ?_; rintro e wN ⟨rfl, hp, hk⟩; replace K := Aside0.mk (K.out.trans hk); replace P := Aside0.mk hp; replace FX := Aside0.mk (FACT.out _ K.out); clear hp hk; clear fl0 fl1 fl2 fb0 fb1 fb2 fb3 fb4; have fl0 := FX.out.l0; have fl1 := FX.out.l1; have fl2 := FX.out.l2; have fb0 := FX.out.b0; have fb1 := FX.out.b1; have fb2 := FX.out.b2; have fb3 := FX.out.b3; have fb4 := FX.out.b4; simp only at fb0 fb1 fb2 fb3 fb4) | (go_at_call 37; refine (lines_st P.out _ _ _ (by first | exact FX.out.h2 | exact FX.out.h3 | exact FX.out.h4) (by first | exact row_apart G.out.2.1.2 HA.out.2.2.2.2.1 | exact row_apart G.out.2.2.1.2 HA.out.2.2.2.2.1 | exact row_apart G.out.2.2.2.1.2 HA.out.2.2.2.2.1) (by have := G.out.2.2.2.2.2.1; first | exact this.2.1 | exact this.2.2.1 | exact this.2.2.2) (by omega)).mono ?_; rintro e wN ⟨rfl, hp, hk⟩; replace K := Aside0.mk (K.out.trans hk); replace P := Aside0.mk hp; replace FX := Aside0.mk (FACT.out _ K.out); clear hp hk; clear fl0 fl1 fl2 fb0 fb1 fb2 fb3 fb4; have fl0 := FX.out.l0; have fl1 := FX.out.l1; have fl2 := FX.out.l2; have fb0 := FX.out.b0; have fb1 := FX.out.b1; have fb2 := FX.out.b2; have fb3 := FX.out.b3; have fb4 := FX.out.b4; simp only at fb0 fb1 fb2 fb3 fb4) | (go_at_call 34; refine (write_st P.out _ _ _ FX.out.h1 (row_apart G.out.1.2 HA.out.2.2.2.2.1) G.out.2.2.2.2.2.1.1 (by omega)).mono ?_; rintro e wN ⟨rfl, hp, hk⟩; replace K := Aside0.mk (K.out.trans hk); replace P := Aside0.mk hp; replace FX := Aside0.mk (FACT.out _ K.out); clear hp hk; clear fl0 fl1 fl2 fb0 fb1 fb2 fb3 fb4; have fl0 := FX.out.l0; have fl1 := FX.out.l1; have fl2 := FX.out.l2; have fb0 := FX.out.b0; have fb1 := FX.out.b1; have fb2 := FX.out.b2; have fb3 := FX.out.b3; have fb4 := FX.out.b4; simp only at fb0 fb1 fb2 fb3 fb4) | (go_at_call 35; refine (shut_st P.out (by omega)).mono ?_; rintro e wN ⟨rfl, hp, hk⟩; replace K := Aside0.mk (K.out.trans hk); replace P := Aside0.mk hp; replace FX := Aside0.mk (FACT.out _ K.out); clear hp hk; clear fl0 fl1 fl2 fb0 fb1 fb2 fb3 fb4; have fl0 := FX.out.l0; have fl1 := FX.out.l1; have fl2 := FX.out.l2; have fb0 := FX.out.b0; have fb1 := FX.out.b1; have fb2 := FX.out.b2; have fb3 := FX.out.b3; have fb4 := FX.out.b4; simp only at fb0 fb1 fb2 fb3 fb4))
          go_roundg (ps.length - (i + 1))
          case rel => exact ⟨wrap64 (ii + 1), i + 1, _, by first | rfl | (simp; done) | (simp [hw1]; done), ⟨by rw [hw1]; have := hii.out; omega⟩, by have := hii.out; omega, rfl, Aside0.mk hnext.out, ⟨Nat.le_trans P.out.2.2 (by omega)⟩, ⟨P.out.1, FX.out.bA⟩⟩
          case measure => have := hii.out; have := G.out.2.2.2.2.2.2.2.2; omega
        · have hcl := eq_true (show ii < (ps.length : Int) - 1 by have := hii.out; omega)
          have hnext : wrAll N s0 s1 s2 (ps.drop (i + 1)) (endNl (acc ++ T)) = R := by
            have := wrAll_next hall.out G.out.2.2.2.2.1
            simpa [wrPart, hlast] using this
          replace hnext := Aside0.mk hnext
          go_upto_region 7 with (fail)
          have FACT := Aside0.mk (Rd3.of (w := w) (wA := wA) (lb := lb) (g := wb.heap.size) (p := ⟨false, T, S0, S1, S2⟩) HA.out.2.2.1 HA.out.2.2.2.2.2 (heap_alloc_new wb _) (by have := G.out.2.2.2.2.2.2.1; omega) HA.out.2.2.2.2.1 (hI.out.2.trans (below_lo (below_alloc (Below.refl _ _) (Obj.cells #[Value.bool false, Value.slice A1 T.length c1, Value.slice A2 S0.length c2, Value.slice A3 S1.length c3, Value.slice A4 S2.length c4] 50)) (by have := G.out.2.2.2.2.2.2.1; omega)))
            (Kd.F_step G.out.1.2 (fun k hk hl => (below_alloc (Below.refl wb.heap.size wb) _).block k hl)) (Kd.F_step G.out.2.1.2 (fun k hk hl => (below_alloc (Below.refl wb.heap.size wb) _).block k hl)) (Kd.F_step G.out.2.2.1.2 (fun k hk hl => (below_alloc (Below.refl wb.heap.size wb) _).block k hl)) (Kd.F_step G.out.2.2.2.1.2 (fun k hk hl => (below_alloc (Below.refl wb.heap.size wb) _).block k hl)))
          have P : Aside0 (Pq pb (i * 200000000) acc (wb.alloc (Obj.cells #[Value.bool false, Value.slice A1 T.length c1, Value.slice A2 S0.length c2, Value.slice A3 S1.length c3, Value.slice A4 S2.length c4] 50))) := ⟨hI.out.1.below (below_alloc (Below.refl _ _) _), by have := G.out.2.2.2.2.2.2.1; simp; omega, hal.out⟩
          have hi3 : i ≤ 1000 := Nat.le_trans G.out.2.2.2.2.2.2.2.1 HPS.out
          generalize wb.alloc (Obj.cells #[Value.bool false, Value.slice A1 T.length c1, Value.slice A2 S0.length c2, Value.slice A3 S1.length c3, Value.slice A4 S2.length c4] 50) = w1 at FACT P ⊢
          have K := Aside0.mk (Pk.refl pb pb w1)
          have FX := Aside0.mk (FACT.out _ K.out)
          have fl0 := FX.out.l0
          have fl1 := FX.out.l1
          have fl2 := FX.out.l2
          have fb0 := FX.out.b0
          have fb1 := FX.out.b1
          have fb2 := FX.out.b2
          have fb3 := FX.out.b3
          have fb4 := FX.out.b4
          simp only at fb0 fb1 fb2 fb3 fb4
          clear hx0 hx1 hx2 hx3 hx4
          go_wp2_with (first | (go_at_call 36; refine (marker_st P.out _ N _ hN2.out (by first | exact HS0.out | exact HS1.out | exact HS2.out | decide) (by omega)).mono ?_; rintro e wN ⟨rfl, hp, hk⟩; replace K := Aside0.mk (K.out.trans hk); replace P := Aside0.mk hp; replace FX := Aside0.mk (FACT.out _ K.out); clear hp hk; clear fl0 fl1 fl2 fb0 fb1 fb2 fb3 fb4; have fl0 := FX.out.l0; have fl1 := FX.out.l1; have fl2 := FX.out.l2; have fb0 := FX.out.b0; have fb1 := FX.out.b1; have fb2 := FX.out.b2; have fb3 := FX.out.b3; have fb4 := FX.out.b4; simp only at fb0 fb1 fb2 fb3 fb4) | (go_at_call 37; refine (lines_st P.out _ _ _ (by first | exact FX.out.h2 | exact FX.out.h3 | exact FX.out.h4) (by first | exact row_apart G.out.2.1.2 HA.out.2.2.2.2.1 | exact row_apart G.out.2.2.1.2 HA.out.2.2.2.2.1 | exact row_apart G.out.2.2.2.1.2 HA.out.2.2.2.2.1) (by have := G.out.2.2.2.2.2.1; first | exact this.2.1 | exact this.2.2.1 | exact this.2.2.2) (by omega)).mono ?_; rintro e wN ⟨rfl, hp, hk⟩; replace K := Aside0.mk (K.out.trans hk); replace P := Aside0.mk hp; replace FX := Aside0.mk (FACT.out _ K.out); clear hp hk; clear fl0 fl1 fl2 fb0 fb1 fb2 fb3 fb4; have fl0 := FX.out.l0; have fl1 := FX.out.l1; have fl2 := FX.out.l2; have fb0 := FX.out.b0; have fb1 := FX.out.b1; have fb2 := FX.out.b2; have fb3 := FX.out.b3; have fb4 := FX.out.b4; simp only at fb0 fb1 fb2 fb3 fb4) | (go_at_call 34; refine (write_st P.out _ _ _ FX.out.h1 (row_apart G.out.1.2 HA.out.2.2.2.2.1) G.out.2.2.2.2.2.1.1 (by omega)).mono ?_; rintro e wN ⟨rfl, hp, hk⟩; replace K := Aside0.mk (K.out.trans hk); replace P := Aside0.mk hp; replace FX := Aside0.mk (FACT.out _ K.out); clear hp hk; clear fl0 fl1 fl2 fb0 fb1 fb2 fb3 fb4; have fl0 := FX.out.l0; have fl1 := FX.out.l1; have fl2 := FX.out.l2; have fb0 := FX.out.b0; have fb1 := FX.out.b1; have fb2 := FX.out.b2; have fb3 := FX.out.b3; have fb4 := FX.out.b4; simp only at fb0 fb1 fb2 fb3 fb4) | (go_at_call 35; refine (shut_st P.out (by omega)).mono ?_; rintro e wN ⟨rfl, hp, hk⟩; replace K := Aside0.mk (K.out.trans hk); replace P := Aside0.mk hp; replace FX := Aside0.mk (FACT.out _ K.out); clear hp hk; clear fl0 fl1 fl2 fb0 fb1 fb2 fb3 fb4; have fl0 := FX.out.l0; have fl1 := FX.out.l1; have fl2 := FX.out.l2; have fb0 := FX.out.b0; have fb1 := FX.out.b1; have fb2 := FX.out.b2; have fb3 := FX.out.b3; have fb4 := FX.out.b4; simp only at fb0 fb1 fb2 fb3 fb4))
          go_roundg (ps.length - (i + 1))
          case rel => exact ⟨wrap64 (ii + 1), i + 1, _, by first | rfl | (simp; done) | (simp [hw1]; done), ⟨by rw [hw1]; have := hii.out; omega⟩, by have := hii.out; omega, rfl, Aside0.mk hnext.out, ⟨Nat.le_trans P.out.2.2 (by omega)⟩, ⟨P.out.1, FX.out.bA⟩⟩
          case measure => have := hii.out; have := G.out.2.2.2.2.2.2.2.2; omega
      | true =>
        have hnext : wrAll N s0 s1 s2 (ps.drop (i + 1)) (wrReg N s0 s1 s2 acc ⟨true, T, S0, S1, S2⟩) = R := by
          have := wrAll_next hall.out G.out.2.2.2.2.1
          simpa [wrPart] using this
        replace hnext := Aside0.mk hnext
        unfold wrReg at hnext
        go_upto_region 7 with (fail)
        have FACT := Aside0.mk (Rd3.of (w := w) (wA := wA) (lb := lb) (g := wb.heap.size) (p := ⟨true, T, S0, S1, S2⟩) HA.out.2.2.1 HA.out.2.2.2.2.2 (heap_alloc_new wb _) (by have := G.out.2.2.2.2.2.2.1; omega) HA.out.2.2.2.2.1 (hI.out.2.trans (below_lo (below_alloc (Below.refl _ _) (Obj.cells #[Value.bool true, Value.slice A1 T.length c1, Value.slice A2 S0.length c2, Value.slice A3 S1.length c3, Value.slice A4 S2.length c4] 50)) (by have := G.out.2.2.2.2.2.2.1; omega)))
          (Kd.F_step G.out.1.2 (fun k hk hl => (below_alloc (Below.refl wb.heap.size wb) _).block k hl)) (Kd.F_step G.out.2.1.2 (fun k hk hl => (below_alloc (Below.refl wb.heap.size wb) _).block k hl)) (Kd.F_step G.out.2.2.1.2 (fun k hk hl => (below_alloc (Below.refl wb.heap.size wb) _).block k hl)) (Kd.F_step G.out.2.2.2.1.2 (fun k hk hl => (below_alloc (Below.refl wb.heap.size wb) _).block k hl)))
        have P : Aside0 (Pq pb (i * 200000000) acc (wb.alloc (Obj.cells #[Value.bool true, Value.slice A1 T.length c1, Value.slice A2 S0.length c2, Value.slice A3 S1.length c3, Value.slice A4 S2.length c4] 50))) := ⟨hI.out.1.below (below_alloc (Below.refl _ _) _), by have := G.out.2.2.2.2.2.2.1; simp; omega, hal.out⟩
        have hi3 : i ≤ 1000 := Nat.le_trans G.out.2.2.2.2.2.2.2.1 HPS.out
        generalize wb.alloc (Obj.cells #[Value.bool true, Value.slice A1 T.length c1, Value.slice A2 S0.length c2, Value.slice A3 S1.length c3, Value.slice A4 S2.length c4] 50) = w1 at FACT P ⊢
        have K := Aside0.mk (Pk.refl pb pb w1)
        have FX := Aside0.mk (FACT.out _ K.out)
        have fl0 := FX.out.l0
        have fl1 := FX.out.l1
        have fl2 := FX.out.l2
        have fb0 := FX.out.b0
        have fb1 := FX.out.b1
        have fb2 := FX.out.b2
        have fb3 := FX.out.b3
        have fb4 := FX.out.b4
        simp only at fb0 fb1 fb2 fb3 fb4
        clear hx0 hx1 hx2 hx3 hx4
        go_wp2_with (first | (go_at_call 36; refine (marker_st P.out _ N _ hN2.out (by first | exact HS0.out | exact HS1.out | exact HS2.out | decide) (by omega)).mono ?_; rintro e wN ⟨rfl, hp, hk⟩; replace K := Aside0.mk (K.out.trans hk); replace P := Aside0.mk hp; replace FX := Aside0.mk (FACT.out _ K.out); clear hp hk; clear fl0 fl1 fl2 fb0 fb1 fb2 fb3 fb4; have fl0 := FX.out.l0; have fl1 := FX.out.l1; have fl2 := FX.out.l2; have fb0 := FX.out.b0; have fb1 := FX.out.b1; have fb2 := FX.out.b2; have fb3 := FX.out.b3; have fb4 := FX.out.b4; simp only at fb0 fb1 fb2 fb3 fb4) | (go_at_call 37; refine (lines_st P.out _ _ _ (by first | exact FX.out.h2 | exact FX.out.h3 | exact FX.out.h4) (by first | exact row_apart G.out.2.1.2 HA.out.2.2.2.2.1 | exact row_apart G.out.2.2.1.2 HA.out.2.2.2.2.1 | exact row_apart G.out.2.2.2.1.2 HA.out.2.2.2.2.1) (by have := G.out.2.2.2.2.2.1; first | exact this.2.1 | exact this.2.2.1 | exact this.2.2.2) (by omega)).mono ?_; rintro e wN ⟨rfl, hp, hk⟩; replace K := Aside0.mk (K.out.trans hk); replace P := Aside0.mk hp; replace FX := Aside0.mk (FACT.out _ K.out); clear hp hk; clear fl0 fl1 fl2 fb0 fb1 fb2 fb3 fb4; have fl0 := FX.out.l0; have fl1 := FX.out.l1; have fl2 := FX.out.l2; have fb0 := FX.out.b0; have fb1 := FX.out.b1; have fb2 := FX.out.b2; have fb3 := FX.out.b3; have fb4 := FX.out.b4; simp only at fb0 fb1 fb2 fb3 fb4) | (go_at_call 34; refine (write_st P.out _ _ _ FX.out.h1 (row_apart G.out.1.2 HA.out.2.2.2.2.1) G.out.2.2.2.2.2.1.1 (by omega)).mono ?_; rintro e wN ⟨rfl, hp, hk⟩; replace K := Aside0.mk (K.out.trans hk); replace P := Aside0.mk hp; replace FX := Aside0.mk (FACT.out _ K.out); clear hp hk; clear fl0 fl1 fl2 fb0 fb1 fb2 fb3 fb4; have fl0 := FX.out.l0; have fl1 := FX.out.l1; have fl2 := FX.out.l2; have fb0 := FX.out.b0; have fb1 := FX.out.b1; have fb2 := FX.out.b2; have fb3 := FX.out.b3; have fb4 := FX.out.b4; simp only at fb0 fb1 fb2 fb3 fb4) | (go_at_call 35; refine (shut_st P.out (by omega)).mono ?_; rintro e wN ⟨rfl, hp, hk⟩; replace K := Aside0.mk (K.out.trans hk); replace P := Aside0.mk hp; replace FX := Aside0.mk (FACT.out _ K.out); clear hp hk; clear fl0 fl1 fl2 fb0 fb1 fb2 fb3 fb4; have fl0 := FX.out.l0; have fl1 := FX.out.l1; have fl2 := FX.out.l2; have fb0 := FX.out.b0; have fb1 := FX.out.b1; have fb2 := FX.out.b2; have fb3 := FX.out.b3; have fb4 := FX.out.b4; simp only at fb0 fb1 fb2 fb3 fb4))
        go_roundg (ps.length - (i + 1))
        case rel => exact ⟨wrap64 (ii + 1), i + 1, _, by first | rfl | (simp; done) | (simp [hw1]; done), ⟨by rw [hw1]; have := hii.out; omega⟩, by have := hii.out; omega, rfl, Aside0.mk hnext.out, ⟨Nat.le_trans P.out.2.2 (by omega)⟩, ⟨P.out.1, FX.out.bA⟩⟩
        case measure => have := hii.out; have := G.out.2.2.2.2.2.2.2.2; omega
    · have hi' : i = ps.length := by have := hii.out; omega
      have hacc : acc = R := by have := hall.out; rw [hi', List.drop_of_length_le (Nat.le_refl _)] at this; exact this
      subst hacc
      have hlen : acc.length ≤ 140737488355328 := by have := hal.out; have := HPS.out; omega
      replace hlen := Aside0.mk hlen
      clear hi'
      go_wp2_with (go_at_call 38; refine (out_calls pb pb acc wb hI.out.1 hlen.out).mono ?_; rintro e w5 ⟨A5, c5, rfl, hc5, hC5, hb5⟩; have HH := Aside0.mk (⟨hc5, hC5, hb5⟩ : _ ∧ _ ∧ _); clear hc5 hC5 hb5)
      refine bodyPost_ret (results_tmp2 rfl _ _ _) rfl ?_
      refine ⟨A5, c5, rfl, HH.out.1, HH.out.2.1, ?_⟩
      have hbw : Below w.heap.size w wb := HA.out.2.1.trans (below_lo hI.out.2 HA.out.2.2.2.2.1)
      exact hbw.trans (below_lo HH.out.2.2 hbw.size)
 · have hright : mark_right.f n = some false := by
     unfold mark_right.f
     by_cases h : n ≥ 1
     · rw [if_pos h]; have : ¬ n ≤ 16777216 := fun h2 => hn ⟨h, h2⟩; simp [this]
     · rw [if_neg h]
   have hres : writeOf n s0 s1 s2 ps = ([], 1) := by unfold writeOf; rw [if_neg hn]
   rw [hres]
   clear hn hres
   go_enter Tryd.func19, Tryd.ntmps19
   go_wp2_with (go_at_call 24; refine (mark_right.calls _ false _ hright).mono ?_; rintro e w1 ⟨rfl, hb1⟩; replace hb1 := drawn_below hb1)
   refine bodyPost_ret (results_tmp2 rfl _ _ _) rfl ?_
   exact ⟨none, 0, rfl, Nat.zero_le _, Kd.C_nil B8 _, (below_alloc (Below.refl _ _) _).trans (below_lo hb1 (by simp))⟩
end Go.Proofs.YtnnnbeimehfiiaaDoor.Q

-- Written by a program of this session (wip/gen_read.py) for this claim; Lean checks it.
/-! mark.Read, walked. -/
set_option linter.unusedVariables false
set_option linter.unusedSimpArgs false
namespace Go.Proofs.YtnnnbeimehfiiaaDoor.Q
open Go Go.RowKit Go.Proofs.YtnnnbeimehfiiaaDoorW.PrintWords Go.Proofs.YtnnnbeimehfiiaaDoorW.PrintLast Go.Proofs.YtnnnbeimehfiiaaDoorW.PrintMore Go.Proofs.YtnnnbeimehfiiaaDoorW.SL
attribute [local go_sem] max2_int min2_int max_two min_two max_three min_three max_four min_four
def mread.T17 : Bool × List (List Nat × List Nat) := (true, [([], []), ([], []), ([], []), ([2], [2]), ([], []), ([], []), ([], []), ([6], [6]), ([4, 5], [4, 5]), ([8], [8]), ([9, 7], [7, 9]), ([10], [10]), ([], []), ([11, 12], [11, 12]), ([0, 1], [0, 1]), ([14], [14]), ([15, 3, 0, 1, 2, 3, 4, 5, 6, 7, 8, 9, 10, 11, 12, 13], [3, 15]), ([16, 13, 13, 0, 1, 2, 3, 4, 5, 6, 7, 8, 9, 10, 11, 12, 13], [13, 16])])
def mread.B17 : List Nat := [0, 0, 0, 4, 0, 0, 0, 64, 48, 304, 1008, 2032, 0, 8176, 3, 16387, 65535, 131071]
theorem mread.tab17 : rtab .any (opsOf Tryd.f9 17) = mread.T17 := by kernel_rfl
theorem mread.bits17 : waitsOk mread.T17.2 mread.B17 = true := by kernel_rfl
theorem inf50 : (Tryd.prog.info? 50).map (fun i => (i.zero, i.size, i.bytes)) = some (some (.agg #[.bool false, .slice none 0 0, .slice none 0 0, .slice none 0 0, .slice none 0 0]), 5, 104) := by kernel_rfl
set_option maxHeartbeats 16000000 in
set_option maxRecDepth 100000 in
theorem read_calls (n : Int) (A : Option Addr) (c : Nat) (b : List Int) (w : World) (hr : Kd.C B8 w A b.length b) (hc : b.length ≤ c) (hb : ∀ x ∈ b, byte x) (hlen : b.length ≤ 5000000) :
  Calls Tryd.prog 9 #[.int .i64 n, .slice A b.length c] w fun e w' => ∃ (A' : Option Addr) (c' : Nat), e = .returned (.tuple #[.slice A' (readOf n b).1.length c', .int .i64 (readOf n b).2]) ∧ (readOf n b).1.length ≤ c' ∧ Kd.C kP w' A' (readOf n b).1.length (readOf n b).1 ∧ Below w.heap.size w w' := by
 have HR := Aside0.mk hr; have HC := Aside0.mk hc; have HB := Aside0.mk hb; have HLEN := Aside0.mk hlen
 clear hr hc hb hlen
 by_cases hn : n ≥ 1 ∧ n ≤ 16777216
 · have hright : mark_right.f n = some true := by unfold mark_right.f; rw [if_pos hn.1]; simp [hn.2]
   obtain ⟨N, hN⟩ := Int.eq_ofNat_of_zero_le (by omega : 0 ≤ n)
   have hN1 : 1 ≤ N := by omega
   have hres : readOf n b = match rdAll N (linesOf b) ([], 0) with | some (ps, st) => if st = 0 then (ps, 0) else ([], 5) | none => ([], 5) := by
     unfold readOf; rw [if_pos hn, hN]; rfl
   obtain ⟨R, hR⟩ : ∃ R, readOf n b = R := ⟨_, rfl⟩
   rw [hR] at hres ⊢
   have HRES := Aside0.mk hres; have HRT := Aside0.mk hright
   clear hres hR hn hright
   subst hN
   obtain ⟨L, hL⟩ : ∃ L, linesOf b = L := ⟨_, rfl⟩
   rw [hL] at HRES
   have HLN := Aside0.mk (show L.length ≤ 5000000 by rw [← hL]; exact Nat.le_trans (linesOf_len b) HLEN.out)
   have HLX := Aside0.mk (show ∀ x ∈ L, x ≠ [] ∧ (∀ y ∈ x, byte y) ∧ x.length ≤ 5000000 by rw [← hL]; exact fun x hx => ⟨linesOf_ne b x hx, linesOf_all byte b x HB.out hx, Nat.le_trans (linesOf_mem b x hx) HLEN.out⟩)
   replace hL := Aside0.mk hL
   go_enter Tryd.func9, Tryd.ntmps9
   go_wp2_with (first | (go_at_call 24; refine (mark_right.calls _ true _ HRT.out).mono ?_; rintro e w1 ⟨rfl, hb1⟩; replace hb1 := drawn_below hb1) | (go_at_call 25; refine (split_calls A c b _ (Kd.C_below HR.out hb1) HC.out HB.out (by have := HLEN.out; omega)).mono ?_; rintro e w2 ⟨vl, rfl, hR, hb2⟩; rw [hL.out] at hR; obtain ⟨AL, cL, rfl, hrd⟩ := rd_R hR; replace hR := Aside0.mk hR))
   have hF0 : ∀ a ∈ [rdV kB AL cL L], a.P w2 (fun k => k < w2.heap.size) := by
     intro a ha; rw [List.mem_singleton] at ha; subst ha
     exact FA.step _ hrd (fun _ _ _ => rfl) (fun k hk => hk.2)
   have HS := Aside0.mk (RdI.start (Stt.start w2 hF0))
   have hB2 := Aside0.mk (hb1.trans (below_lo hb2 hb1.size))
   clear hF0 hrd hb1 hb2
   go_loopg [6, 7, 18] L.length (fun kq v6 v7 v18 w'' => ∃ (ps : List Pt) (ii sti : Int) (i : Nat), v18 = .int .i64 ii ∧ Aside0 (ii = (i : Int)) ∧ v7 = .int .i64 sti ∧ (sti = 0 ∨ sti = 1 ∨ sti = 2 ∨ sti = 3) ∧ i ≤ L.length ∧ kq = L.length - i ∧ Aside0 (rdAll N (L.take i) ([], 0) = some (ps, sti.toNat)) ∧ Aside0 (Sz ps i) ∧ Aside0 (RdI w2 [rdV kB AL cL L] ps v6 w''))
   case atStart => exact ⟨[], 0, 0, 0, rfl, ⟨rfl⟩, rfl, .inl rfl, Nat.zero_le _, rfl, ⟨rfl⟩, ⟨sz_nil⟩, HS⟩
   case round =>
    obtain ⟨ps, ii, sti, i, rfl, hii, rfl, hst, hi, hgk, hall, hsz, hI⟩ := hrel
    obtain ⟨wb, rfl⟩ : ∃ q, q = wr := ⟨_, rfl⟩
    by_cases hin : ii < (L.length : Int)
    · have p0 : 0 ≤ ii := by have := hii.out; omega
      obtain ⟨Z, hZ⟩ := hI.out.fr
      have hrd : (rdV kB AL cL L).P wb Z := hZ _ (by simp)
      obtain ⟨al, cs, eA, hcl, hFK, hcc, _⟩ := Kd.F_get hrd.2 [] ii p0 hin
      subst eA
      obtain ⟨x, hx⟩ : ∃ x, x = L.getD ii.toNat [] := ⟨_, rfl⟩
      rw [← hx] at hFK
      have hxi : L[i]? = some x := by
        rw [hx, hii.out]; have : i < L.length := by have := hii.out; omega
        simp [List.getD_eq_getElem?_getD, List.getElem?_eq_getElem this]
      have hxm := HLX.out x (List.mem_of_getElem? hxi)
      obtain ⟨AX, cX, rfl, hxc, hxC⟩ := Kd.FK_now hFK
      obtain ⟨ax, rfl, _⟩ := hxC.2.2 (by have := hxm.1; cases x with | nil => exact absurd rfl this | cons _ _ => simp)
      have hx0 : wb.cell? (al.add (ii.toNat * 1)) = some (.slice (some ax) x.length cX) := hcc 0 _ rfl
      have hx0' : wb.cell? (al.add ii.toNat) = some (.slice (some ax) x.length cX) := by simpa using hx0
      have HX := Aside0.mk (⟨hxi, hxm, hxc, hxC, hi, hgk⟩ : _ ∧ _ ∧ _ ∧ _ ∧ _ ∧ _)
      have HMK := Aside0.mk (markerOf_calls N hN1 (some ax) cX x wb hxC hxc hxm.2.1 (by have := hxm.2.2; omega))
      have hnext := Aside0.mk (rdAll_next hall.out hxi)
      have hsg := mkOf_cases hN1 x
      have hi5_ : i ≤ 5000000 := by have := HLN.out; omega
      obtain ⟨Ao, co, evo, hoc, _⟩ := hI.out.out
      obtain ⟨m, hm⟩ : ∃ m, m = ps.length := ⟨_, rfl⟩
      rw [← hm] at evo
      subst evo
      replace hm := Aside0.mk hm
      have hw1 : wrap64 (ii + 1) = ii + 1 := by have := hii.out; unfold wrap64; omega
      have hinb := eq_true hin
      have p0b := eq_true p0
      have hi5 : i ≤ 5000000 := by have := HLN.out; omega
      have hps5 := Aside0.mk (Nat.le_trans hsz.out.1 hi5)
      clear hZ hrd hcl hFK hcc hx hxi hxm hxc hxC hi hgk hoc
      obtain ⟨sg, hsgq⟩ : ∃ sg, mkOf N x = sg := ⟨_, rfl⟩
      rw [hsgq] at hsg HMK
      replace hsgq := Aside0.mk hsgq
      rcases hsg with rfl | hsg
      · rcases hst with rfl | rfl | rfl | rfl
        · skip
          have hx1_ : wb.cell? (al.add i) = some (.slice (some ax) x.length cX) := by have := hx0'; rwa [show ii.toNat = i by have := hii.out; omega] at this
          have HIX := Aside0.mk (hI.out.wider (rdV B8 (some ax) cX x) (fun Z hZ => row_kept (hZ _ List.mem_cons_self) HX.out.1 hx1_))
          clear hx1_
          obtain rfl | ⟨fr, ⟨rg, T, S0, S1, S2⟩, rfl⟩ := snoc_cases ps
          · obtain rfl : m = 0 := hm.out
            have hyes : rdStep N ([], 0) x = some ([] ++ [addF (nwPt false) x 0], 0) := by simp [rdStep, hsgq.out, addF]
            go_wp2_with (first | ((go_at_call 26; refine HMK.out.mono ?_; rintro e w3 ⟨rfl, hb3⟩); have hI3 := HIX.out.keep hb3) | ((with_reducible refine gate_builtin (b := .append) (xs := #[.tmp 44, .tmp 46]) rfl ?_); at_builtin; refine app_push rfl (.tmp 44) (.tmp 46) 104 rfl Tryd.underlying23 inf50 (by decide) hI3 hps5.out _ rfl false rfl rfl ?_; intro Ao2 co2 w4 hI4; obtain ⟨Zx, hZx⟩ := hI4.fr; have hxC4 := Kd.F_now (hZx (rdV B8 (some ax) cX x) (by simp)).2; obtain ⟨ad4, _, vk_, e1, hreg, hcell, hown, hstep⟩ := hI4.at0 0 (by decide) x; obtain ⟨ak_, ck_, rfl, _⟩ := own_form hown; injection e1 with e1 _ ec; subst e1 ec) | ((with_reducible refine gate_builtin (b := .append) (xs := #[.tmp 56, .tmp 57]) rfl ?_); at_builtin; refine app_spread rfl (.tmp 56) (.tmp 57) rfl Tryd.underlying22 inf5 _ _ _ x ax cX rfl rfl hown (hxC4) ?hl ?_; (case hl => simp [fld]; have := HX.out.2.1.2.2; omega); intro v5_ w5 ho5 hg5 hat5; obtain ⟨A5, c5, rfl, _⟩ := own_form ho5; obtain ⟨hk1, hk2, hI5⟩ := hstep w5 _ ho5 hg5 hat5))
            go_roundg (L.length - (i + 1))
            case rel => exact ⟨[] ++ [addF (nwPt false) x 0], wrap64 (ii + 1), 0, i + 1, by first | rfl | (simp; done) | (simp [hw1]; done), ⟨by rw [hw1]; have := hii.out; omega⟩, by first | rfl | (simp; done), by simp, by have := hii.out; omega, rfl, Aside0.mk (hnext.out.trans hyes), ⟨sz_app hsz.out false HX.out.2.1.2.2 0⟩, ⟨hI5.less⟩⟩
            case measure => have := hii.out; have := HX.out.2.2.2.2.2; omega
          · obtain rfl : m = fr.length + 1 := by rw [hm.out]; simp
            have hwj : wrap64 (fr.length : Int) = (fr.length : Int) := by have := hps5.out; simp at this; unfold wrap64; omega
            cases rg with
            | false =>
              have hyes : rdStep N (fr ++ [⟨false, T, S0, S1, S2⟩], 0) x = some (fr ++ [addF ⟨false, T, S0, S1, S2⟩ x 0], 0) := by simp [rdStep, hsgq.out, onLast_snoc, addF, addText]
              obtain ⟨ad, cap, vk, e1, hreg, hcell, hown, _⟩ := hI.out.at 0 (by decide) x
              obtain ⟨ak, ck, rfl, _⟩ := own_form hown
              injection e1 with eA _ ec
              subst eA ec
              have hreg0 := Aside0.mk hreg
              have hcell0 := Aside0.mk hcell
              clear hreg hcell hown
              go_wp2_with (first | ((go_at_call 26; refine HMK.out.mono ?_; rintro e w3 ⟨rfl, hb3⟩); have hI3 := hI.out.keep hb3; obtain ⟨_, _, vk_, e1, hreg, hcell, hown, hstep⟩ := hI3.at 0 (by decide) x; obtain ⟨ak_, ck_, rfl, _⟩ := own_form hown; injection e1 with e1 _ ec; injection e1 with e1; subst e1 ec) | ((with_reducible refine gate_builtin (b := .append) (xs := #[.tmp 56, .tmp 57]) rfl ?_); at_builtin; refine app_spread rfl (.tmp 56) (.tmp 57) rfl Tryd.underlying22 inf5 _ _ _ x ax cX rfl rfl hown (Kd.C_below HX.out.2.2.2.1 hb3) ?hl ?_; (case hl => have := sz_fld (hsz.out.2 _ (List.mem_append_right _ List.mem_cons_self)) 0; have := hi5; have := HX.out.2.1.2.2; simp only [fld] at *; omega); intro v5_ w5 ho5 hg5 hat5; obtain ⟨A5, c5, rfl, _⟩ := own_form ho5; obtain ⟨hk1, hk2, hI5⟩ := hstep w5 _ ho5 hg5 hat5))
              go_roundg (L.length - (i + 1))
              case rel => exact ⟨fr ++ [addF ⟨false, T, S0, S1, S2⟩ x 0], wrap64 (ii + 1), 0, i + 1, by first | rfl | (simp; done) | (simp [hw1]; done), ⟨by rw [hw1]; have := hii.out; omega⟩, by first | rfl | (simp; done), by simp, by have := hii.out; omega, rfl, Aside0.mk (hnext.out.trans hyes), ⟨sz_add hsz.out x HX.out.2.1.2.2 0⟩, ⟨hI5⟩⟩
              case measure => have := hii.out; have := HX.out.2.2.2.2.2; omega
            | true =>
              have hfl : (fr ++ [(⟨true, T, S0, S1, S2⟩ : Pt)]).length = fr.length + 1 := by simp
              have hwj1 : wrap64 ((fr.length : Int) + 1) = (fr.length : Int) + 1 := by have := hps5.out; simp at this; unfold wrap64; omega
              replace hfl := Aside0.mk hfl
              have hyes : rdStep N (fr ++ [⟨true, T, S0, S1, S2⟩], 0) x = some ((fr ++ [⟨true, T, S0, S1, S2⟩]) ++ [addF (nwPt false) x 0], 0) := by simp [rdStep, hsgq.out, addF]
              obtain ⟨ad, cap, vk, e1, hreg, hcell, hown, _⟩ := hI.out.at 0 (by decide) x
              obtain ⟨ak, ck, rfl, _⟩ := own_form hown
              injection e1 with eA _ ec
              subst eA ec
              have hreg0 := Aside0.mk hreg
              clear hreg hcell hown
              go_wp2_with (first | ((go_at_call 26; refine HMK.out.mono ?_; rintro e w3 ⟨rfl, hb3⟩); have hI3 := HIX.out.keep hb3; obtain ⟨_, _, vk_, e1, hreg, hcell, hown, hstep⟩ := hI3.at 0 (by decide) x; injection e1 with e1 _ ec; injection e1 with e1; subst e1 ec; clear hcell hown hstep) | ((with_reducible refine gate_builtin (b := .append) (xs := #[.tmp 44, .tmp 46]) rfl ?_); at_builtin; refine app_push rfl (.tmp 44) (.tmp 46) 104 rfl Tryd.underlying23 inf50 (by decide) hI3 hps5.out _ hfl.out false rfl rfl ?_; intro Ao2 co2 w4 hI4; obtain ⟨Zx, hZx⟩ := hI4.fr; have hxC4 := Kd.F_now (hZx (rdV B8 (some ax) cX x) (by simp)).2; obtain ⟨ad4, _, vk_, e1, hreg, hcell, hown, hstep⟩ := hI4.atj 0 (by decide) x hfl.out; obtain ⟨ak_, ck_, rfl, _⟩ := own_form hown; injection e1 with e1 _ ec; subst e1 ec) | ((with_reducible refine gate_builtin (b := .append) (xs := #[.tmp 56, .tmp 57]) rfl ?_); at_builtin; refine app_spread rfl (.tmp 56) (.tmp 57) rfl Tryd.underlying22 inf5 _ _ _ x ax cX rfl rfl hown (hxC4) ?hl ?_; (case hl => simp [fld]; have := HX.out.2.1.2.2; omega); intro v5_ w5 ho5 hg5 hat5; obtain ⟨A5, c5, rfl, _⟩ := own_form ho5; obtain ⟨hk1, hk2, hI5⟩ := hstep w5 _ ho5 hg5 hat5))
              go_roundg (L.length - (i + 1))
              case rel => exact ⟨_, wrap64 (ii + 1), 0, i + 1, by first | rfl | (simp; done) | (simp [hw1]; done), ⟨by rw [hw1]; have := hii.out; omega⟩, by first | rfl | (simp; done), by simp, by have := hii.out; omega, rfl, Aside0.mk (hnext.out.trans hyes), ⟨sz_app hsz.out false HX.out.2.1.2.2 0⟩, ⟨hI5.less⟩⟩
              case measure => have := hii.out; have := HX.out.2.2.2.2.2; omega
        · skip
          have hpn : ps ≠ [] := rdAll_ne hall.out (fun h => absurd rfl h) (by simp)
          obtain rfl | ⟨fr, p, rfl⟩ := snoc_cases ps
          · exact absurd rfl hpn
          clear hpn
          obtain rfl : m = fr.length + 1 := by rw [hm.out]; simp
          have hwj : wrap64 (fr.length : Int) = (fr.length : Int) := by have := hps5.out; simp at this; unfold wrap64; omega
          have hyes : rdStep N (fr ++ [p], 1) x = some (fr ++ [addF p x 1], 1) := by simp [rdStep, hsgq.out, onLast_snoc, addF, addSide]
          replace hyes := Aside0.mk hyes
          obtain ⟨ad, cap, vk, e1, _, _, _, _⟩ := hI.out.at 1 (by decide) x
          injection e1 with eA _ ec
          subst eA ec
          have hq0 : wrap64 0 = 0 := by unfold wrap64; omega
          have hjj := eq_true (show (fr.length : Int) < (fr.length : Int) + 1 by omega)
          go_wp2_with ((go_at_call 26; refine HMK.out.mono ?_; rintro e w3 ⟨rfl, hb3⟩))
          have hIw := hI.out.keep (below_drew1 hb3)
          have hXw := Kd.C_below HX.out.2.2.2.1 (below_drew1 hb3)
          obtain ⟨_, _, vk, e1, _, hcell, hown, hstep⟩ := hIw.at 1 (by decide) x
          obtain ⟨ak, ck, rfl, _⟩ := own_form hown
          injection e1 with e1 _ ec
          injection e1 with e1
          subst e1 ec
          have hln : (fld p 1).length + x.length ≤ 140737488355328 := by
            have := sz_fld (hsz.out.2 p (List.mem_append_right _ List.mem_cons_self)) 1
            have := hi5; have := HX.out.2.1.2.2; omega
          replace hln := Aside0.mk hln
          have hst_ : ∀ w1 v1, P1 w3.drew (.slice ak (fld p 1).length ck) (fld p 1) x v1 w1 → _ := fun w1 v1 h => hstep w1 v1 h.1 h.2.1 h.2.2
          replace hst_ := Aside0.mk hst_
          replace hown := Aside0.mk hown
          replace hXw := Aside0.mk hXw
          clear hstep hIw
          have E0 := trivial
          refine start_ (n := 18) (S := fun w' => True) (ds := []) #[false, false, false, false, false, false, false, false, false, false, false, false, false, false, false, false, false, false] (by kernel_rfl) rfl rfl trivial (fun hHeld => ?_)
          refine with_tabW mread.tab17 mread.bits17 (fun HT_ HW_ => ?_)
          generalize w3.drew = wd at hcell hown hst_ hXw hHeld ⊢
          refine pure_ (i := 0) (N := some 64) (v := ?_) (a' := ?_) #[true, false, false, false, false, false, false, false, false, false, false, false, false, false, false, false, false, false] rfl rfl (any_of HT_.out (by kernel_rfl)) (fun _ _ _ h => h) (Or.inl ⟨by rfl, ?_⟩) ?_ ?_
          rotate_left
          · intro w'
            go_simp
            with_reducible rfl
          rotate_left
          · simp only [Act.put, List.setIfInBounds_toArray, List.set_cons_zero, List.set_cons_succ, i64_w, i32_w]
            rfl
          refine pure_ (i := 1) (N := some 65) (v := ?_) (a' := ?_) #[true, true, false, false, false, false, false, false, false, false, false, false, false, false, false, false, false, false] rfl rfl (any_of HT_.out (by kernel_rfl)) (fun _ _ _ h => h) (Or.inl ⟨by rfl, ?_⟩) ?_ ?_
          rotate_left
          · intro w'
            go_simp
            with_reducible rfl
          rotate_left
          · simp only [Act.put, List.setIfInBounds_toArray, List.set_cons_zero, List.set_cons_succ, i64_w, i32_w]
            rfl
          refine pure_ (i := 2) (N := some 66) (v := ?_) (a' := ?_) #[true, true, true, false, false, false, false, false, false, false, false, false, false, false, false, false, false, false] rfl rfl (any_of HT_.out (by kernel_rfl)) (fun _ _ _ h => h) (Or.inl ⟨by rfl, ?_⟩) ?_ ?_
          rotate_left
          · intro w'
            go_simp
            with_reducible rfl
          rotate_left
          · simp only [Act.put, List.setIfInBounds_toArray, List.set_cons_zero, List.set_cons_succ, i64_w, i32_w]
            rfl
          refine pure_ (i := 3) (N := some 67) (v := ?_) (a' := ?_) #[true, true, true, true, false, false, false, false, false, false, false, false, false, false, false, false, false, false] rfl rfl (any_of HT_.out (by kernel_rfl)) (fun _ _ _ h => h) (Or.inl ⟨by rfl, ?_⟩) ?_ ?_
          rotate_left
          · intro w'
            go_simp
            with_reducible rfl
          rotate_left
          · simp only [Act.put, List.setIfInBounds_toArray, List.set_cons_zero, List.set_cons_succ, i64_w, i32_w]
            rfl
          refine pure_ (i := 4) (N := some 68) (v := ?_) (a' := ?_) #[true, true, true, true, true, false, false, false, false, false, false, false, false, false, false, false, false, false] rfl rfl (any_of HT_.out (by kernel_rfl)) (fun _ _ _ h => h) (Or.inl ⟨by rfl, ?_⟩) ?_ ?_
          rotate_left
          · intro w'
            go_simp
            with_reducible rfl
          rotate_left
          · simp only [Act.put, List.setIfInBounds_toArray, List.set_cons_zero, List.set_cons_succ, i64_w, i32_w]
            rfl
          refine pure_ (i := 5) (N := some 69) (v := ?_) (a' := ?_) #[true, true, true, true, true, true, false, false, false, false, false, false, false, false, false, false, false, false] rfl rfl (any_of HT_.out (by kernel_rfl)) (fun _ _ _ h => h) (Or.inl ⟨by rfl, ?_⟩) ?_ ?_
          rotate_left
          · intro w'
            go_simp
            with_reducible rfl
          rotate_left
          · simp only [Act.put, List.setIfInBounds_toArray, List.set_cons_zero, List.set_cons_succ, i64_w, i32_w]
            rfl
          refine pure_ (i := 6) (N := some 70) (v := ?_) (a' := ?_) #[true, true, true, true, true, true, true, false, false, false, false, false, false, false, false, false, false, false] rfl rfl (any_of HT_.out (by kernel_rfl)) (fun _ _ _ h => h) (Or.inl ⟨by rfl, ?_⟩) ?_ ?_
          rotate_left
          · intro w'
            go_simp
            with_reducible rfl
          rotate_left
          · simp only [Act.put, List.setIfInBounds_toArray, List.set_cons_zero, List.set_cons_succ, i64_w, i32_w]
            rfl
          refine pure_ (i := 7) (N := some 71) (v := ?_) (a' := ?_) #[true, true, true, true, true, true, true, true, false, false, false, false, false, false, false, false, false, false] rfl rfl (any_of HT_.out (by kernel_rfl)) (fun _ _ _ h => h) (Or.inl ⟨by rfl, ?_⟩) ?_ ?_
          rotate_left
          · intro w'
            go_simp
            with_reducible rfl
          rotate_left
          · simp only [Act.put, List.setIfInBounds_toArray, List.set_cons_zero, List.set_cons_succ, i64_w, i32_w]
            rfl
          refine pure_ (i := 8) (N := some 72) (v := ?_) (a' := ?_) #[true, true, true, true, true, true, true, true, true, false, false, false, false, false, false, false, false, false] rfl rfl (any_of HT_.out (by kernel_rfl)) (fun _ _ _ h => h) (Or.inl ⟨by rfl, ?_⟩) ?_ ?_
          rotate_left
          · intro w'
            go_simp
            with_reducible rfl
          rotate_left
          · simp only [Act.put, List.setIfInBounds_toArray, List.set_cons_zero, List.set_cons_succ, i64_w, i32_w]
            rfl
          refine pure_ (i := 9) (N := some 73) (v := ?_) (a' := ?_) #[true, true, true, true, true, true, true, true, true, true, false, false, false, false, false, false, false, false] rfl rfl (any_of HT_.out (by kernel_rfl)) (fun _ _ _ h => h) (Or.inl ⟨by rfl, ?_⟩) ?_ ?_
          rotate_left
          · intro w'
            go_simp
            with_reducible rfl
          rotate_left
          · simp only [Act.put, List.setIfInBounds_toArray, List.set_cons_zero, List.set_cons_succ, i64_w, i32_w]
            rfl
          refine pure_ (i := 10) (N := some 74) (v := ?_) (a' := ?_) #[true, true, true, true, true, true, true, true, true, true, true, false, false, false, false, false, false, false] rfl rfl (any_of HT_.out (by kernel_rfl)) (fun _ _ _ h => h) (Or.inl ⟨by rfl, ?_⟩) ?_ ?_
          rotate_left
          · intro w'
            go_simp
            with_reducible rfl
          rotate_left
          · simp only [Act.put, List.setIfInBounds_toArray, List.set_cons_zero, List.set_cons_succ, i64_w, i32_w]
            rfl
          refine pure_ (i := 12) (N := some 76) (v := ?_) (a' := ?_) #[true, true, true, true, true, true, true, true, true, true, true, false, true, false, false, false, false, false] rfl rfl (any_of HT_.out (by kernel_rfl)) (fun _ _ _ h => h) (Or.inl ⟨by rfl, ?_⟩) ?_ ?_
          rotate_left
          · intro w'
            go_simp
            with_reducible rfl
          rotate_left
          · simp only [Act.put, List.setIfInBounds_toArray, List.set_cons_zero, List.set_cons_succ, i64_w, i32_w]
            rfl
          refine pure_ (i := 14) (N := some 78) (v := ?_) (a' := ?_) #[true, true, true, true, true, true, true, true, true, true, true, false, true, false, true, false, false, false] rfl rfl (any_of HT_.out (by kernel_rfl)) (fun _ _ _ h => h) (Or.inl ⟨by rfl, ?_⟩) ?_ ?_
          rotate_left
          · intro w'
            go_simp
            with_reducible rfl
          rotate_left
          · simp only [Act.put, List.setIfInBounds_toArray, List.set_cons_zero, List.set_cons_succ, i64_w, i32_w]
            rfl
          refine pure_ (i := 15) (N := some 79) (v := ?_) (a' := ?_) #[true, true, true, true, true, true, true, true, true, true, true, false, true, false, true, true, false, false] rfl rfl (any_of HT_.out (by kernel_rfl)) (fun _ _ _ h => h) (Or.inl ⟨by rfl, ?_⟩) ?_ ?_
          rotate_left
          · intro w'
            go_simp
            with_reducible rfl
          rotate_left
          · simp only [Act.put, List.setIfInBounds_toArray, List.set_cons_zero, List.set_cons_succ, i64_w, i32_w]
            rfl
          refine inv_at [11, 13, 16, 17] (fun a0_ b a w' => ∃ (vv : Value), a = putSel a0_ b [(11, 75, .slice ak (fld p 1).length ck), (13, 77, vv), (16, 80, .pointer (some ⟨(ad.add (fr.length * 5)).block, (ad.add (fr.length * 5)).off + 2, none⟩))] ∧ (b 13 = false → w' = wd) ∧ (b 13 = true → b 17 = false → P1 wd (.slice ak (fld p 1).length ck) (fld p 1) x vv w') ∧ (b 17 = true → P2 wd (.slice ak (fld p 1).length ck) (fld p 1) x ⟨(ad.add (fr.length * 5)).block, (ad.add (fr.length * 5)).off + 2, none⟩ vv w')) HT_.out HW_.out (by kernel_rfl) (by kernel_rfl) ?_ ?_ ?_
          · exact ⟨.bool false, by simp only [putSel, Bool.false_eq_true, if_false], fun _ => rfl, fun h_ => absurd h_ (by decide), fun h_ => absurd h_ (by decide)⟩
          · skip
            clear E0
            refine steps_cons ?_ ?_
            · rintro b a w' ⟨vv, ha, Q_E0, Q_E1, Q_E2⟩ hb_ hon hoff
              refine ⟨_, rfl, fun K hK => ?_⟩
              have e74 : a.tmps[74]? = some (.pointer (some ⟨(ad.add (fr.length * 5)).block, (ad.add (fr.length * 5)).off + 2, none⟩)) := by rw [ha]; exact (putSel_off rfl).trans rfl
              replace ha := Aside0.mk ha
              have E0 := Aside0.mk (Q_E0 (hoff 13 (by kernel_rfl)))
              have hw_ := E0.out
              have hc_ := hcell
              rw [← hw_] at hc_
              refine value_ (w1 := w') (v := .slice ak (fld p 1).length ck) (by rfl) rfl ?_ ?_
              · go_simp
                (try simp only [i64_w])
                try rfl
              refine hK.out _ _ ⟨vv, (by rw [ha.out]; exact putSel_upk 0 hb_ rfl rfl rfl), Q_E0, fun h0_ _ => absurd ((hoff 13 (by kernel_rfl)).symm.trans h0_) (by decide), fun h0_ => absurd ((hoff 17 (by kernel_rfl)).symm.trans h0_) (by decide)⟩
            refine steps_cons ?_ ?_
            · rintro b a w' ⟨vv, ha, Q_E0, Q_E1, Q_E2⟩ hb_ hon hoff
              refine ⟨_, rfl, fun K hK => ?_⟩
              have e75 : a.tmps[75]? = some (.slice ak (fld p 1).length ck) := by rw [ha]; exact putSel_on (e := (11, 75, .slice ak (fld p 1).length ck)) 0 rfl rfl (hon 11 (by kernel_rfl)) rfl
              have e76 : a.tmps[76]? = some (.slice (some ax) x.length cX) := by rw [ha]; exact (putSel_off rfl).trans rfl
              replace ha := Aside0.mk ha
              have E0 := Aside0.mk (Q_E0 hb_)
              have hw_ := E0.out
              refine app_spread_step (by rfl) (.tmp 75) (.tmp 76) rfl Tryd.underlying22 inf5 (.slice ak (fld p 1).length ck) _ (us8 (fld p 1)) x ax cX (eval_of e75) (eval_of e76) (hw_ ▸ hown.out) (hw_ ▸ hXw.out) hln.out ?_
              intro v1 w1 ho hg hat
              have S3_ : P1 wd (.slice ak (fld p 1).length ck) (fld p 1) x v1 w1 := ⟨ho, hw_ ▸ hg, hw_ ▸ hat⟩
              refine hK.out _ _ ⟨v1, (by rw [ha.out]; exact putSel_upk 1 hb_ rfl rfl rfl), fun h0_ => absurd ((up_self b 13).symm.trans h0_) (by decide), fun _ _ => S3_, fun h0_ => absurd ((hoff 17 (by kernel_rfl)).symm.trans h0_) (by decide)⟩
            refine steps_cons ?_ ?_
            · rintro b a w' ⟨vv, ha, Q_E0, Q_E1, Q_E2⟩ hb_ hon hoff
              refine ⟨_, rfl, fun K hK => ?_⟩
              have e79 : a.tmps[79]? = some (.pointer (some ⟨(ad.add (fr.length * 5)).block, (ad.add (fr.length * 5)).off + 2, none⟩)) := by rw [ha]; exact (putSel_off rfl).trans rfl
              have e67 : a.tmps[67]? = some (.int .i64 (wrap64 0)) := by rw [ha]; exact (putSel_off rfl).trans rfl
              replace ha := Aside0.mk ha
              have E1 := Aside0.mk (Q_E1 (hon 13 (by kernel_rfl)) (hoff 17 (by kernel_rfl)))
              refine value_ (w1 := w') (v := .pointer (some ⟨(ad.add (fr.length * 5)).block, (ad.add (fr.length * 5)).off + 2, none⟩)) (by rfl) rfl ?_ ?_
              · go_simp
                (try simp only [i64_w])
                try rfl
              refine hK.out _ _ ⟨vv, (by rw [ha.out]; exact putSel_upk 2 hb_ rfl rfl rfl), fun h0_ => absurd ((hon 13 (by kernel_rfl)).symm.trans h0_) (by decide), Q_E1, fun h0_ => absurd ((hoff 17 (by kernel_rfl)).symm.trans h0_) (by decide)⟩
            refine steps_cons ?_ ?_
            · rintro b a w' ⟨vv, ha, Q_E0, Q_E1, Q_E2⟩ hb_ hon hoff
              refine ⟨_, rfl, fun K hK => ?_⟩
              have e80 : a.tmps[80]? = some (.pointer (some ⟨(ad.add (fr.length * 5)).block, (ad.add (fr.length * 5)).off + 2, none⟩)) := by rw [ha]; exact putSel_on (e := (16, 80, .pointer (some ⟨(ad.add (fr.length * 5)).block, (ad.add (fr.length * 5)).off + 2, none⟩))) 2 rfl rfl (hon 16 (by kernel_rfl)) rfl
              have e77 : a.tmps[77]? = some (vv) := by rw [ha]; exact putSel_on (e := (13, 77, vv)) 1 rfl rfl (hon 13 (by kernel_rfl)) rfl
              replace ha := Aside0.mk ha
              have E1 := Aside0.mk (Q_E1 (hon 13 (by kernel_rfl)) hb_)
              obtain ⟨A_, c_, en_⟩ := E1.out.form
              obtain ⟨hc_, hf_, _⟩ := hst_.out w' vv E1.out
              refine skip_ (w1 := w'.setCell ⟨(ad.add (fr.length * 5)).block, (ad.add (fr.length * 5)).off + 2, none⟩ vv) (by rfl) rfl ?_ ?_
              · rw [en_] at e77 ⊢
                go_simp
                try rfl
              have S3_ := E1.out
              refine hK.out _ _ ⟨vv, (by rw [ha.out]; exact putSel_none (v := undef) rfl), fun h0_ => absurd ((hon 13 (by kernel_rfl)).symm.trans h0_) (by decide), fun _ h1_ => absurd ((up_self b 17).symm.trans h1_) (by decide), fun _ => ⟨w', S3_, rfl⟩⟩
            exact steps_nil
          · rintro b a w' hall ⟨vv, ha, Q_E0, Q_E1, Q_E2⟩
            clear E0
            have hb11_ := hall 11 (by kernel_rfl)
            have hb13_ := hall 13 (by kernel_rfl)
            have hb16_ := hall 16 (by kernel_rfl)
            have hb17_ := hall 17 (by kernel_rfl)
            subst ha
            simp only [putSel, hb11_, hb13_, hb16_, hb17_, if_true, Act.put, List.setIfInBounds_toArray, List.set_cons_zero, List.set_cons_succ]
            clear Q_E0
            clear Q_E1
            have E2 := Aside0.mk (Q_E2 hb17_)
            clear Q_E2
            clear hall hb11_ hb13_ hb16_ hb17_
            obtain ⟨w1_, h1_, rfl⟩ := E2.out
            obtain ⟨_, _, hI5⟩ := hst_.out w1_ vv h1_
            go_wp2
            go_roundg (L.length - (i + 1))
            case rel => exact ⟨_, wrap64 (ii + 1), 1, i + 1, by first | rfl | (simp; done) | (simp [hw1]; done), ⟨by rw [hw1]; have := hii.out; omega⟩, by first | rfl | (simp; done), by simp, by have := hii.out; omega, rfl, Aside0.mk (hnext.out.trans hyes.out), ⟨sz_add hsz.out x HX.out.2.1.2.2 1⟩, ⟨hI5⟩⟩
            case measure => have := hii.out; have := HX.out.2.2.2.2.2; omega
        · skip
          have hpn : ps ≠ [] := rdAll_ne hall.out (fun h => absurd rfl h) (by simp)
          obtain rfl | ⟨fr, p, rfl⟩ := snoc_cases ps
          · exact absurd rfl hpn
          clear hpn
          obtain rfl : m = fr.length + 1 := by rw [hm.out]; simp
          have hwj : wrap64 (fr.length : Int) = (fr.length : Int) := by have := hps5.out; simp at this; unfold wrap64; omega
          have hyes : rdStep N (fr ++ [p], 2) x = some (fr ++ [addF p x 2], 2) := by simp [rdStep, hsgq.out, onLast_snoc, addF, addSide]
          replace hyes := Aside0.mk hyes
          obtain ⟨ad, cap, vk, e1, _, _, _, _⟩ := hI.out.at 2 (by decide) x
          injection e1 with eA _ ec
          subst eA ec
          have hq0 : wrap64 1 = 1 := by unfold wrap64; omega
          have hjj := eq_true (show (fr.length : Int) < (fr.length : Int) + 1 by omega)
          go_wp2_with ((go_at_call 26; refine HMK.out.mono ?_; rintro e w3 ⟨rfl, hb3⟩))
          have hIw := hI.out.keep (below_drew1 hb3)
          have hXw := Kd.C_below HX.out.2.2.2.1 (below_drew1 hb3)
          obtain ⟨_, _, vk, e1, _, hcell, hown, hstep⟩ := hIw.at 2 (by decide) x
          obtain ⟨ak, ck, rfl, _⟩ := own_form hown
          injection e1 with e1 _ ec
          injection e1 with e1
          subst e1 ec
          have hln : (fld p 2).length + x.length ≤ 140737488355328 := by
            have := sz_fld (hsz.out.2 p (List.mem_append_right _ List.mem_cons_self)) 2
            have := hi5; have := HX.out.2.1.2.2; omega
          replace hln := Aside0.mk hln
          have hst_ : ∀ w1 v1, P1 w3.drew (.slice ak (fld p 2).length ck) (fld p 2) x v1 w1 → _ := fun w1 v1 h => hstep w1 v1 h.1 h.2.1 h.2.2
          replace hst_ := Aside0.mk hst_
          replace hown := Aside0.mk hown
          replace hXw := Aside0.mk hXw
          clear hstep hIw
          have E0 := trivial
          refine start_ (n := 18) (S := fun w' => True) (ds := []) #[false, false, false, false, false, false, false, false, false, false, false, false, false, false, false, false, false, false] (by kernel_rfl) rfl rfl trivial (fun hHeld => ?_)
          refine with_tabW mread.tab17 mread.bits17 (fun HT_ HW_ => ?_)
          generalize w3.drew = wd at hcell hown hst_ hXw hHeld ⊢
          refine pure_ (i := 0) (N := some 64) (v := ?_) (a' := ?_) #[true, false, false, false, false, false, false, false, false, false, false, false, false, false, false, false, false, false] rfl rfl (any_of HT_.out (by kernel_rfl)) (fun _ _ _ h => h) (Or.inl ⟨by rfl, ?_⟩) ?_ ?_
          rotate_left
          · intro w'
            go_simp
            with_reducible rfl
          rotate_left
          · simp only [Act.put, List.setIfInBounds_toArray, List.set_cons_zero, List.set_cons_succ, i64_w, i32_w]
            rfl
          refine pure_ (i := 1) (N := some 65) (v := ?_) (a' := ?_) #[true, true, false, false, false, false, false, false, false, false, false, false, false, false, false, false, false, false] rfl rfl (any_of HT_.out (by kernel_rfl)) (fun _ _ _ h => h) (Or.inl ⟨by rfl, ?_⟩) ?_ ?_
          rotate_left
          · intro w'
            go_simp
            with_reducible rfl
          rotate_left
          · simp only [Act.put, List.setIfInBounds_toArray, List.set_cons_zero, List.set_cons_succ, i64_w, i32_w]
            rfl
          refine pure_ (i := 2) (N := some 66) (v := ?_) (a' := ?_) #[true, true, true, false, false, false, false, false, false, false, false, false, false, false, false, false, false, false] rfl rfl (any_of HT_.out (by kernel_rfl)) (fun _ _ _ h => h) (Or.inl ⟨by rfl, ?_⟩) ?_ ?_
          rotate_left
          · intro w'
            go_simp
            with_reducible rfl
          rotate_left
          · simp only [Act.put, List.setIfInBounds_toArray, List.set_cons_zero, List.set_cons_succ, i64_w, i32_w]
            rfl
          refine pure_ (i := 3) (N := some 67) (v := ?_) (a' := ?_) #[true, true, true, true, false, false, false, false, false, false, false, false, false, false, false, false, false, false] rfl rfl (any_of HT_.out (by kernel_rfl)) (fun _ _ _ h => h) (Or.inl ⟨by rfl, ?_⟩) ?_ ?_
          rotate_left
          · intro w'
            go_simp
            with_reducible rfl
          rotate_left
          · simp only [Act.put, List.setIfInBounds_toArray, List.set_cons_zero, List.set_cons_succ, i64_w, i32_w]
            rfl
          refine pure_ (i := 4) (N := some 68) (v := ?_) (a' := ?_) #[true, true, true, true, true, false, false, false, false, false, false, false, false, false, false, false, false, false] rfl rfl (any_of HT_.out (by kernel_rfl)) (fun _ _ _ h => h) (Or.inl ⟨by rfl, ?_⟩) ?_ ?_
          rotate_left
          · intro w'
            go_simp
            with_reducible rfl
          rotate_left
          · simp only [Act.put, List.setIfInBounds_toArray, List.set_cons_zero, List.set_cons_succ, i64_w, i32_w]
            rfl
          refine pure_ (i := 5) (N := some 69) (v := ?_) (a' := ?_) #[true, true, true, true, true, true, false, false, false, false, false, false, false, false, false, false, false, false] rfl rfl (any_of HT_.out (by kernel_rfl)) (fun _ _ _ h => h) (Or.inl ⟨by rfl, ?_⟩) ?_ ?_
          rotate_left
          · intro w'
            go_simp
            with_reducible rfl
          rotate_left
          · simp only [Act.put, List.setIfInBounds_toArray, List.set_cons_zero, List.set_cons_succ, i64_w, i32_w]
            rfl
          refine pure_ (i := 6) (N := some 70) (v := ?_) (a' := ?_) #[true, true, true, true, true, true, true, false, false, false, false, false, false, false, false, false, false, false] rfl rfl (any_of HT_.out (by kernel_rfl)) (fun _ _ _ h => h) (Or.inl ⟨by rfl, ?_⟩) ?_ ?_
          rotate_left
          · intro w'
            go_simp
            with_reducible rfl
          rotate_left
          · simp only [Act.put, List.setIfInBounds_toArray, List.set_cons_zero, List.set_cons_succ, i64_w, i32_w]
            rfl
          refine pure_ (i := 7) (N := some 71) (v := ?_) (a' := ?_) #[true, true, true, true, true, true, true, true, false, false, false, false, false, false, false, false, false, false] rfl rfl (any_of HT_.out (by kernel_rfl)) (fun _ _ _ h => h) (Or.inl ⟨by rfl, ?_⟩) ?_ ?_
          rotate_left
          · intro w'
            go_simp
            with_reducible rfl
          rotate_left
          · simp only [Act.put, List.setIfInBounds_toArray, List.set_cons_zero, List.set_cons_succ, i64_w, i32_w]
            rfl
          refine pure_ (i := 8) (N := some 72) (v := ?_) (a' := ?_) #[true, true, true, true, true, true, true, true, true, false, false, false, false, false, false, false, false, false] rfl rfl (any_of HT_.out (by kernel_rfl)) (fun _ _ _ h => h) (Or.inl ⟨by rfl, ?_⟩) ?_ ?_
          rotate_left
          · intro w'
            go_simp
            with_reducible rfl
          rotate_left
          · simp only [Act.put, List.setIfInBounds_toArray, List.set_cons_zero, List.set_cons_succ, i64_w, i32_w]
            rfl
          refine pure_ (i := 9) (N := some 73) (v := ?_) (a' := ?_) #[true, true, true, true, true, true, true, true, true, true, false, false, false, false, false, false, false, false] rfl rfl (any_of HT_.out (by kernel_rfl)) (fun _ _ _ h => h) (Or.inl ⟨by rfl, ?_⟩) ?_ ?_
          rotate_left
          · intro w'
            go_simp
            with_reducible rfl
          rotate_left
          · simp only [Act.put, List.setIfInBounds_toArray, List.set_cons_zero, List.set_cons_succ, i64_w, i32_w]
            rfl
          refine pure_ (i := 10) (N := some 74) (v := ?_) (a' := ?_) #[true, true, true, true, true, true, true, true, true, true, true, false, false, false, false, false, false, false] rfl rfl (any_of HT_.out (by kernel_rfl)) (fun _ _ _ h => h) (Or.inl ⟨by rfl, ?_⟩) ?_ ?_
          rotate_left
          · intro w'
            go_simp
            with_reducible rfl
          rotate_left
          · simp only [Act.put, List.setIfInBounds_toArray, List.set_cons_zero, List.set_cons_succ, i64_w, i32_w]
            rfl
          refine pure_ (i := 12) (N := some 76) (v := ?_) (a' := ?_) #[true, true, true, true, true, true, true, true, true, true, true, false, true, false, false, false, false, false] rfl rfl (any_of HT_.out (by kernel_rfl)) (fun _ _ _ h => h) (Or.inl ⟨by rfl, ?_⟩) ?_ ?_
          rotate_left
          · intro w'
            go_simp
            with_reducible rfl
          rotate_left
          · simp only [Act.put, List.setIfInBounds_toArray, List.set_cons_zero, List.set_cons_succ, i64_w, i32_w]
            rfl
          refine pure_ (i := 14) (N := some 78) (v := ?_) (a' := ?_) #[true, true, true, true, true, true, true, true, true, true, true, false, true, false, true, false, false, false] rfl rfl (any_of HT_.out (by kernel_rfl)) (fun _ _ _ h => h) (Or.inl ⟨by rfl, ?_⟩) ?_ ?_
          rotate_left
          · intro w'
            go_simp
            with_reducible rfl
          rotate_left
          · simp only [Act.put, List.setIfInBounds_toArray, List.set_cons_zero, List.set_cons_succ, i64_w, i32_w]
            rfl
          refine pure_ (i := 15) (N := some 79) (v := ?_) (a' := ?_) #[true, true, true, true, true, true, true, true, true, true, true, false, true, false, true, true, false, false] rfl rfl (any_of HT_.out (by kernel_rfl)) (fun _ _ _ h => h) (Or.inl ⟨by rfl, ?_⟩) ?_ ?_
          rotate_left
          · intro w'
            go_simp
            with_reducible rfl
          rotate_left
          · simp only [Act.put, List.setIfInBounds_toArray, List.set_cons_zero, List.set_cons_succ, i64_w, i32_w]
            rfl
          refine inv_at [11, 13, 16, 17] (fun a0_ b a w' => ∃ (vv : Value), a = putSel a0_ b [(11, 75, .slice ak (fld p 2).length ck), (13, 77, vv), (16, 80, .pointer (some ⟨(ad.add (fr.length * 5)).block, (ad.add (fr.length * 5)).off + 2 + 1, none⟩))] ∧ (b 13 = false → w' = wd) ∧ (b 13 = true → b 17 = false → P1 wd (.slice ak (fld p 2).length ck) (fld p 2) x vv w') ∧ (b 17 = true → P2 wd (.slice ak (fld p 2).length ck) (fld p 2) x ⟨(ad.add (fr.length * 5)).block, (ad.add (fr.length * 5)).off + 2 + 1, none⟩ vv w')) HT_.out HW_.out (by kernel_rfl) (by kernel_rfl) ?_ ?_ ?_
          · exact ⟨.bool false, by simp only [putSel, Bool.false_eq_true, if_false], fun _ => rfl, fun h_ => absurd h_ (by decide), fun h_ => absurd h_ (by decide)⟩
          · skip
            clear E0
            refine steps_cons ?_ ?_
            · rintro b a w' ⟨vv, ha, Q_E0, Q_E1, Q_E2⟩ hb_ hon hoff
              refine ⟨_, rfl, fun K hK => ?_⟩
              have e74 : a.tmps[74]? = some (.pointer (some ⟨(ad.add (fr.length * 5)).block, (ad.add (fr.length * 5)).off + 2 + 1, none⟩)) := by rw [ha]; exact (putSel_off rfl).trans rfl
              replace ha := Aside0.mk ha
              have E0 := Aside0.mk (Q_E0 (hoff 13 (by kernel_rfl)))
              have hw_ := E0.out
              have hc_ := hcell
              rw [← hw_] at hc_
              refine value_ (w1 := w') (v := .slice ak (fld p 2).length ck) (by rfl) rfl ?_ ?_
              · go_simp
                (try simp only [i64_w])
                try rfl
              refine hK.out _ _ ⟨vv, (by rw [ha.out]; exact putSel_upk 0 hb_ rfl rfl rfl), Q_E0, fun h0_ _ => absurd ((hoff 13 (by kernel_rfl)).symm.trans h0_) (by decide), fun h0_ => absurd ((hoff 17 (by kernel_rfl)).symm.trans h0_) (by decide)⟩
            refine steps_cons ?_ ?_
            · rintro b a w' ⟨vv, ha, Q_E0, Q_E1, Q_E2⟩ hb_ hon hoff
              refine ⟨_, rfl, fun K hK => ?_⟩
              have e75 : a.tmps[75]? = some (.slice ak (fld p 2).length ck) := by rw [ha]; exact putSel_on (e := (11, 75, .slice ak (fld p 2).length ck)) 0 rfl rfl (hon 11 (by kernel_rfl)) rfl
              have e76 : a.tmps[76]? = some (.slice (some ax) x.length cX) := by rw [ha]; exact (putSel_off rfl).trans rfl
              replace ha := Aside0.mk ha
              have E0 := Aside0.mk (Q_E0 hb_)
              have hw_ := E0.out
              refine app_spread_step (by rfl) (.tmp 75) (.tmp 76) rfl Tryd.underlying22 inf5 (.slice ak (fld p 2).length ck) _ (us8 (fld p 2)) x ax cX (eval_of e75) (eval_of e76) (hw_ ▸ hown.out) (hw_ ▸ hXw.out) hln.out ?_
              intro v1 w1 ho hg hat
              have S3_ : P1 wd (.slice ak (fld p 2).length ck) (fld p 2) x v1 w1 := ⟨ho, hw_ ▸ hg, hw_ ▸ hat⟩
              refine hK.out _ _ ⟨v1, (by rw [ha.out]; exact putSel_upk 1 hb_ rfl rfl rfl), fun h0_ => absurd ((up_self b 13).symm.trans h0_) (by decide), fun _ _ => S3_, fun h0_ => absurd ((hoff 17 (by kernel_rfl)).symm.trans h0_) (by decide)⟩
            refine steps_cons ?_ ?_
            · rintro b a w' ⟨vv, ha, Q_E0, Q_E1, Q_E2⟩ hb_ hon hoff
              refine ⟨_, rfl, fun K hK => ?_⟩
              have e79 : a.tmps[79]? = some (.pointer (some ⟨(ad.add (fr.length * 5)).block, (ad.add (fr.length * 5)).off + 2, none⟩)) := by rw [ha]; exact (putSel_off rfl).trans rfl
              have e67 : a.tmps[67]? = some (.int .i64 (wrap64 1)) := by rw [ha]; exact (putSel_off rfl).trans rfl
              replace ha := Aside0.mk ha
              have E1 := Aside0.mk (Q_E1 (hon 13 (by kernel_rfl)) (hoff 17 (by kernel_rfl)))
              refine value_ (w1 := w') (v := .pointer (some ⟨(ad.add (fr.length * 5)).block, (ad.add (fr.length * 5)).off + 2 + 1, none⟩)) (by rfl) rfl ?_ ?_
              · go_simp
                (try simp only [i64_w])
                try rfl
              refine hK.out _ _ ⟨vv, (by rw [ha.out]; exact putSel_upk 2 hb_ rfl rfl rfl), fun h0_ => absurd ((hon 13 (by kernel_rfl)).symm.trans h0_) (by decide), Q_E1, fun h0_ => absurd ((hoff 17 (by kernel_rfl)).symm.trans h0_) (by decide)⟩
            refine steps_cons ?_ ?_
            · rintro b a w' ⟨vv, ha, Q_E0, Q_E1, Q_E2⟩ hb_ hon hoff
              refine ⟨_, rfl, fun K hK => ?_⟩
              have e80 : a.tmps[80]? = some (.pointer (some ⟨(ad.add (fr.length * 5)).block, (ad.add (fr.length * 5)).off + 2 + 1, none⟩)) := by rw [ha]; exact putSel_on (e := (16, 80, .pointer (some ⟨(ad.add (fr.length * 5)).block, (ad.add (fr.length * 5)).off + 2 + 1, none⟩))) 2 rfl rfl (hon 16 (by kernel_rfl)) rfl
              have e77 : a.tmps[77]? = some (vv) := by rw [ha]; exact putSel_on (e := (13, 77, vv)) 1 rfl rfl (hon 13 (by kernel_rfl)) rfl
              replace ha := Aside0.mk ha
              have E1 := Aside0.mk (Q_E1 (hon 13 (by kernel_rfl)) hb_)
              obtain ⟨A_, c_, en_⟩ := E1.out.form
              obtain ⟨hc_, hf_, _⟩ := hst_.out w' vv E1.out
              refine skip_ (w1 := w'.setCell ⟨(ad.add (fr.length * 5)).block, (ad.add (fr.length * 5)).off + 2 + 1, none⟩ vv) (by rfl) rfl ?_ ?_
              · rw [en_] at e77 ⊢
                go_simp
                try rfl
              have S3_ := E1.out
              refine hK.out _ _ ⟨vv, (by rw [ha.out]; exact putSel_none (v := undef) rfl), fun h0_ => absurd ((hon 13 (by kernel_rfl)).symm.trans h0_) (by decide), fun _ h1_ => absurd ((up_self b 17).symm.trans h1_) (by decide), fun _ => ⟨w', S3_, rfl⟩⟩
            exact steps_nil
          · rintro b a w' hall ⟨vv, ha, Q_E0, Q_E1, Q_E2⟩
            clear E0
            have hb11_ := hall 11 (by kernel_rfl)
            have hb13_ := hall 13 (by kernel_rfl)
            have hb16_ := hall 16 (by kernel_rfl)
            have hb17_ := hall 17 (by kernel_rfl)
            subst ha
            simp only [putSel, hb11_, hb13_, hb16_, hb17_, if_true, Act.put, List.setIfInBounds_toArray, List.set_cons_zero, List.set_cons_succ]
            clear Q_E0
            clear Q_E1
            have E2 := Aside0.mk (Q_E2 hb17_)
            clear Q_E2
            clear hall hb11_ hb13_ hb16_ hb17_
            obtain ⟨w1_, h1_, rfl⟩ := E2.out
            obtain ⟨_, _, hI5⟩ := hst_.out w1_ vv h1_
            go_wp2
            go_roundg (L.length - (i + 1))
            case rel => exact ⟨_, wrap64 (ii + 1), 2, i + 1, by first | rfl | (simp; done) | (simp [hw1]; done), ⟨by rw [hw1]; have := hii.out; omega⟩, by first | rfl | (simp; done), by simp, by have := hii.out; omega, rfl, Aside0.mk (hnext.out.trans hyes.out), ⟨sz_add hsz.out x HX.out.2.1.2.2 2⟩, ⟨hI5⟩⟩
            case measure => have := hii.out; have := HX.out.2.2.2.2.2; omega
        · skip
          have hpn : ps ≠ [] := rdAll_ne hall.out (fun h => absurd rfl h) (by simp)
          obtain rfl | ⟨fr, p, rfl⟩ := snoc_cases ps
          · exact absurd rfl hpn
          clear hpn
          obtain rfl : m = fr.length + 1 := by rw [hm.out]; simp
          have hwj : wrap64 (fr.length : Int) = (fr.length : Int) := by have := hps5.out; simp at this; unfold wrap64; omega
          have hyes : rdStep N (fr ++ [p], 3) x = some (fr ++ [addF p x 3], 3) := by simp [rdStep, hsgq.out, onLast_snoc, addF, addSide]
          replace hyes := Aside0.mk hyes
          obtain ⟨ad, cap, vk, e1, _, _, _, _⟩ := hI.out.at 3 (by decide) x
          injection e1 with eA _ ec
          subst eA ec
          have hq0 : wrap64 2 = 2 := by unfold wrap64; omega
          have hjj := eq_true (show (fr.length : Int) < (fr.length : Int) + 1 by omega)
          go_wp2_with ((go_at_call 26; refine HMK.out.mono ?_; rintro e w3 ⟨rfl, hb3⟩))
          have hIw := hI.out.keep (below_drew1 hb3)
          have hXw := Kd.C_below HX.out.2.2.2.1 (below_drew1 hb3)
          obtain ⟨_, _, vk, e1, _, hcell, hown, hstep⟩ := hIw.at 3 (by decide) x
          obtain ⟨ak, ck, rfl, _⟩ := own_form hown
          injection e1 with e1 _ ec
          injection e1 with e1
          subst e1 ec
          have hln : (fld p 3).length + x.length ≤ 140737488355328 := by
            have := sz_fld (hsz.out.2 p (List.mem_append_right _ List.mem_cons_self)) 3
            have := hi5; have := HX.out.2.1.2.2; omega
          replace hln := Aside0.mk hln
          have hst_ : ∀ w1 v1, P1 w3.drew (.slice ak (fld p 3).length ck) (fld p 3) x v1 w1 → _ := fun w1 v1 h => hstep w1 v1 h.1 h.2.1 h.2.2
          replace hst_ := Aside0.mk hst_
          replace hown := Aside0.mk hown
          replace hXw := Aside0.mk hXw
          clear hstep hIw
          have E0 := trivial
          refine start_ (n := 18) (S := fun w' => True) (ds := []) #[false, false, false, false, false, false, false, false, false, false, false, false, false, false, false, false, false, false] (by kernel_rfl) rfl rfl trivial (fun hHeld => ?_)
          refine with_tabW mread.tab17 mread.bits17 (fun HT_ HW_ => ?_)
          generalize w3.drew = wd at hcell hown hst_ hXw hHeld ⊢
          refine pure_ (i := 0) (N := some 64) (v := ?_) (a' := ?_) #[true, false, false, false, false, false, false, false, false, false, false, false, false, false, false, false, false, false] rfl rfl (any_of HT_.out (by kernel_rfl)) (fun _ _ _ h => h) (Or.inl ⟨by rfl, ?_⟩) ?_ ?_
          rotate_left
          · intro w'
            go_simp
            with_reducible rfl
          rotate_left
          · simp only [Act.put, List.setIfInBounds_toArray, List.set_cons_zero, List.set_cons_succ, i64_w, i32_w]
            rfl
          refine pure_ (i := 1) (N := some 65) (v := ?_) (a' := ?_) #[true, true, false, false, false, false, false, false, false, false, false, false, false, false, false, false, false, false] rfl rfl (any_of HT_.out (by kernel_rfl)) (fun _ _ _ h => h) (Or.inl ⟨by rfl, ?_⟩) ?_ ?_
          rotate_left
          · intro w'
            go_simp
            with_reducible rfl
          rotate_left
          · simp only [Act.put, List.setIfInBounds_toArray, List.set_cons_zero, List.set_cons_succ, i64_w, i32_w]
            rfl
          refine pure_ (i := 2) (N := some 66) (v := ?_) (a' := ?_) #[true, true, true, false, false, false, false, false, false, false, false, false, false, false, false, false, false, false] rfl rfl (any_of HT_.out (by kernel_rfl)) (fun _ _ _ h => h) (Or.inl ⟨by rfl, ?_⟩) ?_ ?_
          rotate_left
          · intro w'
            go_simp
            with_reducible rfl
          rotate_left
          · simp only [Act.put, List.setIfInBounds_toArray, List.set_cons_zero, List.set_cons_succ, i64_w, i32_w]
            rfl
          refine pure_ (i := 3) (N := some 67) (v := ?_) (a' := ?_) #[true, true, true, true, false, false, false, false, false, false, false, false, false, false, false, false, false, false] rfl rfl (any_of HT_.out (by kernel_rfl)) (fun _ _ _ h => h) (Or.inl ⟨by rfl, ?_⟩) ?_ ?_
          rotate_left
          · intro w'
            go_simp
            with_reducible rfl
          rotate_left
          · simp only [Act.put, List.setIfInBounds_toArray, List.set_cons_zero, List.set_cons_succ, i64_w, i32_w]
            rfl
          refine pure_ (i := 4) (N := some 68) (v := ?_) (a' := ?_) #[true, true, true, true, true, false, false, false, false, false, false, false, false, false, false, false, false, false] rfl rfl (any_of HT_.out (by kernel_rfl)) (fun _ _ _ h => h) (Or.inl ⟨by rfl, ?_⟩) ?_ ?_
          rotate_left
          · intro w'
            go_simp
            with_reducible rfl
          rotate_left
          · simp only [Act.put, List.setIfInBounds_toArray, List.set_cons_zero, List.set_cons_succ, i64_w, i32_w]
            rfl
          refine pure_ (i := 5) (N := some 69) (v := ?_) (a' := ?_) #[true, true, true, true, true, true, false, false, false, false, false, false, false, false, false, false, false, false] rfl rfl (any_of HT_.out (by kernel_rfl)) (fun _ _ _ h => h) (Or.inl ⟨by rfl, ?_⟩) ?_ ?_
          rotate_left
          · intro w'
            go_simp
            with_reducible rfl
          rotate_left
          · simp only [Act.put, List.setIfInBounds_toArray, List.set_cons_zero, List.set_cons_succ, i64_w, i32_w]
            rfl
          refine pure_ (i := 6) (N := some 70) (v := ?_) (a' := ?_) #[true, true, true, true, true, true, true, false, false, false, false, false, false, false, false, false, false, false] rfl rfl (any_of HT_.out (by kernel_rfl)) (fun _ _ _ h => h) (Or.inl ⟨by rfl, ?_⟩) ?_ ?_
          rotate_left
          · intro w'
            go_simp
            with_reducible rfl
          rotate_left
          · simp only [Act.put, List.setIfInBounds_toArray, List.set_cons_zero, List.set_cons_succ, i64_w, i32_w]
            rfl
          refine pure_ (i := 7) (N := some 71) (v := ?_) (a' := ?_) #[true, true, true, true, true, true, true, true, false, false, false, false, false, false, false, false, false, false] rfl rfl (any_of HT_.out (by kernel_rfl)) (fun _ _ _ h => h) (Or.inl ⟨by rfl, ?_⟩) ?_ ?_
          rotate_left
          · intro w'
            go_simp
            with_reducible rfl
          rotate_left
          · simp only [Act.put, List.setIfInBounds_toArray, List.set_cons_zero, List.set_cons_succ, i64_w, i32_w]
            rfl
          refine pure_ (i := 8) (N := some 72) (v := ?_) (a' := ?_) #[true, true, true, true, true, true, true, true, true, false, false, false, false, false, false, false, false, false] rfl rfl (any_of HT_.out (by kernel_rfl)) (fun _ _ _ h => h) (Or.inl ⟨by rfl, ?_⟩) ?_ ?_
          rotate_left
          · intro w'
            go_simp
            with_reducible rfl
          rotate_left
          · simp only [Act.put, List.setIfInBounds_toArray, List.set_cons_zero, List.set_cons_succ, i64_w, i32_w]
            rfl
          refine pure_ (i := 9) (N := some 73) (v := ?_) (a' := ?_) #[true, true, true, true, true, true, true, true, true, true, false, false, false, false, false, false, false, false] rfl rfl (any_of HT_.out (by kernel_rfl)) (fun _ _ _ h => h) (Or.inl ⟨by rfl, ?_⟩) ?_ ?_
          rotate_left
          · intro w'
            go_simp
            with_reducible rfl
          rotate_left
          · simp only [Act.put, List.setIfInBounds_toArray, List.set_cons_zero, List.set_cons_succ, i64_w, i32_w]
            rfl
          refine pure_ (i := 10) (N := some 74) (v := ?_) (a' := ?_) #[true, true, true, true, true, true, true, true, true, true, true, false, false, false, false, false, false, false] rfl rfl (any_of HT_.out (by kernel_rfl)) (fun _ _ _ h => h) (Or.inl ⟨by rfl, ?_⟩) ?_ ?_
          rotate_left
          · intro w'
            go_simp
            with_reducible rfl
          rotate_left
          · simp only [Act.put, List.setIfInBounds_toArray, List.set_cons_zero, List.set_cons_succ, i64_w, i32_w]
            rfl
          refine pure_ (i := 12) (N := some 76) (v := ?_) (a' := ?_) #[true, true, true, true, true, true, true, true, true, true, true, false, true, false, false, false, false, false] rfl rfl (any_of HT_.out (by kernel_rfl)) (fun _ _ _ h => h) (Or.inl ⟨by rfl, ?_⟩) ?_ ?_
          rotate_left
          · intro w'
            go_simp
            with_reducible rfl
          rotate_left
          · simp only [Act.put, List.setIfInBounds_toArray, List.set_cons_zero, List.set_cons_succ, i64_w, i32_w]
            rfl
          refine pure_ (i := 14) (N := some 78) (v := ?_) (a' := ?_) #[true, true, true, true, true, true, true, true, true, true, true, false, true, false, true, false, false, false] rfl rfl (any_of HT_.out (by kernel_rfl)) (fun _ _ _ h => h) (Or.inl ⟨by rfl, ?_⟩) ?_ ?_
          rotate_left
          · intro w'
            go_simp
            with_reducible rfl
          rotate_left
          · simp only [Act.put, List.setIfInBounds_toArray, List.set_cons_zero, List.set_cons_succ, i64_w, i32_w]
            rfl
          refine pure_ (i := 15) (N := some 79) (v := ?_) (a' := ?_) #[true, true, true, true, true, true, true, true, true, true, true, false, true, false, true, true, false, false] rfl rfl (any_of HT_.out (by kernel_rfl)) (fun _ _ _ h => h) (Or.inl ⟨by rfl, ?_⟩) ?_ ?_
          rotate_left
          · intro w'
            go_simp
            with_reducible rfl
          rotate_left
          · simp only [Act.put, List.setIfInBounds_toArray, List.set_cons_zero, List.set_cons_succ, i64_w, i32_w]
            rfl
          refine inv_at [11, 13, 16, 17] (fun a0_ b a w' => ∃ (vv : Value), a = putSel a0_ b [(11, 75, .slice ak (fld p 3).length ck), (13, 77, vv), (16, 80, .pointer (some ⟨(ad.add (fr.length * 5)).block, (ad.add (fr.length * 5)).off + 2 + 2, none⟩))] ∧ (b 13 = false → w' = wd) ∧ (b 13 = true → b 17 = false → P1 wd (.slice ak (fld p 3).length ck) (fld p 3) x vv w') ∧ (b 17 = true → P2 wd (.slice ak (fld p 3).length ck) (fld p 3) x ⟨(ad.add (fr.length * 5)).block, (ad.add (fr.length * 5)).off + 2 + 2, none⟩ vv w')) HT_.out HW_.out (by kernel_rfl) (by kernel_rfl) ?_ ?_ ?_
          · exact ⟨.bool false, by simp only [putSel, Bool.false_eq_true, if_false], fun _ => rfl, fun h_ => absurd h_ (by decide), fun h_ => absurd h_ (by decide)⟩
          · skip
            clear E0
            refine steps_cons ?_ ?_
            · rintro b a w' ⟨vv, ha, Q_E0, Q_E1, Q_E2⟩ hb_ hon hoff
              refine ⟨_, rfl, fun K hK => ?_⟩
              have e74 : a.tmps[74]? = some (.pointer (some ⟨(ad.add (fr.length * 5)).block, (ad.add (fr.length * 5)).off + 2 + 2, none⟩)) := by rw [ha]; exact (putSel_off rfl).trans rfl
              replace ha := Aside0.mk ha
              have E0 := Aside0.mk (Q_E0 (hoff 13 (by kernel_rfl)))
              have hw_ := E0.out
              have hc_ := hcell
              rw [← hw_] at hc_
              refine value_ (w1 := w') (v := .slice ak (fld p 3).length ck) (by rfl) rfl ?_ ?_
              · go_simp
                (try simp only [i64_w])
                try rfl
              refine hK.out _ _ ⟨vv, (by rw [ha.out]; exact putSel_upk 0 hb_ rfl rfl rfl), Q_E0, fun h0_ _ => absurd ((hoff 13 (by kernel_rfl)).symm.trans h0_) (by decide), fun h0_ => absurd ((hoff 17 (by kernel_rfl)).symm.trans h0_) (by decide)⟩
            refine steps_cons ?_ ?_
            · rintro b a w' ⟨vv, ha, Q_E0, Q_E1, Q_E2⟩ hb_ hon hoff
              refine ⟨_, rfl, fun K hK => ?_⟩
              have e75 : a.tmps[75]? = some (.slice ak (fld p 3).length ck) := by rw [ha]; exact putSel_on (e := (11, 75, .slice ak (fld p 3).length ck)) 0 rfl rfl (hon 11 (by kernel_rfl)) rfl
              have e76 : a.tmps[76]? = some (.slice (some ax) x.length cX) := by rw [ha]; exact (putSel_off rfl).trans rfl
              replace ha := Aside0.mk ha
              have E0 := Aside0.mk (Q_E0 hb_)
              have hw_ := E0.out
              refine app_spread_step (by rfl) (.tmp 75) (.tmp 76) rfl Tryd.underlying22 inf5 (.slice ak (fld p 3).length ck) _ (us8 (fld p 3)) x ax cX (eval_of e75) (eval_of e76) (hw_ ▸ hown.out) (hw_ ▸ hXw.out) hln.out ?_
              intro v1 w1 ho hg hat
              have S3_ : P1 wd (.slice ak (fld p 3).length ck) (fld p 3) x v1 w1 := ⟨ho, hw_ ▸ hg, hw_ ▸ hat⟩
              refine hK.out _ _ ⟨v1, (by rw [ha.out]; exact putSel_upk 1 hb_ rfl rfl rfl), fun h0_ => absurd ((up_self b 13).symm.trans h0_) (by decide), fun _ _ => S3_, fun h0_ => absurd ((hoff 17 (by kernel_rfl)).symm.trans h0_) (by decide)⟩
            refine steps_cons ?_ ?_
            · rintro b a w' ⟨vv, ha, Q_E0, Q_E1, Q_E2⟩ hb_ hon hoff
              refine ⟨_, rfl, fun K hK => ?_⟩
              have e79 : a.tmps[79]? = some (.pointer (some ⟨(ad.add (fr.length * 5)).block, (ad.add (fr.length * 5)).off + 2, none⟩)) := by rw [ha]; exact (putSel_off rfl).trans rfl
              have e67 : a.tmps[67]? = some (.int .i64 (wrap64 2)) := by rw [ha]; exact (putSel_off rfl).trans rfl
              replace ha := Aside0.mk ha
              have E1 := Aside0.mk (Q_E1 (hon 13 (by kernel_rfl)) (hoff 17 (by kernel_rfl)))
              refine value_ (w1 := w') (v := .pointer (some ⟨(ad.add (fr.length * 5)).block, (ad.add (fr.length * 5)).off + 2 + 2, none⟩)) (by rfl) rfl ?_ ?_
              · go_simp
                (try simp only [i64_w])
                try rfl
              refine hK.out _ _ ⟨vv, (by rw [ha.out]; exact putSel_upk 2 hb_ rfl rfl rfl), fun h0_ => absurd ((hon 13 (by kernel_rfl)).symm.trans h0_) (by decide), Q_E1, fun h0_ => absurd ((hoff 17 (by kernel_rfl)).symm.trans h0_) (by decide)⟩
            refine steps_cons ?_ ?_
            · rintro b a w' ⟨vv, ha, Q_E0, Q_E1, Q_E2⟩ hb_ hon hoff
              refine ⟨_, rfl, fun K hK => ?_⟩
              have e80 : a.tmps[80]? = some (.pointer (some ⟨(ad.add (fr.length * 5)).block, (ad.add (fr.length * 5)).off + 2 + 2, none⟩)) := by rw [ha]; exact putSel_on (e := (16, 80, .pointer (some ⟨(ad.add (fr.length * 5)).block, (ad.add (fr.length * 5)).off + 2 + 2, none⟩))) 2 rfl rfl (hon 16 (by kernel_rfl)) rfl
              have e77 : a.tmps[77]? = some (vv) := by rw [ha]; exact putSel_on (e := (13, 77, vv)) 1 rfl rfl (hon 13 (by kernel_rfl)) rfl
              replace ha := Aside0.mk ha
              have E1 := Aside0.mk (Q_E1 (hon 13 (by kernel_rfl)) hb_)
              obtain ⟨A_, c_, en_⟩ := E1.out.form
              obtain ⟨hc_, hf_, _⟩ := hst_.out w' vv E1.out
              refine skip_ (w1 := w'.setCell ⟨(ad.add (fr.length * 5)).block, (ad.add (fr.length * 5)).off + 2 + 2, none⟩ vv) (by rfl) rfl ?_ ?_
              · rw [en_] at e77 ⊢
                go_simp
                try rfl
              have S3_ := E1.out
              refine hK.out _ _ ⟨vv, (by rw [ha.out]; exact putSel_none (v := undef) rfl), fun h0_ => absurd ((hon 13 (by kernel_rfl)).symm.trans h0_) (by decide), fun _ h1_ => absurd ((up_self b 17).symm.trans h1_) (by decide), fun _ => ⟨w', S3_, rfl⟩⟩
            exact steps_nil
          · rintro b a w' hall ⟨vv, ha, Q_E0, Q_E1, Q_E2⟩
            clear E0
            have hb11_ := hall 11 (by kernel_rfl)
            have hb13_ := hall 13 (by kernel_rfl)
            have hb16_ := hall 16 (by kernel_rfl)
            have hb17_ := hall 17 (by kernel_rfl)
            subst ha
            simp only [putSel, hb11_, hb13_, hb16_, hb17_, if_true, Act.put, List.setIfInBounds_toArray, List.set_cons_zero, List.set_cons_succ]
            clear Q_E0
            clear Q_E1
            have E2 := Aside0.mk (Q_E2 hb17_)
            clear Q_E2
            clear hall hb11_ hb13_ hb16_ hb17_
            obtain ⟨w1_, h1_, rfl⟩ := E2.out
            obtain ⟨_, _, hI5⟩ := hst_.out w1_ vv h1_
            go_wp2
            go_roundg (L.length - (i + 1))
            case rel => exact ⟨_, wrap64 (ii + 1), 3, i + 1, by first | rfl | (simp; done) | (simp [hw1]; done), ⟨by rw [hw1]; have := hii.out; omega⟩, by first | rfl | (simp; done), by simp, by have := hii.out; omega, rfl, Aside0.mk (hnext.out.trans hyes.out), ⟨sz_add hsz.out x HX.out.2.1.2.2 3⟩, ⟨hI5⟩⟩
            case measure => have := hii.out; have := HX.out.2.2.2.2.2; omega
      rcases hsg with rfl | hsg
      · rcases hst with rfl | rfl | rfl | rfl
        · skip
          have hyes : rdStep N (ps, 0) x = some (ps ++ [nwPt true], 1) := by simp [rdStep, hsgq.out]
          go_wp2_with (first | ((go_at_call 26; refine HMK.out.mono ?_; rintro e w3 ⟨rfl, hb3⟩); have hI3 := hI.out.keep hb3) | ((with_reducible refine gate_builtin (b := .append) (xs := #[.tmp 88, .tmp 90]) rfl ?_); at_builtin; refine app_push rfl (.tmp 88) (.tmp 90) 104 rfl Tryd.underlying23 inf50 (by decide) hI3 hps5.out _ hm.out.symm true rfl rfl ?_; intro Ao2 co2 w4 hI4))
          go_roundg (L.length - (i + 1))
          case rel => exact ⟨ps ++ [nwPt true], wrap64 (ii + 1), 1, i + 1, by first | rfl | (simp; done) | (simp [hw1]; done), ⟨by rw [hw1]; have := hii.out; omega⟩, by first | rfl | (simp; done), by simp, by have := hii.out; omega, rfl, Aside0.mk (hnext.out.trans hyes), ⟨sz_push hsz.out true⟩, ⟨hI4⟩⟩
          case measure => have := hii.out; have := HX.out.2.2.2.2.2; omega
        · skip
          have hno : rdStep N (ps, 1) x = none := by simp [rdStep, hsgq.out]
          have hR0 : R = ([], 5) := by
            rw [HRES.out, rdAll_none (hnext.out.trans hno)]
          go_wp2_with ((go_at_call 26; refine HMK.out.mono ?_; rintro e w3 ⟨rfl, hb3⟩))
          refine bodyPost_ret (results_tmp2 rfl _ _ _) rfl ?_
          rw [hR0]
          exact ⟨none, 0, rfl, Nat.zero_le _, Kd.C_nil kP _, hB2.out.trans (below_lo (hI.out.below.trans (below_lo hb3 hI.out.below.size)) hB2.out.size)⟩
        · skip
          have hno : rdStep N (ps, 2) x = none := by simp [rdStep, hsgq.out]
          have hR0 : R = ([], 5) := by
            rw [HRES.out, rdAll_none (hnext.out.trans hno)]
          go_wp2_with ((go_at_call 26; refine HMK.out.mono ?_; rintro e w3 ⟨rfl, hb3⟩))
          refine bodyPost_ret (results_tmp2 rfl _ _ _) rfl ?_
          rw [hR0]
          exact ⟨none, 0, rfl, Nat.zero_le _, Kd.C_nil kP _, hB2.out.trans (below_lo (hI.out.below.trans (below_lo hb3 hI.out.below.size)) hB2.out.size)⟩
        · skip
          have hno : rdStep N (ps, 3) x = none := by simp [rdStep, hsgq.out]
          have hR0 : R = ([], 5) := by
            rw [HRES.out, rdAll_none (hnext.out.trans hno)]
          go_wp2_with ((go_at_call 26; refine HMK.out.mono ?_; rintro e w3 ⟨rfl, hb3⟩))
          refine bodyPost_ret (results_tmp2 rfl _ _ _) rfl ?_
          rw [hR0]
          exact ⟨none, 0, rfl, Nat.zero_le _, Kd.C_nil kP _, hB2.out.trans (below_lo (hI.out.below.trans (below_lo hb3 hI.out.below.size)) hB2.out.size)⟩
      rcases hsg with rfl | hsg
      · rcases hst with rfl | rfl | rfl | rfl
        · skip
          have hno : rdStep N (ps, 0) x = none := by simp [rdStep, hsgq.out]
          have hR0 : R = ([], 5) := by
            rw [HRES.out, rdAll_none (hnext.out.trans hno)]
          go_wp2_with ((go_at_call 26; refine HMK.out.mono ?_; rintro e w3 ⟨rfl, hb3⟩))
          refine bodyPost_ret (results_tmp2 rfl _ _ _) rfl ?_
          rw [hR0]
          exact ⟨none, 0, rfl, Nat.zero_le _, Kd.C_nil kP _, hB2.out.trans (below_lo (hI.out.below.trans (below_lo hb3 hI.out.below.size)) hB2.out.size)⟩
        · skip
          have hyes : rdStep N (ps, 1) x = some (ps, 2) := by simp [rdStep, hsgq.out]
          go_wp2_with ((go_at_call 26; refine HMK.out.mono ?_; rintro e w3 ⟨rfl, hb3⟩); have hI3 := hI.out.keep hb3)
          go_roundg (L.length - (i + 1))
          case rel => exact ⟨ps, wrap64 (ii + 1), 2, i + 1, by first | rfl | (simp; done) | (simp [hw1]; done), ⟨by rw [hw1]; have := hii.out; omega⟩, by first | rfl | (simp; done), by simp, by have := hii.out; omega, rfl, Aside0.mk (hnext.out.trans hyes), ⟨sz_mono hsz.out⟩, ⟨hI3⟩⟩
          case measure => have := hii.out; have := HX.out.2.2.2.2.2; omega
        · skip
          have hno : rdStep N (ps, 2) x = none := by simp [rdStep, hsgq.out]
          have hR0 : R = ([], 5) := by
            rw [HRES.out, rdAll_none (hnext.out.trans hno)]
          go_wp2_with ((go_at_call 26; refine HMK.out.mono ?_; rintro e w3 ⟨rfl, hb3⟩))
          refine bodyPost_ret (results_tmp2 rfl _ _ _) rfl ?_
          rw [hR0]
          exact ⟨none, 0, rfl, Nat.zero_le _, Kd.C_nil kP _, hB2.out.trans (below_lo (hI.out.below.trans (below_lo hb3 hI.out.below.size)) hB2.out.size)⟩
        · skip
          have hno : rdStep N (ps, 3) x = none := by simp [rdStep, hsgq.out]
          have hR0 : R = ([], 5) := by
            rw [HRES.out, rdAll_none (hnext.out.trans hno)]
          go_wp2_with ((go_at_call 26; refine HMK.out.mono ?_; rintro e w3 ⟨rfl, hb3⟩))
          refine bodyPost_ret (results_tmp2 rfl _ _ _) rfl ?_
          rw [hR0]
          exact ⟨none, 0, rfl, Nat.zero_le _, Kd.C_nil kP _, hB2.out.trans (below_lo (hI.out.below.trans (below_lo hb3 hI.out.below.size)) hB2.out.size)⟩
      rcases hsg with rfl | hsg
      · rcases hst with rfl | rfl | rfl | rfl
        · skip
          have hno : rdStep N (ps, 0) x = none := by simp [rdStep, hsgq.out]
          have hR0 : R = ([], 5) := by
            rw [HRES.out, rdAll_none (hnext.out.trans hno)]
          go_wp2_with ((go_at_call 26; refine HMK.out.mono ?_; rintro e w3 ⟨rfl, hb3⟩))
          refine bodyPost_ret (results_tmp2 rfl _ _ _) rfl ?_
          rw [hR0]
          exact ⟨none, 0, rfl, Nat.zero_le _, Kd.C_nil kP _, hB2.out.trans (below_lo (hI.out.below.trans (below_lo hb3 hI.out.below.size)) hB2.out.size)⟩
        · skip
          have hno : rdStep N (ps, 1) x = none := by simp [rdStep, hsgq.out]
          have hR0 : R = ([], 5) := by
            rw [HRES.out, rdAll_none (hnext.out.trans hno)]
          go_wp2_with ((go_at_call 26; refine HMK.out.mono ?_; rintro e w3 ⟨rfl, hb3⟩))
          refine bodyPost_ret (results_tmp2 rfl _ _ _) rfl ?_
          rw [hR0]
          exact ⟨none, 0, rfl, Nat.zero_le _, Kd.C_nil kP _, hB2.out.trans (below_lo (hI.out.below.trans (below_lo hb3 hI.out.below.size)) hB2.out.size)⟩
        · skip
          have hyes : rdStep N (ps, 2) x = some (ps, 3) := by simp [rdStep, hsgq.out]
          go_wp2_with ((go_at_call 26; refine HMK.out.mono ?_; rintro e w3 ⟨rfl, hb3⟩); have hI3 := hI.out.keep hb3)
          go_roundg (L.length - (i + 1))
          case rel => exact ⟨ps, wrap64 (ii + 1), 3, i + 1, by first | rfl | (simp; done) | (simp [hw1]; done), ⟨by rw [hw1]; have := hii.out; omega⟩, by first | rfl | (simp; done), by simp, by have := hii.out; omega, rfl, Aside0.mk (hnext.out.trans hyes), ⟨sz_mono hsz.out⟩, ⟨hI3⟩⟩
          case measure => have := hii.out; have := HX.out.2.2.2.2.2; omega
        · skip
          have hno : rdStep N (ps, 3) x = none := by simp [rdStep, hsgq.out]
          have hR0 : R = ([], 5) := by
            rw [HRES.out, rdAll_none (hnext.out.trans hno)]
          go_wp2_with ((go_at_call 26; refine HMK.out.mono ?_; rintro e w3 ⟨rfl, hb3⟩))
          refine bodyPost_ret (results_tmp2 rfl _ _ _) rfl ?_
          rw [hR0]
          exact ⟨none, 0, rfl, Nat.zero_le _, Kd.C_nil kP _, hB2.out.trans (below_lo (hI.out.below.trans (below_lo hb3 hI.out.below.size)) hB2.out.size)⟩
      subst hsg
      rcases hst with rfl | rfl | rfl | rfl
      · skip
        have hno : rdStep N (ps, 0) x = none := by simp [rdStep, hsgq.out]
        have hR0 : R = ([], 5) := by
          rw [HRES.out, rdAll_none (hnext.out.trans hno)]
        go_wp2_with ((go_at_call 26; refine HMK.out.mono ?_; rintro e w3 ⟨rfl, hb3⟩))
        refine bodyPost_ret (results_tmp2 rfl _ _ _) rfl ?_
        rw [hR0]
        exact ⟨none, 0, rfl, Nat.zero_le _, Kd.C_nil kP _, hB2.out.trans (below_lo (hI.out.below.trans (below_lo hb3 hI.out.below.size)) hB2.out.size)⟩
      · skip
        have hno : rdStep N (ps, 1) x = none := by simp [rdStep, hsgq.out]
        have hR0 : R = ([], 5) := by
          rw [HRES.out, rdAll_none (hnext.out.trans hno)]
        go_wp2_with ((go_at_call 26; refine HMK.out.mono ?_; rintro e w3 ⟨rfl, hb3⟩))
        refine bodyPost_ret (results_tmp2 rfl _ _ _) rfl ?_
        rw [hR0]
        exact ⟨none, 0, rfl, Nat.zero_le _, Kd.C_nil kP _, hB2.out.trans (below_lo (hI.out.below.trans (below_lo hb3 hI.out.below.size)) hB2.out.size)⟩
      · skip
        have hno : rdStep N (ps, 2) x = none := by simp [rdStep, hsgq.out]
        have hR0 : R = ([], 5) := by
          rw [HRES.out, rdAll_none (hnext.out.trans hno)]
        go_wp2_with ((go_at_call 26; refine HMK.out.mono ?_; rintro e w3 ⟨rfl, hb3⟩))
        refine bodyPost_ret (results_tmp2 rfl _ _ _) rfl ?_
        rw [hR0]
        exact ⟨none, 0, rfl, Nat.zero_le _, Kd.C_nil kP _, hB2.out.trans (below_lo (hI.out.below.trans (below_lo hb3 hI.out.below.size)) hB2.out.size)⟩
      · skip
        have hyes : rdStep N (ps, 3) x = some (ps, 0) := by simp [rdStep, hsgq.out]
        go_wp2_with ((go_at_call 26; refine HMK.out.mono ?_; rintro e w3 ⟨rfl, hb3⟩); have hI3 := hI.out.keep hb3)
        go_roundg (L.length - (i + 1))
        case rel => exact ⟨ps, wrap64 (ii + 1), 0, i + 1, by first | rfl | (simp; done) | (simp [hw1]; done), ⟨by rw [hw1]; have := hii.out; omega⟩, by first | rfl | (simp; done), by simp, by have := hii.out; omega, rfl, Aside0.mk (hnext.out.trans hyes), ⟨sz_mono hsz.out⟩, ⟨hI3⟩⟩
        case measure => have := hii.out; have := HX.out.2.2.2.2.2; omega
    · have hi' : i = L.length := by have := hii.out; omega
      have hall2 : rdAll N L ([], 0) = some (ps, sti.toNat) := by have := hall.out; rwa [hi', List.take_length] at this
      rcases hst with rfl | rfl | rfl | rfl
      · obtain ⟨Ao, co, rfl, hoc, hC⟩ := hI.out.out
        replace hall2 := Aside0.mk hall2
        clear hi'
        go_wp2
        refine bodyPost_ret (results_tmp2 rfl _ _ _) rfl ?_
        have hR0 : R = (ps, 0) := by rw [HRES.out, hall2.out]; rfl
        rw [hR0]
        exact ⟨Ao, co, rfl, hoc, hC, hB2.out.trans (below_lo hI.out.below hB2.out.size)⟩
      all_goals
        replace hall2 := Aside0.mk hall2
        clear hi'
        go_wp2
        refine bodyPost_ret (results_tmp2 rfl _ _ _) rfl ?_
        have hR0 : R = ([], 5) := by rw [HRES.out, hall2.out]; rfl
        rw [hR0]
        exact ⟨none, 0, rfl, Nat.zero_le _, Kd.C_nil kP _, hB2.out.trans (below_lo hI.out.below hB2.out.size)⟩
 · have hright : mark_right.f n = some false := by
     unfold mark_right.f
     by_cases h : n ≥ 1
     · rw [if_pos h]; have : ¬ n ≤ 16777216 := fun h2 => hn ⟨h, h2⟩; simp [this]
     · rw [if_neg h]
   have hres : readOf n b = ([], 1) := by unfold readOf; rw [if_neg hn]
   rw [hres]
   clear hn hres
   go_enter Tryd.func9, Tryd.ntmps9
   go_wp2_with (go_at_call 24; refine (mark_right.calls _ false _ hright).mono ?_; rintro e w1 ⟨rfl, hb1⟩; replace hb1 := drawn_below hb1)
   refine bodyPost_ret (results_tmp2 rfl _ _ _) rfl ?_
   exact ⟨none, 0, rfl, Nat.zero_le _, Kd.C_nil kP _, hb1⟩
end Go.Proofs.YtnnnbeimehfiiaaDoor.Q

/-! The chapter's example in plain Lean. -/
set_option linter.unusedVariables false
namespace Go.Proofs.YtnnnbeimehfiiaaDoor.Q
open Go Go.RowKit Go.Proofs.YtnnnbeimehfiiaaDoorW.PrintWords Go.Proofs.YtnnnbeimehfiiaaDoorW.SL
def knP : Pt := ⟨true, [], [120], [121], [122]⟩
def knT : List Int := [60, 60, 60, 60, 60, 60, 60, 32, 97, 10, 120, 10, 124, 124, 124, 124, 124, 124, 124, 32, 98, 10, 121, 10, 61, 61, 61, 61, 61, 61, 61, 10, 122, 10, 62, 62, 62, 62, 62, 62, 62, 32, 99, 10]
def knQ : Pt := ⟨true, [], [120, 10], [121, 10], [122, 10]⟩
theorem kn_w : writeOf 7 ⟨#[97]⟩ ⟨#[98]⟩ ⟨#[99]⟩ [knP] = (knT, 0) := by kernel_rfl
theorem kn_r : readOf 7 knT = ([knQ], 0) := by kernel_rfl
theorem kn_e : readOf 7 [60, 60, 60, 60, 60, 60, 60, 10] = ([], 5) := by kernel_rfl
end Go.Proofs.YtnnnbeimehfiiaaDoor.Q

-- Written by a program of this session (wip/gen_kn.py) for this claim; Lean checks it.
/-! known, walked. -/
set_option linter.unusedVariables false
set_option linter.unusedSimpArgs false
namespace Go.Proofs.YtnnnbeimehfiiaaDoor.Q
open Go Go.RowKit Go.Proofs.YtnnnbeimehfiiaaDoorW.PrintWords Go.Proofs.YtnnnbeimehfiiaaDoorW.PrintLast Go.Proofs.YtnnnbeimehfiiaaDoorW.PrintMore Go.Proofs.YtnnnbeimehfiiaaDoorW.SL
attribute [local go_sem] max2_int min2_int max_two min_two max_three min_three max_four min_four
theorem kn_b : ∀ x ∈ knT, byte x := by intro x hx; simp only [knT, List.mem_cons, List.not_mem_nil, or_false] at hx; unfold byte; omega
theorem kn_b2 : ∀ x ∈ ([60, 60, 60, 60, 60, 60, 60, 10] : List Int), byte x := by intro x hx; simp only [List.mem_cons, List.not_mem_nil, or_false] at hx; unfold byte; omega
theorem kn_s : strOfNums knT = (⟨#[60, 60, 60, 60, 60, 60, 60, 32, 97, 10, 120, 10, 124, 124, 124, 124, 124, 124, 124, 32, 98, 10, 121, 10, 61, 61, 61, 61, 61, 61, 61, 10, 122, 10, 62, 62, 62, 62, 62, 62, 62, 32, 99, 10]⟩ : ByteArray) := by kernel_rfl
theorem kn_s2 : strOfNums [122, 10] = (⟨#[122, 10]⟩ : ByteArray) := by kernel_rfl
theorem five_at (w : World) (o1 o2 o3 o4 o5 : Obj) : (((((w.alloc o1).alloc o2).alloc o3).alloc o4).alloc o5).heap[w.heap.size]? = some o1 ∧ (((((w.alloc o1).alloc o2).alloc o3).alloc o4).alloc o5).heap[w.heap.size + 1]? = some o2 ∧ (((((w.alloc o1).alloc o2).alloc o3).alloc o4).alloc o5).heap[w.heap.size + 1 + 1]? = some o3 ∧ (((((w.alloc o1).alloc o2).alloc o3).alloc o4).alloc o5).heap[w.heap.size + 1 + 1 + 1 + 1]? = some o5 ∧ Below w.heap.size w (((((w.alloc o1).alloc o2).alloc o3).alloc o4).alloc o5) ∧ w.heap.size ≤ (((((w.alloc o1).alloc o2).alloc o3).alloc o4).alloc o5).heap.size := by
  have z1 : (w.alloc o1).heap.size = w.heap.size + 1 := by simp
  obtain ⟨w1, h1⟩ : ∃ w1, w.alloc o1 = w1 := ⟨_, rfl⟩
  have e1 : w1.heap[w.heap.size]? = some o1 := by rw [← h1]; exact heap_alloc_new w o1
  have b1 : Below w.heap.size w w1 := by rw [← h1]; exact below_alloc (Below.refl _ _) _
  rw [h1] at z1 ⊢
  have z2 : (w1.alloc o2).heap.size = w.heap.size + 1 + 1 := by simp [z1]
  obtain ⟨w2, h2⟩ : ∃ w2, w1.alloc o2 = w2 := ⟨_, rfl⟩
  have e2 : w2.heap[w.heap.size + 1]? = some o2 := by rw [← h2, ← z1]; exact heap_alloc_new w1 o2
  have b2 : Below w1.heap.size w1 w2 := by rw [← h2]; exact below_alloc (Below.refl _ _) _
  rw [h2] at z2 ⊢
  have z3 : (w2.alloc o3).heap.size = w.heap.size + 1 + 1 + 1 := by simp [z2]
  obtain ⟨w3, h3⟩ : ∃ w3, w2.alloc o3 = w3 := ⟨_, rfl⟩
  have e3 : w3.heap[w.heap.size + 1 + 1]? = some o3 := by rw [← h3, ← z2]; exact heap_alloc_new w2 o3
  have b3 : Below w2.heap.size w2 w3 := by rw [← h3]; exact below_alloc (Below.refl _ _) _
  rw [h3] at z3 ⊢
  have z4 : (w3.alloc o4).heap.size = w.heap.size + 1 + 1 + 1 + 1 := by simp [z3]
  obtain ⟨w4, h4⟩ : ∃ w4, w3.alloc o4 = w4 := ⟨_, rfl⟩
  have b4 : Below w3.heap.size w3 w4 := by rw [← h4]; exact below_alloc (Below.refl _ _) _
  rw [h4] at z4 ⊢
  obtain ⟨w5, h5⟩ : ∃ w5, w4.alloc o5 = w5 := ⟨_, rfl⟩
  have e5 : w5.heap[w.heap.size + 1 + 1 + 1 + 1]? = some o5 := by rw [← h5, ← z4]; exact heap_alloc_new w4 o5
  have b5 : Below w4.heap.size w4 w5 := by rw [← h5]; exact below_alloc (Below.refl _ _) _
  rw [h5]
  have s5 := b5.size
  refine ⟨?_, ?_, ?_, e5, ?_, by omega⟩
  · rw [b5.block _ (by omega), b4.block _ (by omega), b3.block _ (by omega), b2.block _ (by omega)]; exact e1
  · rw [b5.block _ (by omega), b4.block _ (by omega), b3.block _ (by omega)]; exact e2
  · rw [b5.block _ (by omega), b4.block _ (by omega)]; exact e3
  · exact (((b1.trans (below_lo b2 (by omega))).trans (below_lo b3 (by omega))).trans (below_lo b4 (by omega))).trans (below_lo b5 (by omega))
theorem kn_C {W : World} {g a1 a2 a3 t : Nat} (h : W.heap[g]? = some (.cells #[.bool true, .slice none 0 0, .slice (some ⟨a1, 0, none⟩) 1 1, .slice (some ⟨a2, 0, none⟩) 1 1, .slice (some ⟨a3, 0, none⟩) 1 1] t (0, 0))) (h1 : W.heap[a1]? = some (.cells #[.int .u8 120] 5 (1, 2))) (h2 : W.heap[a2]? = some (.cells #[.int .u8 121] 5 (1, 2))) (h3 : W.heap[a3]? = some (.cells #[.int .u8 122] 5 (1, 2))) :
    Kd.C kP W (some ⟨g, 0, none⟩) [knP].length [knP] := by
  refine ⟨rfl, by decide, fun _ => ⟨_, rfl, fun j x hj => ?_⟩⟩
  cases j with
  | zero =>
    simp only [List.getElem?_cons_zero, Option.some.injEq] at hj
    subst hj
    refine ⟨_, by rfl, kP_mk W knP (A1 := none) (c1 := 0) (A2 := some ⟨a1, 0, none⟩) (c2 := 1) (A3 := some ⟨a2, 0, none⟩) (c3 := 1) (A4 := some ⟨a3, 0, none⟩) (c4 := 1) ⟨Nat.le_refl _, Kd.C_nil B8 _⟩ ⟨Nat.le_refl _, lit_C (cs := [120]) h1 (by decide)⟩ ⟨Nat.le_refl _, lit_C (cs := [121]) h2 (by decide)⟩ ⟨Nat.le_refl _, lit_C (cs := [122]) h3 (by decide)⟩, fun i u hi => ?_⟩
    rw [base_add, blk_cell h]
    rw [← Array.getElem?_toList]
    refine Eq.trans ?_ hi
    simp [knP]
  | succ j => simp at hj
set_option maxHeartbeats 16000000 in
set_option maxRecDepth 100000 in
theorem known_walk (w : World) : Calls Tryd.prog 11 #[] w fun e w' => e = .returned (.bool true) ∧ Below w.heap.size w w' := by
  obtain ⟨wa, hwa⟩ : ∃ wa, wa = w.alloc (.cells #[.int .u8 120] 5 (1, 2)) := ⟨_, rfl⟩
  obtain ⟨wb, hwb⟩ : ∃ wb, wb = wa.alloc (.cells #[.int .u8 121] 5 (1, 2)) := ⟨_, rfl⟩
  have hca := Go.Joins.run_convert_bytes_const_at (P := Tryd.prog) w 22 5 #[.int .u8 120] 1 1 w.heap.size rfl Tryd.underlying22 Tryd.underlying5
  have hcb := Go.Joins.run_convert_bytes_const_at (P := Tryd.prog) wa 22 5 #[.int .u8 121] 1 1 (w.heap.size + 1) (by rw [hwa]; simp) Tryd.underlying22 Tryd.underlying5
  have hcc := Go.Joins.run_convert_bytes_const_at (P := Tryd.prog) wb 22 5 #[.int .u8 122] 1 1 (w.heap.size + 1 + 1) (by rw [hwb, hwa]; simp) Tryd.underlying22 Tryd.underlying5
  rw [hwb, hwa] at hcc
  rw [hwa] at hcb
  clear hwa hwb
  go_enter Tryd.func11, Tryd.ntmps11
  go_wp2_with (first | (go_at_call 19; refine (Write_calls 7 ⟨#[97]⟩ ⟨#[98]⟩ ⟨#[99]⟩ (some ⟨w.heap.size + 1 + 1 + 1 + 1, 0, none⟩) 1 [knP] _ (kn_C (t := 50) (a1 := w.heap.size) (a2 := w.heap.size + 1) (a3 := w.heap.size + 1 + 1) (five_at w _ _ _ _ _).2.2.2.1 (five_at w _ _ _ _ _).1 (five_at w _ _ _ _ _).2.1 (five_at w _ _ _ _ _).2.2.1) (Nat.le_refl _) (by decide) (by intro p hp; rw [List.mem_singleton] at hp; subst hp; decide) (by decide) (by decide) (by decide)).mono ?_; rw [kn_w]; rintro e w1 ⟨A1, c1, rfl, hc1, hC1, hb1⟩; have HB1 : Aside0 (Below w.heap.size w w1) := ⟨(five_at w _ _ _ _ _).2.2.2.2.1.trans (below_lo hb1 (five_at w _ _ _ _ _).2.2.2.2.2)⟩; replace hC1 := Aside0.mk hC1; replace hc1 := Aside0.mk hc1; clear hb1) | (go_at_call 9; refine (read_calls 7 A1 c1 knT w1 hC1.out hc1.out kn_b (by decide)).mono ?_; rw [kn_r]; rintro e w2 ⟨A2, c2, rfl, hc2, hC2, hb2⟩; have HB2 := Aside0.mk (HB1.out.trans (below_lo hb2 HB1.out.size)); replace hC1 := Aside0.mk (Kd.C_below hC1.out hb2); replace hC2 := Aside0.mk hC2; have hcd := Go.Joins.run_convert_bytes_const_at (P := Tryd.prog) w2 22 5 #[.int .u8 60, .int .u8 60, .int .u8 60, .int .u8 60, .int .u8 60, .int .u8 60, .int .u8 60, .int .u8 10] 8 8 w2.heap.size rfl Tryd.underlying22 Tryd.underlying5; clear hb2) | (go_at_call 9; refine (read_calls 7 (some ⟨w2.heap.size, 0, none⟩) 8 [60, 60, 60, 60, 60, 60, 60, 10] _ (lit_C (cs := [60, 60, 60, 60, 60, 60, 60, 10]) (heap_alloc_new w2 _) (by decide)) (Nat.le_refl _) kn_b2 (by decide)).mono ?_; rw [kn_e]; rintro e w3 ⟨A3, c3, rfl, _, _, hb3⟩; have hb3_ := (below_alloc (Below.refl _ _) _).trans (below_lo hb3 (by simp)); have HB3 := Aside0.mk (HB2.out.trans (below_lo hb3_ HB2.out.size)); replace hC1 := Kd.C_below hC1.out hb3_; replace hC2 := Kd.C_below hC2.out hb3_; clear hb3 hb3_; have hst1 := Kd.C_string (P := Tryd.prog) (c := c1) Tryd.underlying22 Tryd.underlying5 Tryd.underlying9 hC1; rw [kn_s] at hst1; obtain ⟨a2, x2, B1, d1, B2, d2, B3, d3, B4, d4, rfl, hx2, _, q0, q1, q2, q3, q4, k1, k2, k3, k4⟩ := at_Pt (Kd.C_F kP_heap hC2) 0 (Int.le_refl _) (by decide); obtain rfl : knQ = x2 := Option.some.inj hx2; have hst2 := Kd.C_string (P := Tryd.prog) (c := d4) Tryd.underlying22 Tryd.underlying5 Tryd.underlying9 (Kd.F_now k4.2); rw [show knQ.s2 = [122, 10] from rfl, kn_s2] at hst2; have e0_ : a2.add ((0 : Int).toNat * 5) = a2 := (by simp [Addr.add]); rw [e0_] at q0 q4; replace q0 : w3.cell? a2 = some (.bool true) := q0; replace q4 : w3.cell? ⟨a2.block, a2.off + 4, none⟩ = some (.slice B4 2 d4) := q4; replace hst2 : (convert 22 9 (.slice B4 2 d4)).run Tryd.prog w3 = .ok (.string ⟨#[122, 10]⟩) w3 := hst2; clear e0_ q1 q2 q3; replace hC1 := Aside0.mk hC1; replace hC2 := Aside0.mk hC2; clear k1 k2 k3 k4 hx2))
  go_ret
  exact ⟨rfl, HB3.out⟩
end Go.Proofs.YtnnnbeimehfiiaaDoor.Q

/-! MarkReads, walked: it answers true. -/
set_option linter.unusedVariables false
set_option linter.unusedSimpArgs false
namespace Go.Proofs.YtnnnbeimehfiiaaDoor.Q
open Go Go.RowKit Go.Proofs.YtnnnbeimehfiiaaDoorW.PrintWords Go.Proofs.YtnnnbeimehfiiaaDoorW.PrintLast Go.Proofs.YtnnnbeimehfiiaaDoorW.PrintMore Go.Proofs.YtnnnbeimehfiiaaDoorW.SL
attribute [local go_sem] max2_int min2_int max_two min_two max_three min_three max_four min_four
theorem onLast_len (f : Pt → Pt) : ∀ l : List Pt, (onLast f l).length = l.length
  | [] => rfl
  | [p] => rfl
  | p :: q :: r => by simp only [onLast, List.length_cons]; rw [onLast_len f (q :: r)]; rfl
theorem rdStep_len {n : Nat} {s t : List Pt × Nat} {x : List Int} (h : rdStep n s x = some t) : t.1.length ≤ s.1.length + 1 := by
  unfold rdStep at h
  split at h
  · split at h
    · split at h
      · split at h
        · injection h with h; subst h; simp
        · injection h with h; subst h; simp [onLast_len]
      · rename_i h2
        injection h with h; subst h; simp
    · injection h with h; subst h; simp [onLast_len]
  · split at h
    · injection h with h; subst h; simp
    · split at h
      · injection h with h; subst h; simp
      · split at h
        · injection h with h; subst h; simp
        · cases h
theorem rdAll_len {n : Nat} : ∀ {l : List (List Int)} {s t : List Pt × Nat}, rdAll n l s = some t → t.1.length ≤ s.1.length + l.length
  | [], s, t, h => by simp only [rdAll, Option.some.injEq] at h; subst h; simp
  | x :: r, s, t, h => by
    simp only [rdAll] at h
    obtain ⟨u, hu, h⟩ := Option.bind_eq_some_iff.1 h
    have h1 := rdStep_len hu
    have h2 := rdAll_len h
    simp only [List.length_cons]; omega
theorem readOf_len (n : Int) (b : List Int) : (readOf n b).1.length ≤ b.length := by
  unfold readOf
  split
  · split
    · rename_i ps st h
      split
      · have := rdAll_len h
        have h2 := linesOf_len b
        simp at this ⊢; omega
      · simp
    · simp
  · simp
set_option maxHeartbeats 16000000 in
set_option maxRecDepth 100000 in
theorem reads_calls (n : Int) (A : Option Addr) (c : Nat) (b : List Int) (w : World) (hr : Kd.C B8 w A b.length b) (hc : b.length ≤ c) (hb : ∀ x ∈ b, byte x) :
    Calls Tryd.prog 3 #[.int .i64 n, .slice A b.length c] w fun e w' => e = .returned (.bool true) ∧ Below w.heap.size w w' := by
  by_cases hle : (b.length : Int) ≤ 5000
  · have hle2 := eq_true hle
    obtain ⟨d, hd⟩ : ∃ d, d = b := ⟨_, rfl⟩
    have hC : Kd.C B8 w A d.length d := by rw [hd]; exact hr
    have hdb : ∀ x ∈ d, byte x := by rw [hd]; exact hb
    have hdq : d.length = b.length := by rw [hd]
    have hd5 : d.length ≤ 5000 := by rw [hd]; omega
    have hdc : d.length ≤ c := by rw [hd]; exact hc
    have htk := take_at A c b (b.length : Int) (by omega) (by omega) hc
    have hstr : ∀ W, Kd.C B8 W A d.length d → (convert 22 9 (.slice A d.length c)).run Tryd.prog W = .ok (.string (strOfNums d)) W := fun W h => Kd.C_string Tryd.underlying22 Tryd.underlying5 Tryd.underlying9 h
    have hst := hstr w hC
    have hpl := readOf_len n d
    obtain ⟨⟨ps, err⟩, hpe⟩ : ∃ r, readOf n d = r := ⟨_, rfl⟩
    have hR := fun W hW => read_calls n A c d W hW hdc hdb (by omega)
    have hRR := fun W hW => rread_calls n A c d W hW hdc hdb (by omega)
    rw [hpe] at hpl
    simp only [hpe] at hR hRR
    have hpl2 : ps.length ≤ 5000000 := by simp only at hpl; omega
    rw [Int.toNat_natCast] at htk
    have hq0 := eq_true (show (0 : Int) ≤ (b.length : Int) by omega)
    subst hd
    have HC := Aside0.mk hC
    have HPL := Aside0.mk hpl2
    replace hR := Aside0.mk hR
    replace hRR := Aside0.mk hRR
    replace hstr := Aside0.mk hstr
    clear hr hc hb hC hdb hdc hd5 hpl hpe hpl2 hdq
    go_enter Tryd.func3, Tryd.ntmps3
    go_wp2_with (first | (go_at_call 9; refine (hR.out w HC.out).mono ?_; rintro e w1 ⟨A1, c1, rfl, hc1, hC1, hb1⟩; have H1 := Aside0.mk (⟨hc1, hC1, hb1⟩ : _ ∧ _ ∧ _); clear hc1 hC1 hb1) | (go_at_call 10; refine (hRR.out w1 (Kd.C_below HC.out H1.out.2.2)).mono ?_; rintro e w2 ⟨A2, c2, rfl, hc2, hC2, hb2⟩; have H2 := Aside0.mk (⟨hc2, hC2, Kd.C_below H1.out.2.1 hb2, H1.out.2.2.trans (below_lo hb2 H1.out.2.2.size)⟩ : _ ∧ _ ∧ _ ∧ _); clear hc2 hC2 hb2) | (go_at_call 11; refine (known_walk w2).mono ?_; rintro e w3 ⟨rfl, hb3⟩; have H3 := Aside0.mk (⟨Kd.C_below H2.out.2.1 hb3, Kd.C_below H2.out.2.2.1 hb3, H2.out.2.2.2.trans (below_lo hb3 H2.out.2.2.2.size)⟩ : _ ∧ _ ∧ _); clear hb3) | (go_at_call 13; refine (as_calls A1 c1 ps w3 H3.out.2.1 H1.out.1 HPL.out).mono ?_; rintro e w4 ⟨A4, c4, rfl, hc4, hC4, hb4⟩; have H4 := Aside0.mk (⟨hC4, Kd.C_below H3.out.1 hb4, H3.out.2.2.trans (below_lo hb4 H3.out.2.2.size)⟩ : _ ∧ _ ∧ _); clear hc4 hC4 hb4) | (go_at_call 12; refine (same_calls A4 A2 c4 c2 ps w4 H4.out.1 H4.out.2.1).mono ?_; rintro e w5 ⟨rfl, hb5⟩; have H5 := Aside0.mk (H4.out.2.2.trans (below_lo hb5 H4.out.2.2.size)); have hst5 := hstr.out w5 (Kd.C_below HC.out H5.out); clear hb5))
    go_ret
    exact ⟨rfl, H5.out⟩
  · have hlt : (5000 : Int) < (b.length : Int) := by omega
    have hlt2 := eq_true hlt
    have hle3 := eq_true (show (5000 : Int) ≤ (b.length : Int) by omega)
    obtain ⟨d, hd⟩ : ∃ d, d = b.take 5000 := ⟨_, rfl⟩
    have hC : Kd.C B8 w A d.length d := by rw [hd]; exact Kd.C_take hr (m := 5000) (by omega)
    have hdb : ∀ x ∈ d, byte x := by rw [hd]; exact fun x hx => hb x (List.mem_of_mem_take hx)
    have hdq : d.length = 5000 := by rw [hd]; rw [List.length_take]; omega
    have hd5 : d.length ≤ 5000 := by omega
    have hdc : d.length ≤ c := by omega
    have htk := take_at A c b (5000 : Int) (by omega) (by omega) hc
    have hstr : ∀ W, Kd.C B8 W A d.length d → (convert 22 9 (.slice A d.length c)).run Tryd.prog W = .ok (.string (strOfNums d)) W := fun W h => Kd.C_string Tryd.underlying22 Tryd.underlying5 Tryd.underlying9 h
    have hst := hstr w hC
    have hpl := readOf_len n d
    obtain ⟨⟨ps, err⟩, hpe⟩ : ∃ r, readOf n d = r := ⟨_, rfl⟩
    have hR := fun W hW => read_calls n A c d W hW hdc hdb (by omega)
    have hRR := fun W hW => rread_calls n A c d W hW hdc hdb (by omega)
    rw [hpe] at hpl
    simp only [hpe] at hR hRR
    have hpl2 : ps.length ≤ 5000000 := by simp only at hpl; omega
    rw [show (5000 : Int).toNat = 5000 from rfl] at htk
    rw [hdq] at hstr hst hR hRR hC
    have HC := Aside0.mk hC
    have HPL := Aside0.mk hpl2
    replace hR := Aside0.mk hR
    replace hRR := Aside0.mk hRR
    replace hstr := Aside0.mk hstr
    clear hr hc hb hd hC hdb hdc hd5 hpl hpe hpl2 hdq
    go_enter Tryd.func3, Tryd.ntmps3
    go_wp2_with (first | (go_at_call 9; refine (hR.out w HC.out).mono ?_; rintro e w1 ⟨A1, c1, rfl, hc1, hC1, hb1⟩; have H1 := Aside0.mk (⟨hc1, hC1, hb1⟩ : _ ∧ _ ∧ _); clear hc1 hC1 hb1) | (go_at_call 10; refine (hRR.out w1 (Kd.C_below HC.out H1.out.2.2)).mono ?_; rintro e w2 ⟨A2, c2, rfl, hc2, hC2, hb2⟩; have H2 := Aside0.mk (⟨hc2, hC2, Kd.C_below H1.out.2.1 hb2, H1.out.2.2.trans (below_lo hb2 H1.out.2.2.size)⟩ : _ ∧ _ ∧ _ ∧ _); clear hc2 hC2 hb2) | (go_at_call 11; refine (known_walk w2).mono ?_; rintro e w3 ⟨rfl, hb3⟩; have H3 := Aside0.mk (⟨Kd.C_below H2.out.2.1 hb3, Kd.C_below H2.out.2.2.1 hb3, H2.out.2.2.2.trans (below_lo hb3 H2.out.2.2.2.size)⟩ : _ ∧ _ ∧ _); clear hb3) | (go_at_call 13; refine (as_calls A1 c1 ps w3 H3.out.2.1 H1.out.1 HPL.out).mono ?_; rintro e w4 ⟨A4, c4, rfl, hc4, hC4, hb4⟩; have H4 := Aside0.mk (⟨hC4, Kd.C_below H3.out.1 hb4, H3.out.2.2.trans (below_lo hb4 H3.out.2.2.size)⟩ : _ ∧ _ ∧ _); clear hc4 hC4 hb4) | (go_at_call 12; refine (same_calls A4 A2 c4 c2 ps w4 H4.out.1 H4.out.2.1).mono ?_; rintro e w5 ⟨rfl, hb5⟩; have H5 := Aside0.mk (H4.out.2.2.trans (below_lo hb5 H4.out.2.2.size)); have hst5 := hstr.out w5 (Kd.C_below HC.out H5.out); clear hb5))
    go_ret
    exact ⟨rfl, H5.out⟩
end Go.Proofs.YtnnnbeimehfiiaaDoor.Q
