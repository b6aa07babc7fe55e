/- The texts of this claim that lie below its row, in their order: KJn KAl KBkM KBk. -/
import Derived.Test.YtnnnbeimehfiiaaDoorZB3
-- Written by a program of this session (wip/gen_join.py) for this claim; Lean checks it.
/-! joined: the document's parts as they are read again; walked. -/
set_option linter.unusedVariables false
set_option linter.unusedSimpArgs false
namespace Go.Proofs.YtnnnbeimehfiiaaDoor.Q
open Go Go.RowKit Go.Proofs.YtnnnbeimehfiiaaDoorW.PrintWords Go.Proofs.YtnnnbeimehfiiaaDoorW.PrintLast Go.Proofs.YtnnnbeimehfiiaaDoorW.PrintMore Go.Proofs.YtnnnbeimehfiiaaDoorW.SL
attribute [local go_sem] max2_int min2_int max_two min_two max_three min_three max_four min_four
def mjn.T15 : Bool × List (List Nat × List Nat) := (true, [([], []), ([], []), ([1], [1]), ([2], [2]), ([3], [3]), ([], []), ([5], [5]), ([6], [6]), ([7, 4], [7]), ([], []), ([9], [9]), ([10], [10]), ([11, 8], [11]), ([4, 8, 12], [4, 8, 12]), ([13], [13]), ([14], [14]), ([0, 15, 12], [0, 15]), ([16, 16, 0, 1, 2, 3, 4, 5, 6, 7, 8, 9, 10, 11, 12, 13, 14, 15, 16], [0, 16])])
def mjn.B15 : List Nat := [0, 0, 2, 6, 14, 0, 32, 96, 254, 0, 512, 1536, 4094, 8190, 16382, 32766, 65535, 131071]
theorem mjn.tab15 : rtab .any (opsOf Tryd.f20 15) = mjn.T15 := by kernel_rfl
theorem mjn.bits15 : waitsOk mjn.T15.2 mjn.B15 = true := by kernel_rfl
/-- What is kept, and what was made since. -/
def ZZ (Z : Nat → Prop) (B : Nat) (w : World) : Nat → Prop := fun k => Z k ∨ (B ≤ k ∧ k < w.heap.size)
theorem rd_zz {α : Type} {d : Kd α} {A : Option Addr} {c : Nat} {l : List α} {Z : Nat → Prop} {B : Nat} {w w' : World} (h : (rdV d A c l).P w (ZZ Z B w)) (hb : Below w.heap.size w w') : (rdV d A c l).P w' (ZZ Z B w') :=
  (rdV d A c l).step h (fun k _ hl => hb.block k hl) (fun k hk => hk.imp id fun h => ⟨h.1, Nat.lt_of_lt_of_le h.2 hb.size⟩)
theorem rw_rd {B : Nat} {w : World} {v : Value} {l : List Int} {Z : Nat → Prop} (h : Rw B w v l) : ∃ A c, v = .slice A l.length c ∧ (rdV B8 A c l).P w (ZZ Z B w) := by
  obtain ⟨A, c, e, h1, h2⟩ := ownF_F (w := w) (Z := ZZ Z B w) (v := v) (xs := l) ⟨fun k hk => .inr ⟨own_base' h hk, own_lt h k hk⟩, own_weaken h (Nat.zero_le _)⟩
  exact ⟨A, c, e, h1, h2⟩
theorem ended_zz (Z : Nat → Prop) (B : Nat) {A : Option Addr} {c : Nat} {l : List Int} {w : World} (hB : B ≤ w.heap.size) (hA : (rdV B8 A c l).P w (ZZ Z B w)) (hm : l.length + 1 ≤ 140737488355328) :
    Calls Tryd.prog 39 #[.slice A l.length c] w fun e w' => ∃ A' c', e = .returned (.slice A' (endNl l).length c') ∧ (rdV B8 A' c' (endNl l)).P w' (ZZ Z B w') ∧ Below w.heap.size w w' := by
  refine (Ended_calls A c l w (Kd.F_now hA.2) hA.1 hm).mono ?_
  rintro e w' ⟨hb, ⟨rfl, he⟩ | ⟨v', rfl, he, h⟩⟩
  · rw [he]; exact ⟨A, c, rfl, rd_zz hA hb, hb⟩
  · obtain ⟨A', c', rfl, h1⟩ := rw_rd (Z := Z) h
    rw [he]; exact ⟨A', c', rfl, (rdV B8 A' c' _).step h1 (fun _ _ _ => rfl) (fun k hk => hk.imp id fun h => ⟨Nat.le_trans hB h.1, h.2⟩), hb⟩
/-- Ended of what is read: the answer is read, too. -/
theorem st_rdEnded {w0 W : World} {Z : Nat → Prop} {L : List Asr} {F : List FA} (S : Stt w0 Z L F W) {A : Option Addr} {c : Nat} {l : List Int} (hA : (rdV B8 A c l).P W Z) (hm : l.length + 1 ≤ 140737488355328) :
    Calls Tryd.prog 39 #[.slice A l.length c] W fun e w' => ∃ A' c' Z', e = .returned (.slice A' (endNl l).length c') ∧ Stt w0 Z' L (rdV B8 A' c' (endNl l) :: F) w' := by
  refine (ended_zz Z W.heap.size (Nat.le_refl _) ((rdV B8 A c l).step hA (fun _ _ _ => rfl) (fun k hk => .inl hk)) hm).mono ?_
  rintro e w' ⟨A', c', rfl, h1, hb⟩
  exact ⟨A', c', _, rfl, S.callZ hb (F' := [rdV B8 A' c' (endNl l)]) (fun a ha => by rw [List.mem_singleton] at ha; subst ha; exact h1)⟩
theorem _root_.Go.Proofs.YtnnnbeimehfiiaaDoorW.SL.Stt.new8 {w0 W : World} {Z : Nat → Prop} {L : List Asr} {F : List FA} (S : Stt w0 Z L F W) : Stt w0 Z (rw8 (.slice (some ⟨W.heap.size, 0, none⟩) 0 0) [] :: L) F (W.alloc (.cells #[] 5)) :=
  S.more (a := rw8 (.slice (some ⟨W.heap.size, 0, none⟩) 0 0) []) (f := fun k => k = W.heap.size) (below_alloc (Below.refl _ _) _)
    ⟨fun k => by simp [Value.ownBlock, eq_comm], Rw.new (B := 0) (Nat.zero_le _)⟩ (fun k hk => Nat.le_of_eq hk.symm)
theorem _root_.Go.Proofs.YtnnnbeimehfiiaaDoorW.SL.Stt.less {w0 W : World} {Z : Nat → Prop} {L : List Asr} {F F' : List FA} (S : Stt w0 Z L F W) (h : ∀ a ∈ F', a ∈ F) : Stt w0 Z L F' W := ⟨S.st, fun a ha => S.fr a (h a ha), S.old⟩
theorem AsI_mk {w0 W : World} {Z : Nat → Prop} {F0 : List FA} {ps : List Pt} {vo : Value} {n : Nat} {cells : List Value} (S : Stt w0 Z [rwP vo 44 n cells] (kpF ps cells :: F0) W) (hn : ps.length = n) : AsI w0 F0 ps vo W := ⟨Z, cells, by subst hn; exact S⟩
def setT (q : Pt) (x : List Int) : Pt := ⟨q.region, x, q.s0, q.s1, q.s2⟩
/-- The last part of a row that is being gathered: read; its text may be another. -/
theorem out_at {w0 W : World} {Z : Nat → Prop} {L : List Asr} {F : List FA} {vo : Value} {e m : Nat} {cells : List Value} {fr : List Pt} {q : Pt} (S : Stt w0 Z L (kpF (fr ++ [q]) cells :: F) W) (i : Nat) (hi : L[i]? = some (rwP vo e m cells)) (hm : (fr ++ [q]).length = m) :
    ∃ (ad : Addr) (cap : Nat) (B1 : Option Addr) (d1 : Nat), vo = .slice (some ad) m cap ∧ W.cell? (ad.add ((m - 1) * 5)) = some (.bool q.region) ∧ W.cell? ⟨(ad.add ((m - 1) * 5)).block, (ad.add ((m - 1) * 5)).off + 1, none⟩ = some (.slice B1 q.text.length d1) ∧ (rdV B8 B1 d1 q.text).P W Z ∧
      W.frozen? ⟨(ad.add ((m - 1) * 5)).block, (ad.add ((m - 1) * 5)).off + 1, none⟩ = false ∧
      ∀ (A' : Option Addr) (c' : Nat) (x : List Int), (rdV B8 A' c' x).P W Z → ∃ cells', Stt w0 Z (L.set i (rwP vo e m cells')) (kpF (fr ++ [setT q x]) cells' :: F) (W.setCell ⟨(ad.add ((m - 1) * 5)).block, (ad.add ((m - 1) * 5)).off + 1, none⟩ (.slice A' x.length c')) := by
  obtain ⟨hlen, hk⟩ := S.fr (kpF (fr ++ [q]) cells) (by simp)
  have hml : m - 1 = fr.length := by rw [← hm]; simp
  have hmm : m = fr.length + 1 := by rw [← hm]; simp
  have hq := hk fr.length q (by simp)
  obtain ⟨A1, c1, A2, c2, A3, c3, A4, c4, hcs, g1, g2, g3, g4⟩ := kP_openF hq
  have hcl : cells.length = fr.length * 5 + 5 := by rw [hlen]; simp; omega
  have hcell : ∀ k u, ([.bool q.region, .slice A1 q.text.length c1, .slice A2 q.s0.length c2, .slice A3 q.s1.length c3, .slice A4 q.s2.length c4] : List Value)[k]? = some u → cells[fr.length * 5 + k]? = some u := fun k u hu => by
    rw [← hcs, List.getElem?_take] at hu
    split at hu
    · rwa [List.getElem?_drop] at hu
    · cases hu
  have ho : W.ownsRow 0 e 5 vo m cells := S.rowAt i hi
  obtain ⟨g, cap, rfl, hset, hgr, hat, hfz⟩ := own_setN (k := fr.length * 5 + 1) ho (by omega) undef
  refine ⟨⟨g, 0, none⟩, cap, A1, c1, rfl, ?_, ?_, ⟨g1.1, g1.2⟩, ?_, fun A' c' x hx => ?_⟩
  · rw [hml, base_add]; exact hat _ _ (hcell 0 _ rfl)
  · rw [hml, base_add]; exact hat _ _ (hcell 1 _ rfl)
  · rw [hml, base_add]; exact hfz _
  · rw [hml, base_add]
    obtain ⟨g', cap', e', hset, hgr, _⟩ := own_setN (k := fr.length * 5 + 1) ho (by omega) (.slice A' x.length c')
    injection e' with e' _ _; injection e' with e'; injection e' with e' _ _; subst e'
    refine ⟨cells.set (fr.length * 5 + 1) (.slice A' x.length c'), ?_⟩
    have S2 : Stt w0 Z L (kpF (fr ++ [setT q x]) (cells.set (fr.length * 5 + 1) (.slice A' x.length c')) :: F) W := ⟨S.st, fun a ha => by
      rcases List.mem_cons.1 ha with rfl | ha
      · refine ⟨by simp [hlen], fun j p hj => ?_⟩
        by_cases hjl : j < fr.length
        · rw [List.getElem?_append_left hjl] at hj
          have h2 := hk j p (by rw [List.getElem?_append_left hjl]; exact hj)
          have e2 : ((cells.set (fr.length * 5 + 1) (.slice A' x.length c')).drop (j * 5)).take 5 = (cells.drop (j * 5)).take 5 := by
            rw [List.drop_set, if_neg (by omega), List.take_set, List.set_eq_of_length_le (by rw [List.length_take]; omega)]
          rw [e2]; exact h2
        · have hj2 : j = fr.length := by have := (List.getElem?_eq_some_iff.1 hj).1; simp at this; omega
          subst hj2
          simp only [List.getElem?_append_right (Nat.le_refl _), Nat.sub_self, List.getElem?_cons_zero, Option.some.injEq] at hj
          subst hj
          have e2 : ((cells.set (fr.length * 5 + 1) (.slice A' x.length c')).drop (fr.length * 5)).take 5 = [.bool q.region, .slice A' x.length c', .slice A2 q.s0.length c2, .slice A3 q.s1.length c3, .slice A4 q.s2.length c4] := by
            rw [List.drop_set, if_neg (by omega), List.take_set, hcs, show fr.length * 5 + 1 - fr.length * 5 = 1 by omega]; rfl
          rw [e2]; exact kP_mkF W Z (setT q x) ⟨hx.1, hx.2⟩ g2 g3 g4
      · exact S.fr a (List.mem_cons_of_mem _ ha), S.old⟩
    exact S2.updRow i hi hset hgr (.inl rfl)
theorem jAll_next {ps : List Pt} {i : Nat} {p : Pt} {o R : List Pt} (h : jAll (ps.drop i) o = R) (hp : ps[i]? = some p) : jAll (ps.drop (i + 1)) (jPart (decide (i + 1 = ps.length)) o p) = R := by
  have hlt := (List.getElem?_eq_some_iff.1 hp).1
  have hpe := (List.getElem?_eq_some_iff.1 hp).2
  rw [List.drop_eq_getElem_cons hlt, hpe] at h
  rw [← h]
  show _ = jAll (ps.drop (i + 1)) (jPart (ps.drop (i + 1)).isEmpty o p)
  congr 2
  by_cases hi : i + 1 = ps.length
  · rw [List.drop_of_length_le (by omega)]; simp [hi]
  · have : ps.drop (i + 1) ≠ [] := by intro h; have := congrArg List.length h; simp at this; omega
    cases hd : ps.drop (i + 1) with
    | nil => exact absurd hd this
    | cons a r => simp [hi]
theorem j_none {last : Bool} {o : List Pt} {p : Pt} (hp : p.region = false) (h : jTxt last p = []) : jPart last o p = o := by
  unfold jPart; simp [hp, h]
theorem j_new {last : Bool} {o : List Pt} {p : Pt} (hp : p.region = false) (h : jTxt last p ≠ []) (ho : ∀ q, o.getLast? = some q → q.region = true) : jPart last o p = o ++ [⟨false, jTxt last p, [], [], []⟩] := by
  unfold jPart
  rw [hp, if_neg (by decide), if_neg h]
  cases hl : o.getLast? with
  | none => have : o = [] := by simpa using hl
            subst this; rfl
  | some q => simp only; rw [if_pos (ho q hl)]
theorem j_add {last : Bool} {fr : List Pt} {q p : Pt} (hp : p.region = false) (h : jTxt last p ≠ []) (hq : q.region = false) : jPart last (fr ++ [q]) p = fr ++ [setT q (endNl q.text ++ jTxt last p)] := by
  unfold jPart
  rw [hp, if_neg (by decide), if_neg h]
  have hl : (fr ++ [q]).getLast? = some q := by simp
  rw [hl]
  simp only
  rw [if_neg (by rw [hq]; decide), onLast_snoc]
  rfl
theorem j_reg {last : Bool} {o : List Pt} {p : Pt} (hp : p.region = true) : jPart last o p = o ++ [⟨true, [], endNl p.s0, endNl p.s1, endNl p.s2⟩] := by
  unfold jPart; simp [hp]
set_option maxHeartbeats 16000000 in
set_option maxRecDepth 100000 in
theorem joined_calls (A : Option Addr) (c : Nat) (ps : List Pt) (w : World) (hr : Kd.C kP w A ps.length ps) (hc : ps.length ≤ c) (hps : ps.length ≤ 20) (hf : ∀ p ∈ ps, p.text.length ≤ 500 ∧ p.s0.length ≤ 500 ∧ p.s1.length ≤ 500 ∧ p.s2.length ≤ 500) :
    Calls Tryd.prog 20 #[.slice A ps.length c] w fun e w' => ∃ (A' : Option Addr) (c' : Nat), e = .returned (.slice A' (jAll ps []).length c') ∧ (jAll ps []).length ≤ c' ∧ Kd.C kP w' A' (jAll ps []).length (jAll ps []) ∧ Below w.heap.size w w' := by
 have HPS := Aside0.mk hps; have HF := Aside0.mk hf
 have hF0 : ∀ a ∈ [rdV kP A c ps], a.P w (fun k => k < w.heap.size) := by
   intro a ha; rw [List.mem_singleton] at ha; subst ha
   exact ⟨hc, Kd.C_F kP_heap hr⟩
 have HS := Aside0.mk (AsI.start (Stt.start w hF0))
 clear hr hc hps hf hF0
 obtain ⟨R, hR⟩ : ∃ R, jAll ps [] = R := ⟨_, rfl⟩
 rw [hR]
 replace hR := Aside0.mk hR
 go_enter Tryd.func20, Tryd.ntmps20
 go_wp2
 go_loopg [3, 4] ps.length (fun kq v3 v4 W => ∃ (ii : Int) (i : Nat) (o : List Pt), v4 = .int .i64 ii ∧ Aside0 (ii = (i : Int)) ∧ i ≤ ps.length ∧ kq = ps.length - i ∧ Aside0 (jAll (ps.drop i) o = R) ∧ Aside0 (JB (i * 502) o ∧ o.length ≤ i) ∧ Aside0 (AsI w [rdV kP A c ps] o v3 W))
 case atStart => exact ⟨0, 0, [], rfl, ⟨rfl⟩, Nat.zero_le _, rfl, hR, ⟨fun p hp => (by cases hp), Nat.le_refl _⟩, HS⟩
 case round =>
  obtain ⟨ii, i, o, rfl, hii, hi, hgk, hall, hjb, hI⟩ := hrel
  obtain ⟨wb, rfl⟩ : ∃ q, q = wr := ⟨_, rfl⟩
  by_cases hin : ii < (ps.length : Int)
  · have p0 : 0 ≤ ii := by have := hii.out; omega
    have e0 : ii.toNat = i := by have := hii.out; omega
    have hw1 : wrap64 (ii + 1) = ii + 1 := by have := hii.out; have := HPS.out; unfold wrap64; omega
    have hw2 : wrap64 ((ps.length : Int) - 1) = (ps.length : Int) - 1 := by have := HPS.out; unfold wrap64; omega
    obtain ⟨Z, cells, SB⟩ := hI.out
    obtain ⟨m, hm⟩ : ∃ m, o.length = m := ⟨_, rfl⟩
    rw [hm] at SB
    obtain ⟨Ao, co, rfl, _⟩ := own_form (SB.rowAt 0 rfl)
    obtain ⟨ad, x, A1, c1, A2, c2, A3, c3, A4, c4, rfl, hxi, hok, hx0, hx1, hx2, hx3, hx4, g1, g2, g3, g4⟩ := at_Pt (SB.rd 1 rfl).2 ii p0 hin
    rw [e0] at hxi
    have hxm := HF.out x (List.mem_of_getElem? hxi)
    have hnext := jAll_next hall.out hxi
    have hjb2 := fun last => hjb.out.1.next hxm last
    have hmo : m ≤ 20 := by have := hjb.out.2; have := HPS.out; omega
    have hjb1 := hjb.out.1
    obtain ⟨rg, T, X0, X1, X2⟩ := x
    simp only at hx0 hx1 hx2 hx3 hx4
    have S := Aside0.mk ((((SB.box (g := wb.heap.size) (t := 44) (cs := #[.bool rg, .slice A1 T.length c1, .slice A2 X0.length c2, .slice A3 X1.length c3, .slice A4 X2.length c4]) rfl (heap_alloc_new wb _) (below_alloc (Below.refl _ _) _)).add (a := rdV B8 A1 c1 T) ⟨g1.1, Kd.F_step g1.2 (fun k hk hl => (below_alloc (Below.refl wb.heap.size wb) _).block k hl)⟩).add (a := rdV B8 A2 c2 X0) ⟨g2.1, Kd.F_step g2.2 (fun k hk hl => (below_alloc (Below.refl wb.heap.size wb) _).block k hl)⟩).add (a := rdV B8 A3 c3 X1) ⟨g3.1, Kd.F_step g3.2 (fun k hk hl => (below_alloc (Below.refl wb.heap.size wb) _).block k hl)⟩)
    replace S := Aside0.mk (S.out.add (a := rdV B8 A4 c4 X2) ⟨g4.1, Kd.F_step g4.2 (fun k hk hl => (below_alloc (Below.refl wb.heap.size wb) _).block k hl)⟩)
    have HX : Aside0 (T.length ≤ 500 ∧ X0.length ≤ 500 ∧ X1.length ≤ 500 ∧ X2.length ≤ 500) := ⟨hxm⟩
    have HI := Aside0.mk (⟨hi, hgk, hmo, hjb.out.2, hm⟩ : _ ∧ _ ∧ _ ∧ _ ∧ _)
    have HN := Aside0.mk (⟨hnext, hjb2⟩ : _ ∧ _)
    have HJB : Aside0 (JB 20000 o) := ⟨fun p hp => ⟨Nat.le_trans (hjb1 p hp).1 (by have := hi; have := HPS.out; omega), (hjb1 p hp).2⟩⟩
    have hinb := eq_true hin
    have p0b := eq_true p0
    replace e0 := Aside0.mk e0
    clear SB hxi hok g1 g2 g3 g4 hxm hnext hjb2 hjb1 hjb hI hall hi hgk hmo hm
    go_upto_region 6 with (fail)
    generalize wb.alloc (Obj.cells #[Value.bool rg, Value.slice A1 T.length c1, Value.slice A2 X0.length c2, Value.slice A3 X1.length c3, Value.slice A4 X2.length c4] 44) = w1 at S ⊢
    obtain ⟨fb0, fb1, fb2, fb3, fb4⟩ := box5 (S.out.at_blk 0 rfl)
    clear hx0 hx1 hx2 hx3 hx4
    cases rg with
    | false =>
      by_cases hlast : i + 1 = ps.length
      · have hcl := eq_false (show ¬ ii < (ps.length : Int) - 1 by have := hii.out; omega)
        have hcl2 := eq_true (show (ps.length : Int) - 1 ≤ ii by have := hii.out; omega)
        have hN2 : jAll (ps.drop (i + 1)) (jPart true o ⟨false, T, X0, X1, X2⟩) = R := by have := HN.out.1; simpa [hlast] using this
        have HJ := Aside0.mk (⟨hN2, HN.out.2 true⟩ : _ ∧ _)
        have ht : jTxt true ⟨false, T, X0, X1, X2⟩ = T := rfl
        replace ht := Aside0.mk ht
        replace S : Aside0 (Stt w Z [blk wb.heap.size 44 #[.bool false, .slice A1 T.length c1, .slice A2 X0.length c2, .slice A3 X1.length c3, .slice A4 X2.length c4], rwP (.slice Ao m co) 44 m cells] [rdV B8 A1 c1 T, kpF o cells, rdV kP (some ad) c ps] w1) := ⟨S.out.less (fun a ha => by simp only [List.mem_cons, List.not_mem_nil, or_false] at ha ⊢; rcases ha with h | h | h <;> simp [h])⟩
        have htl : T.length ≤ 501 := by have := HX.out; omega
        clear hN2 HN hlast
        go_upto_region 11 with (fail)
        by_cases ht0 : T.length = 0
        · have htb := eq_true ht0
          have htn : T = [] := List.length_eq_zero_iff.1 ht0
          have hb0 : ((T.length : Int) == 0) = true := by rw [beq_iff_eq]; omega
          have hjp := j_none (last := true) (o := o) (p := ⟨false, T, X0, X1, X2⟩) rfl (ht.out.trans htn)
          have hJ3 := HJ.out
          rw [hjp] at hJ3
          have HNX := Aside0.mk hJ3
          have SF : Aside0 (AsI w [rdV kP (some ad) c ps] o (.slice Ao m co) w1) := ⟨AsI_mk (S.out.drop.less (fun a ha => by simp only [List.mem_cons, List.not_mem_nil, or_false] at ha ⊢; rcases ha with h | h <;> simp [h])) HI.out.2.2.2.2⟩
          replace htn := Aside0.mk htn
          clear hJ3 hjp HJ S fb0 fb1 fb2 fb3 fb4
          go_wp2
          go_roundg (ps.length - (i + 1))
          case rel => exact ⟨wrap64 (ii + 1), i + 1, _, by first | rfl | (simp; done) | (simp [hw1]; done), ⟨by rw [hw1]; have := hii.out; omega⟩, by have := hii.out; omega, rfl, ⟨HNX.out.1⟩, ⟨by have := HNX.out.2; rw [show (i + 1) * 502 = i * 502 + 502 by omega]; exact ⟨this.1, Nat.le_trans this.2 (by have := HI.out.2.2.2.1; omega)⟩⟩, SF⟩
          case measure => have := hii.out; have := HI.out.2.1; omega
        · have htb := eq_false ht0
          have htn : T ≠ [] := fun h => ht0 (by rw [h]; rfl)
          have hb0 : ((T.length : Int) == 0) = false := by rw [beq_eq_false_iff_ne]; omega
          replace ht0 := Aside0.mk ht0
          have hkn : (kpF (o ++ [⟨false, T, [], [], []⟩]) (cells ++ [.bool false, .slice A1 T.length c1, .slice none 0 0, .slice none 0 0, .slice none 0 0])).P w1 _ := kpF_snoc (S.out.fr (kpF o cells) (by simp)) rfl (kP_mkF w1 _ ⟨false, T, [], [], []⟩ (S.out.fr (rdV B8 A1 c1 T) (by simp)) ⟨Nat.le_refl _, Kd.F_nil _ _ _⟩ ⟨Nat.le_refl _, Kd.F_nil _ _ _⟩ ⟨Nat.le_refl _, Kd.F_nil _ _ _⟩)
          have SP := Aside0.mk (S.out.add hkn)
          clear hkn
          by_cases hplain : ∃ q, o.getLast? = some q ∧ q.region = false
          · obtain ⟨fr, q, rfl, hqr⟩ : ∃ fr q, o = fr ++ [q] ∧ q.region = false := by
              obtain ⟨q, h1, h2⟩ := hplain
              rcases snoc_cases o with rfl | ⟨fr, u, rfl⟩
              · cases h1
              · simp at h1; subst h1; exact ⟨fr, u, rfl, h2⟩
            have hjp := j_add (last := true) (fr := fr) (p := ⟨false, T, X0, X1, X2⟩) rfl (by rw [ht.out]; exact htn) hqr
            rw [ht.out] at hjp
            have hJ3 := HJ.out
            rw [hjp] at hJ3
            have HNX := Aside0.mk hJ3
            clear hJ3 hjp HJ SP hplain
            have hmp : 0 < m := by have := HI.out.2.2.2.2; simp at this; omega
            have hw3 : wrap64 ((m : Int) - 1) = (m : Int) - 1 := by have := HI.out.2.2.1; unfold wrap64; omega
            have hb1 := eq_true hmp
            have hb2 := eq_true (show (0 : Int) < (m : Int) by omega)
            have hb3 := eq_true (show (0 : Int) ≤ (m : Int) - 1 by omega)
            have hb4 := eq_true (show (m : Int) - 1 < (m : Int) by omega)
            have hb5 := eq_true (show (1 : Int) ≤ (m : Int) by omega)
            have hb6 := eq_false (show ¬ (m : Int) < 1 by omega)
            replace hmp := Aside0.mk hmp
            obtain ⟨ao, cap, B1, d1, ev_, hq0, hq1, hqT, hqf, _⟩ := out_at (F := [rdV kP (some ad) c ps]) (S.out.less (fun a ha => by simp only [List.mem_cons, List.not_mem_nil, or_false] at ha ⊢; rcases ha with h | h <;> simp [h])) 1 rfl HI.out.2.2.2.2
            injection ev_ with ev_ _ ev2_
            subst ev_ ev2_
            rw [hqr] at hq0
            have HQ : Aside0 (q.text.length ≤ 20000) := ⟨(HJB.out q (by simp)).1⟩
            have HTL := Aside0.mk htl
            replace S := Aside0.mk (S.out.add hqT)
            have hq1' := ((below_alloc (Below.refl w1.heap.size w1) (.cells #[] 5)).cell (World.block_lt_of_cell? _ _ hq1)).trans hq1
            obtain ⟨Y, hY⟩ : ∃ Y, endNl q.text ++ T = Y := ⟨_, rfl⟩
            have hYl : (endNl q.text).length + T.length = Y.length := by rw [← hY, List.length_append]
            rw [hY] at HNX
            replace hY := Aside0.mk hY
            clear hqT htl fb0 fb1 fb2 fb3 fb4
            go_wp2_with (first | (go_at_call 39; refine (st_rdEnded S.out.new8 (S.out.new8.fr (rdV B8 B1 d1 q.text) (by simp)) (by have := HQ.out; omega)).mono ?_; rintro e_ w6 ⟨A6, c6, Z6, rfl, S_⟩; replace S := Aside0.mk S_; clear S_; have hQ6 := Kd.F_now (S.out.fr (rdV B8 A6 c6 (endNl q.text)) (by simp)).2; replace hQ6 := Aside0.mk hQ6) | ((with_reducible refine gate_builtin (b := .append) (xs := #[.tmp 49, .tmp 56]) rfl ?_); at_builtin; refine wpl rfl (fun K hK => st_app (by rfl) (.tmp 49) (.tmp 56) rfl Tryd.underlying22 inf5 0 rfl rfl S.out rfl (hQ6.out) (by have := HQ.out; have := endNl_le q.text; simp; omega) ?_); intro v_ w_ S_; refine hK _ _ ?_; simp only [List.set_cons_succ, List.set_cons_zero] at S_; replace S := Aside0.mk S_; clear S_; simp only [List.nil_append] at S; obtain ⟨A7, c7, rfl, _⟩ := (row8 S.out 0 rfl).out; have hT6 := Kd.F_now (S.out.fr (rdV B8 A1 c1 T) (by simp)).2; replace hT6 := Aside0.mk hT6) | ((with_reducible refine gate_builtin (b := .append) (xs := #[.tmp 57, .tmp 58]) rfl ?_); at_builtin; refine wpl rfl (fun K hK => st_app (by rfl) (.tmp 57) (.tmp 58) rfl Tryd.underlying22 inf5 0 rfl rfl S.out rfl (hT6.out) (by have := HQ.out; have := endNl_le q.text; have := HTL.out; simp; omega) ?_); intro v_ w_ S_; refine hK _ _ ?_; simp only [List.set_cons_succ, List.set_cons_zero] at S_; replace S := Aside0.mk S_; clear S_; rw [hY.out] at S; obtain ⟨A8, c8, e8, _⟩ := own_form (S.out.rowAt 0 rfl); subst e8; have S9 := Stt.freezeHead S.out; obtain ⟨A9, c9, e9, hl9, hF9⟩ := ownF_F (S9.fr _ (List.mem_cons_self)); injection e9 with e9 _ e10; subst e9 e10; obtain ⟨ao2, cap2, B2_, d2_, ev2, _, hqs2, _, hfz2, hset2⟩ := out_at (F := [rdV kP (some ad) c ps]) (S9.less (fun a ha => by simp only [List.mem_cons, List.not_mem_nil, or_false] at ha ⊢; rcases ha with h | h <;> simp [h])) 1 rfl HI.out.2.2.2.2; injection ev2 with ev2 _ ev3; injection ev2 with ev2; subst ev2 ev3; obtain ⟨cells2, S11⟩ := hset2 _ _ _ ⟨hl9, hF9⟩; simp only [List.set_cons_succ, List.set_cons_zero] at S11; have SF := Aside0.mk (AsI_mk S11.drop (by rw [← HI.out.2.2.2.2]; simp)); clear S S9 S11 hset2 hl9 hF9))
            go_roundg (ps.length - (i + 1))
            case rel => exact ⟨wrap64 (ii + 1), i + 1, _, by first | rfl | (simp; done) | (simp [hw1]; done), ⟨by rw [hw1]; have := hii.out; omega⟩, by have := hii.out; omega, rfl, ⟨HNX.out.1⟩, ⟨by have := HNX.out.2; rw [show (i + 1) * 502 = i * 502 + 502 by omega]; exact ⟨this.1, Nat.le_trans this.2 (by have := HI.out.2.2.2.1; omega)⟩⟩, SF⟩
            case measure => have := hii.out; have := HI.out.2.1; omega
          · have hol : ∀ q, o.getLast? = some q → q.region = true := fun q hq => by
              cases hr : q.region with
              | true => rfl
              | false => exact absurd ⟨q, hq, hr⟩ hplain
            have hjp := j_new (last := true) (o := o) (p := ⟨false, T, X0, X1, X2⟩) rfl (by rw [ht.out]; exact htn) hol
            rw [ht.out] at hjp
            have hJ3 := HJ.out
            rw [hjp] at hJ3
            have HNX := Aside0.mk hJ3
            clear hJ3 hjp HJ hplain
            rcases snoc_cases o with rfl | ⟨fr, q, rfl⟩
            · obtain rfl : 0 = m := HI.out.2.2.2.2
              clear hol
              have hm1 : ((0 : Int) < ((0 : Nat) : Int)) = False := eq_false (by omega)
              go_wp2_with (((with_reducible refine gate_builtin (b := .append) (xs := #[.tmp 62, .tmp 65]) rfl ?_); at_builtin; refine wpl rfl (fun K hK => st_push (by rfl) (.tmp 62) (.tmp 65) 27 44 (.agg #[.bool false, .slice none 0 0, .slice none 0 0, .slice none 0 0, .slice none 0 0]) rfl Tryd.underlying27 inf44 rfl 1 rfl rfl (SP.out.lit0 44 5 [.bool false, .slice A1 T.length c1, .slice none 0 0, .slice none 0 0, .slice none 0 0] rfl) rfl (by simp [Value.oneCell']) (by have := HI.out.2.2.1; omega) ?_); intro v_ w_ S_; refine hK _ _ ?_; simp only [List.set_cons_succ, List.set_cons_zero] at S_; have S9_ := Stt.less (F' := [kpF ([] ++ [⟨false, T, [], [], []⟩]) (cells ++ [.bool false, .slice A1 T.length c1, .slice none 0 0, .slice none 0 0, .slice none 0 0]), rdV kP (some ad) c ps]) S_.drop (fun a ha => by simp only [List.mem_cons, List.not_mem_nil, or_false] at ha ⊢; rcases ha with h | h <;> simp [h]); have hl_ : ([] ++ [⟨false, T, [], [], []⟩] : List Pt).length = 0 + 1 := (by rw [List.length_append, HI.out.2.2.2.2]; rfl); have SF := Aside0.mk (AsI_mk S9_ hl_); clear S9_; obtain ⟨Aq, cq, e_q⟩ := SF.out.form; rw [hl_] at e_q; subst e_q; clear hl_; clear S_))
              go_roundg (ps.length - (i + 1))
              case rel => exact ⟨wrap64 (ii + 1), i + 1, _, by first | rfl | (simp; done) | (simp [hw1]; done), ⟨by rw [hw1]; have := hii.out; omega⟩, by have := hii.out; omega, rfl, ⟨HNX.out.1⟩, ⟨by have := HNX.out.2; rw [show (i + 1) * 502 = i * 502 + 502 by omega]; exact ⟨this.1, Nat.le_trans this.2 (by have := HI.out.2.2.2.1; omega)⟩⟩, SF⟩
              case measure => have := hii.out; have := HI.out.2.1; omega
            · have hqr := hol q (by simp)
              have hmp : 0 < m := by have := HI.out.2.2.2.2; simp at this; omega
              have hw3 : wrap64 ((m : Int) - 1) = (m : Int) - 1 := by have := HI.out.2.2.1; unfold wrap64; omega
              have hb1 := eq_true hmp
              have hb2 := eq_true (show (0 : Int) < (m : Int) by omega)
              have hb3 := eq_true (show (0 : Int) ≤ (m : Int) - 1 by omega)
              have hb4 := eq_true (show (m : Int) - 1 < (m : Int) by omega)
              have hb5 := eq_true (show (1 : Int) ≤ (m : Int) by omega)
              have hb6 := eq_false (show ¬ (m : Int) < 1 by omega)
              replace hmp := Aside0.mk hmp
              obtain ⟨ao, cap, B1, d1, ev_, hq0, hq1, hqT, hqf, _⟩ := out_at (F := [rdV kP (some ad) c ps]) (S.out.less (fun a ha => by simp only [List.mem_cons, List.not_mem_nil, or_false] at ha ⊢; rcases ha with h | h <;> simp [h])) 1 rfl HI.out.2.2.2.2
              injection ev_ with ev_ _ ev2_
              subst ev_ ev2_
              rw [hqr] at hq0
              clear hol hq1 hqT hqf
              go_wp2_with (((with_reducible refine gate_builtin (b := .append) (xs := #[.tmp 62, .tmp 65]) rfl ?_); at_builtin; refine wpl rfl (fun K hK => st_push (by rfl) (.tmp 62) (.tmp 65) 27 44 (.agg #[.bool false, .slice none 0 0, .slice none 0 0, .slice none 0 0, .slice none 0 0]) rfl Tryd.underlying27 inf44 rfl 1 rfl rfl (SP.out.lit0 44 5 [.bool false, .slice A1 T.length c1, .slice none 0 0, .slice none 0 0, .slice none 0 0] rfl) rfl (by simp [Value.oneCell']) (by have := HI.out.2.2.1; omega) ?_); intro v_ w_ S_; refine hK _ _ ?_; simp only [List.set_cons_succ, List.set_cons_zero] at S_; have S9_ := Stt.less (F' := [kpF ((fr ++ [q]) ++ [⟨false, T, [], [], []⟩]) (cells ++ [.bool false, .slice A1 T.length c1, .slice none 0 0, .slice none 0 0, .slice none 0 0]), rdV kP (some ad) c ps]) S_.drop (fun a ha => by simp only [List.mem_cons, List.not_mem_nil, or_false] at ha ⊢; rcases ha with h | h <;> simp [h]); have hl_ : ((fr ++ [q]) ++ [⟨false, T, [], [], []⟩] : List Pt).length = m + 1 := (by rw [List.length_append, HI.out.2.2.2.2]; rfl); have SF := Aside0.mk (AsI_mk S9_ hl_); clear S9_; obtain ⟨Aq, cq, e_q⟩ := SF.out.form; rw [hl_] at e_q; subst e_q; clear hl_; clear S_))
              go_roundg (ps.length - (i + 1))
              case rel => exact ⟨wrap64 (ii + 1), i + 1, _, by first | rfl | (simp; done) | (simp [hw1]; done), ⟨by rw [hw1]; have := hii.out; omega⟩, by have := hii.out; omega, rfl, ⟨HNX.out.1⟩, ⟨by have := HNX.out.2; rw [show (i + 1) * 502 = i * 502 + 502 by omega]; exact ⟨this.1, Nat.le_trans this.2 (by have := HI.out.2.2.2.1; omega)⟩⟩, SF⟩
              case measure => have := hii.out; have := HI.out.2.1; omega
      · have hcl := eq_true (show ii < (ps.length : Int) - 1 by have := hii.out; have := HI.out.1; omega)
        have hN2 : jAll (ps.drop (i + 1)) (jPart false o ⟨false, T, X0, X1, X2⟩) = R := by have := HN.out.1; simpa [hlast] using this
        have HJ := Aside0.mk (⟨hN2, HN.out.2 false⟩ : _ ∧ _)
        have ht : jTxt false ⟨false, T, X0, X1, X2⟩ = endNl T := rfl
        replace ht := Aside0.mk ht
        clear hN2 HN hlast
        go_upto_region 11 with (go_at_call 39; refine (st_rdEnded S.out (S.out.fr (rdV B8 A1 c1 T) (by simp)) (by have := HX.out; show T.length + 1 ≤ _; omega)).mono ?_; rintro e_ w2 ⟨A5, c5, Z2, rfl, S_⟩; replace S : Aside0 (Stt w Z2 [blk wb.heap.size 44 #[.bool false, .slice A1 T.length c1, .slice A2 X0.length c2, .slice A3 X1.length c3, .slice A4 X2.length c4], rwP (.slice Ao m co) 44 m cells] [rdV B8 A5 c5 (endNl T), kpF o cells, rdV kP (some ad) c ps] w2) := ⟨S_.less (fun a ha => by simp only [List.mem_cons, List.not_mem_nil, or_false] at ha ⊢; rcases ha with h | h | h <;> simp [h])⟩; clear S_; clear fb0 fb1 fb2 fb3 fb4)
        have htl : (endNl T).length ≤ 501 := by have := HX.out; have := endNl_le T; omega
        obtain ⟨t, htt⟩ : ∃ t, endNl T = t := ⟨_, rfl⟩
        rw [htt] at S ht htl ⊢
        clear htt
        obtain ⟨fb0, fb1, fb2, fb3, fb4⟩ := box5 (S.out.at_blk 0 rfl)
        by_cases ht0 : t.length = 0
        · have htb := eq_true ht0
          have htn : t = [] := List.length_eq_zero_iff.1 ht0
          have hb0 : ((t.length : Int) == 0) = true := by rw [beq_iff_eq]; omega
          have hjp := j_none (last := false) (o := o) (p := ⟨false, T, X0, X1, X2⟩) rfl (ht.out.trans htn)
          have hJ3 := HJ.out
          rw [hjp] at hJ3
          have HNX := Aside0.mk hJ3
          have SF : Aside0 (AsI w [rdV kP (some ad) c ps] o (.slice Ao m co) w2) := ⟨AsI_mk (S.out.drop.less (fun a ha => by simp only [List.mem_cons, List.not_mem_nil, or_false] at ha ⊢; rcases ha with h | h <;> simp [h])) HI.out.2.2.2.2⟩
          replace htn := Aside0.mk htn
          clear hJ3 hjp HJ S fb0 fb1 fb2 fb3 fb4
          go_wp2
          go_roundg (ps.length - (i + 1))
          case rel => exact ⟨wrap64 (ii + 1), i + 1, _, by first | rfl | (simp; done) | (simp [hw1]; done), ⟨by rw [hw1]; have := hii.out; omega⟩, by have := hii.out; omega, rfl, ⟨HNX.out.1⟩, ⟨by have := HNX.out.2; rw [show (i + 1) * 502 = i * 502 + 502 by omega]; exact ⟨this.1, Nat.le_trans this.2 (by have := HI.out.2.2.2.1; omega)⟩⟩, SF⟩
          case measure => have := hii.out; have := HI.out.2.1; omega
        · have htb := eq_false ht0
          have htn : t ≠ [] := fun h => ht0 (by rw [h]; rfl)
          have hb0 : ((t.length : Int) == 0) = false := by rw [beq_eq_false_iff_ne]; omega
          replace ht0 := Aside0.mk ht0
          have hkn : (kpF (o ++ [⟨false, t, [], [], []⟩]) (cells ++ [.bool false, .slice A5 t.length c5, .slice none 0 0, .slice none 0 0, .slice none 0 0])).P w2 _ := kpF_snoc (S.out.fr (kpF o cells) (by simp)) rfl (kP_mkF w2 _ ⟨false, t, [], [], []⟩ (S.out.fr (rdV B8 A5 c5 t) (by simp)) ⟨Nat.le_refl _, Kd.F_nil _ _ _⟩ ⟨Nat.le_refl _, Kd.F_nil _ _ _⟩ ⟨Nat.le_refl _, Kd.F_nil _ _ _⟩)
          have SP := Aside0.mk (S.out.add hkn)
          clear hkn
          by_cases hplain : ∃ q, o.getLast? = some q ∧ q.region = false
          · obtain ⟨fr, q, rfl, hqr⟩ : ∃ fr q, o = fr ++ [q] ∧ q.region = false := by
              obtain ⟨q, h1, h2⟩ := hplain
              rcases snoc_cases o with rfl | ⟨fr, u, rfl⟩
              · cases h1
              · simp at h1; subst h1; exact ⟨fr, u, rfl, h2⟩
            have hjp := j_add (last := false) (fr := fr) (p := ⟨false, T, X0, X1, X2⟩) rfl (by rw [ht.out]; exact htn) hqr
            rw [ht.out] at hjp
            have hJ3 := HJ.out
            rw [hjp] at hJ3
            have HNX := Aside0.mk hJ3
            clear hJ3 hjp HJ SP hplain
            have hmp : 0 < m := by have := HI.out.2.2.2.2; simp at this; omega
            have hw3 : wrap64 ((m : Int) - 1) = (m : Int) - 1 := by have := HI.out.2.2.1; unfold wrap64; omega
            have hb1 := eq_true hmp
            have hb2 := eq_true (show (0 : Int) < (m : Int) by omega)
            have hb3 := eq_true (show (0 : Int) ≤ (m : Int) - 1 by omega)
            have hb4 := eq_true (show (m : Int) - 1 < (m : Int) by omega)
            have hb5 := eq_true (show (1 : Int) ≤ (m : Int) by omega)
            have hb6 := eq_false (show ¬ (m : Int) < 1 by omega)
            replace hmp := Aside0.mk hmp
            obtain ⟨ao, cap, B1, d1, ev_, hq0, hq1, hqT, hqf, _⟩ := out_at (F := [rdV kP (some ad) c ps]) (S.out.less (fun a ha => by simp only [List.mem_cons, List.not_mem_nil, or_false] at ha ⊢; rcases ha with h | h <;> simp [h])) 1 rfl HI.out.2.2.2.2
            injection ev_ with ev_ _ ev2_
            subst ev_ ev2_
            rw [hqr] at hq0
            have HQ : Aside0 (q.text.length ≤ 20000) := ⟨(HJB.out q (by simp)).1⟩
            have HTL := Aside0.mk htl
            replace S := Aside0.mk (S.out.add hqT)
            have hq1' := ((below_alloc (Below.refl w2.heap.size w2) (.cells #[] 5)).cell (World.block_lt_of_cell? _ _ hq1)).trans hq1
            obtain ⟨Y, hY⟩ : ∃ Y, endNl q.text ++ t = Y := ⟨_, rfl⟩
            have hYl : (endNl q.text).length + t.length = Y.length := by rw [← hY, List.length_append]
            rw [hY] at HNX
            replace hY := Aside0.mk hY
            clear hqT htl fb0 fb1 fb2 fb3 fb4
            go_wp2_with (first | (go_at_call 39; refine (st_rdEnded S.out.new8 (S.out.new8.fr (rdV B8 B1 d1 q.text) (by simp)) (by have := HQ.out; omega)).mono ?_; rintro e_ w6 ⟨A6, c6, Z6, rfl, S_⟩; replace S := Aside0.mk S_; clear S_; have hQ6 := Kd.F_now (S.out.fr (rdV B8 A6 c6 (endNl q.text)) (by simp)).2; replace hQ6 := Aside0.mk hQ6) | ((with_reducible refine gate_builtin (b := .append) (xs := #[.tmp 49, .tmp 56]) rfl ?_); at_builtin; refine wpl rfl (fun K hK => st_app (by rfl) (.tmp 49) (.tmp 56) rfl Tryd.underlying22 inf5 0 rfl rfl S.out rfl (hQ6.out) (by have := HQ.out; have := endNl_le q.text; simp; omega) ?_); intro v_ w_ S_; refine hK _ _ ?_; simp only [List.set_cons_succ, List.set_cons_zero] at S_; replace S := Aside0.mk S_; clear S_; simp only [List.nil_append] at S; obtain ⟨A7, c7, rfl, _⟩ := (row8 S.out 0 rfl).out; have hT6 := Kd.F_now (S.out.fr (rdV B8 A5 c5 t) (by simp)).2; replace hT6 := Aside0.mk hT6) | ((with_reducible refine gate_builtin (b := .append) (xs := #[.tmp 57, .tmp 58]) rfl ?_); at_builtin; refine wpl rfl (fun K hK => st_app (by rfl) (.tmp 57) (.tmp 58) rfl Tryd.underlying22 inf5 0 rfl rfl S.out rfl (hT6.out) (by have := HQ.out; have := endNl_le q.text; have := HTL.out; simp; omega) ?_); intro v_ w_ S_; refine hK _ _ ?_; simp only [List.set_cons_succ, List.set_cons_zero] at S_; replace S := Aside0.mk S_; clear S_; rw [hY.out] at S; obtain ⟨A8, c8, e8, _⟩ := own_form (S.out.rowAt 0 rfl); subst e8; have S9 := Stt.freezeHead S.out; obtain ⟨A9, c9, e9, hl9, hF9⟩ := ownF_F (S9.fr _ (List.mem_cons_self)); injection e9 with e9 _ e10; subst e9 e10; obtain ⟨ao2, cap2, B2_, d2_, ev2, _, hqs2, _, hfz2, hset2⟩ := out_at (F := [rdV kP (some ad) c ps]) (S9.less (fun a ha => by simp only [List.mem_cons, List.not_mem_nil, or_false] at ha ⊢; rcases ha with h | h <;> simp [h])) 1 rfl HI.out.2.2.2.2; injection ev2 with ev2 _ ev3; injection ev2 with ev2; subst ev2 ev3; obtain ⟨cells2, S11⟩ := hset2 _ _ _ ⟨hl9, hF9⟩; simp only [List.set_cons_succ, List.set_cons_zero] at S11; have SF := Aside0.mk (AsI_mk S11.drop (by rw [← HI.out.2.2.2.2]; simp)); clear S S9 S11 hset2 hl9 hF9))
            go_roundg (ps.length - (i + 1))
            case rel => exact ⟨wrap64 (ii + 1), i + 1, _, by first | rfl | (simp; done) | (simp [hw1]; done), ⟨by rw [hw1]; have := hii.out; omega⟩, by have := hii.out; omega, rfl, ⟨HNX.out.1⟩, ⟨by have := HNX.out.2; rw [show (i + 1) * 502 = i * 502 + 502 by omega]; exact ⟨this.1, Nat.le_trans this.2 (by have := HI.out.2.2.2.1; omega)⟩⟩, SF⟩
            case measure => have := hii.out; have := HI.out.2.1; omega
          · have hol : ∀ q, o.getLast? = some q → q.region = true := fun q hq => by
              cases hr : q.region with
              | true => rfl
              | false => exact absurd ⟨q, hq, hr⟩ hplain
            have hjp := j_new (last := false) (o := o) (p := ⟨false, T, X0, X1, X2⟩) rfl (by rw [ht.out]; exact htn) hol
            rw [ht.out] at hjp
            have hJ3 := HJ.out
            rw [hjp] at hJ3
            have HNX := Aside0.mk hJ3
            clear hJ3 hjp HJ hplain
            rcases snoc_cases o with rfl | ⟨fr, q, rfl⟩
            · obtain rfl : 0 = m := HI.out.2.2.2.2
              clear hol
              have hm1 : ((0 : Int) < ((0 : Nat) : Int)) = False := eq_false (by omega)
              go_wp2_with (((with_reducible refine gate_builtin (b := .append) (xs := #[.tmp 62, .tmp 65]) rfl ?_); at_builtin; refine wpl rfl (fun K hK => st_push (by rfl) (.tmp 62) (.tmp 65) 27 44 (.agg #[.bool false, .slice none 0 0, .slice none 0 0, .slice none 0 0, .slice none 0 0]) rfl Tryd.underlying27 inf44 rfl 1 rfl rfl (SP.out.lit0 44 5 [.bool false, .slice A5 t.length c5, .slice none 0 0, .slice none 0 0, .slice none 0 0] rfl) rfl (by simp [Value.oneCell']) (by have := HI.out.2.2.1; omega) ?_); intro v_ w_ S_; refine hK _ _ ?_; simp only [List.set_cons_succ, List.set_cons_zero] at S_; have S9_ := Stt.less (F' := [kpF ([] ++ [⟨false, t, [], [], []⟩]) (cells ++ [.bool false, .slice A5 t.length c5, .slice none 0 0, .slice none 0 0, .slice none 0 0]), rdV kP (some ad) c ps]) S_.drop (fun a ha => by simp only [List.mem_cons, List.not_mem_nil, or_false] at ha ⊢; rcases ha with h | h <;> simp [h]); have hl_ : ([] ++ [⟨false, t, [], [], []⟩] : List Pt).length = 0 + 1 := (by rw [List.length_append, HI.out.2.2.2.2]; rfl); have SF := Aside0.mk (AsI_mk S9_ hl_); clear S9_; obtain ⟨Aq, cq, e_q⟩ := SF.out.form; rw [hl_] at e_q; subst e_q; clear hl_; clear S_))
              go_roundg (ps.length - (i + 1))
              case rel => exact ⟨wrap64 (ii + 1), i + 1, _, by first | rfl | (simp; done) | (simp [hw1]; done), ⟨by rw [hw1]; have := hii.out; omega⟩, by have := hii.out; omega, rfl, ⟨HNX.out.1⟩, ⟨by have := HNX.out.2; rw [show (i + 1) * 502 = i * 502 + 502 by omega]; exact ⟨this.1, Nat.le_trans this.2 (by have := HI.out.2.2.2.1; omega)⟩⟩, SF⟩
              case measure => have := hii.out; have := HI.out.2.1; omega
            · have hqr := hol q (by simp)
              have hmp : 0 < m := by have := HI.out.2.2.2.2; simp at this; omega
              have hw3 : wrap64 ((m : Int) - 1) = (m : Int) - 1 := by have := HI.out.2.2.1; unfold wrap64; omega
              have hb1 := eq_true hmp
              have hb2 := eq_true (show (0 : Int) < (m : Int) by omega)
              have hb3 := eq_true (show (0 : Int) ≤ (m : Int) - 1 by omega)
              have hb4 := eq_true (show (m : Int) - 1 < (m : Int) by omega)
              have hb5 := eq_true (show (1 : Int) ≤ (m : Int) by omega)
              have hb6 := eq_false (show ¬ (m : Int) < 1 by omega)
              replace hmp := Aside0.mk hmp
              obtain ⟨ao, cap, B1, d1, ev_, hq0, hq1, hqT, hqf, _⟩ := out_at (F := [rdV kP (some ad) c ps]) (S.out.less (fun a ha => by simp only [List.mem_cons, List.not_mem_nil, or_false] at ha ⊢; rcases ha with h | h <;> simp [h])) 1 rfl HI.out.2.2.2.2
              injection ev_ with ev_ _ ev2_
              subst ev_ ev2_
              rw [hqr] at hq0
              clear hol hq1 hqT hqf
              go_wp2_with (((with_reducible refine gate_builtin (b := .append) (xs := #[.tmp 62, .tmp 65]) rfl ?_); at_builtin; refine wpl rfl (fun K hK => st_push (by rfl) (.tmp 62) (.tmp 65) 27 44 (.agg #[.bool false, .slice none 0 0, .slice none 0 0, .slice none 0 0, .slice none 0 0]) rfl Tryd.underlying27 inf44 rfl 1 rfl rfl (SP.out.lit0 44 5 [.bool false, .slice A5 t.length c5, .slice none 0 0, .slice none 0 0, .slice none 0 0] rfl) rfl (by simp [Value.oneCell']) (by have := HI.out.2.2.1; omega) ?_); intro v_ w_ S_; refine hK _ _ ?_; simp only [List.set_cons_succ, List.set_cons_zero] at S_; have S9_ := Stt.less (F' := [kpF ((fr ++ [q]) ++ [⟨false, t, [], [], []⟩]) (cells ++ [.bool false, .slice A5 t.length c5, .slice none 0 0, .slice none 0 0, .slice none 0 0]), rdV kP (some ad) c ps]) S_.drop (fun a ha => by simp only [List.mem_cons, List.not_mem_nil, or_false] at ha ⊢; rcases ha with h | h <;> simp [h]); have hl_ : ((fr ++ [q]) ++ [⟨false, t, [], [], []⟩] : List Pt).length = m + 1 := (by rw [List.length_append, HI.out.2.2.2.2]; rfl); have SF := Aside0.mk (AsI_mk S9_ hl_); clear S9_; obtain ⟨Aq, cq, e_q⟩ := SF.out.form; rw [hl_] at e_q; subst e_q; clear hl_; clear S_))
              go_roundg (ps.length - (i + 1))
              case rel => exact ⟨wrap64 (ii + 1), i + 1, _, by first | rfl | (simp; done) | (simp [hw1]; done), ⟨by rw [hw1]; have := hii.out; omega⟩, by have := hii.out; omega, rfl, ⟨HNX.out.1⟩, ⟨by have := HNX.out.2; rw [show (i + 1) * 502 = i * 502 + 502 by omega]; exact ⟨this.1, Nat.le_trans this.2 (by have := HI.out.2.2.2.1; omega)⟩⟩, SF⟩
              case measure => have := hii.out; have := HI.out.2.1; omega
    | true =>
      have hN2 : jAll (ps.drop (i + 1)) (o ++ [⟨true, [], endNl X0, endNl X1, endNl X2⟩]) = R := by have := HN.out.1; rw [j_reg rfl] at this; exact this
      have hJ2 := HN.out.2 true
      rw [j_reg rfl] at hJ2
      have HJ := Aside0.mk (⟨hN2, hJ2⟩ : _ ∧ _)
      clear hN2 HN hJ2
      go_upto_region 15 with (fail)
      have S15 := Aside0.mk (S.out.keep (below_drew1 (Below.refl w1.heap.size w1)))
      clear S fb0 fb1 fb2 fb3 fb4
      obtain ⟨fb0, fb1, fb2, fb3, fb4⟩ := box5 (S15.out.at_blk 0 rfl)
      obtain ⟨cb, hcb⟩ : ∃ cb, (#[.bool true, .slice A1 T.length c1, .slice A2 X0.length c2, .slice A3 X1.length c3, .slice A4 X2.length c4] : Array Value) = cb := ⟨_, rfl⟩
      rw [hcb] at S15
      clear hcb
      try go_wp2
      have E := trivial
      refine start_ (n := 18) (S := fun w' => True) (ds := []) #[false, false, false, false, false, false, false, false, false, false, false, false, false, false, false, false, false, false] (by kernel_rfl) rfl rfl trivial (fun hHeld => ?_)
      refine with_tabW mjn.tab15 mjn.bits15 (fun HT_ HW_ => ?_)
      have E := trivial
      generalize w1.drew = wd at fb0 fb1 fb2 fb3 fb4 S15 hHeld ⊢
      refine pure_ (i := 0) (N := some 67) (v := ?_) (a' := ?_) #[true, false, false, false, false, false, false, false, false, false, false, false, false, false, false, false, false, false] rfl rfl (any_of HT_.out (by kernel_rfl)) (fun _ _ _ h => h) (Or.inl ⟨by rfl, ?_⟩) ?_ ?_
      rotate_left
      · intro w'
        go_simp
        with_reducible rfl
      rotate_left
      · simp only [Act.put, List.setIfInBounds_toArray, List.set_cons_zero, List.set_cons_succ, i64_w, i32_w]
        rfl
      refine pure_ (i := 1) (N := some 68) (v := ?_) (a' := ?_) #[true, true, false, false, false, false, false, false, false, false, false, false, false, false, false, false, false, false] rfl rfl (any_of HT_.out (by kernel_rfl)) (fun _ _ _ h => h) (Or.inl ⟨by rfl, ?_⟩) ?_ ?_
      rotate_left
      · intro w'
        go_simp
        with_reducible rfl
      rotate_left
      · simp only [Act.put, List.setIfInBounds_toArray, List.set_cons_zero, List.set_cons_succ, i64_w, i32_w]
        rfl
      refine pure_ (i := 2) (N := some 69) (v := ?_) (a' := ?_) #[true, true, true, false, false, false, false, false, false, false, false, false, false, false, false, false, false, false] rfl rfl (any_of HT_.out (by kernel_rfl)) (fun _ _ _ h => h) (Or.inl ⟨by rfl, ?_⟩) ?_ ?_
      rotate_left
      · intro w'
        go_simp
        with_reducible rfl
      rotate_left
      · simp only [Act.put, List.setIfInBounds_toArray, List.set_cons_zero, List.set_cons_succ, i64_w, i32_w]
        rfl
      refine pure_ (i := 5) (N := some 72) (v := ?_) (a' := ?_) #[true, true, true, false, false, true, false, false, false, false, false, false, false, false, false, false, false, false] rfl rfl (any_of HT_.out (by kernel_rfl)) (fun _ _ _ h => h) (Or.inl ⟨by rfl, ?_⟩) ?_ ?_
      rotate_left
      · intro w'
        go_simp
        with_reducible rfl
      rotate_left
      · simp only [Act.put, List.setIfInBounds_toArray, List.set_cons_zero, List.set_cons_succ, i64_w, i32_w]
        rfl
      refine pure_ (i := 6) (N := some 73) (v := ?_) (a' := ?_) #[true, true, true, false, false, true, true, false, false, false, false, false, false, false, false, false, false, false] rfl rfl (any_of HT_.out (by kernel_rfl)) (fun _ _ _ h => h) (Or.inl ⟨by rfl, ?_⟩) ?_ ?_
      rotate_left
      · intro w'
        go_simp
        with_reducible rfl
      rotate_left
      · simp only [Act.put, List.setIfInBounds_toArray, List.set_cons_zero, List.set_cons_succ, i64_w, i32_w]
        rfl
      refine pure_ (i := 9) (N := some 76) (v := ?_) (a' := ?_) #[true, true, true, false, false, true, true, false, false, true, false, false, false, false, false, false, false, false] rfl rfl (any_of HT_.out (by kernel_rfl)) (fun _ _ _ h => h) (Or.inl ⟨by rfl, ?_⟩) ?_ ?_
      rotate_left
      · intro w'
        go_simp
        with_reducible rfl
      rotate_left
      · simp only [Act.put, List.setIfInBounds_toArray, List.set_cons_zero, List.set_cons_succ, i64_w, i32_w]
        rfl
      refine pure_ (i := 10) (N := some 77) (v := ?_) (a' := ?_) #[true, true, true, false, false, true, true, false, false, true, true, false, false, false, false, false, false, false] rfl rfl (any_of HT_.out (by kernel_rfl)) (fun _ _ _ h => h) (Or.inl ⟨by rfl, ?_⟩) ?_ ?_
      rotate_left
      · intro w'
        go_simp
        with_reducible rfl
      rotate_left
      · simp only [Act.put, List.setIfInBounds_toArray, List.set_cons_zero, List.set_cons_succ, i64_w, i32_w]
        rfl
      refine inv_at [3, 4, 7, 8, 11, 12, 13, 14, 15, 16, 17] (fun a0_ b a w' => ∃ (pa : Option Addr) (na : Nat) (pb : Option Addr) (nb : Nat) (pc : Option Addr) (nc : Nat) (gl : Nat) (vv : Value) (m4_ : Value) (m8_ : Value) (m12_ : Value) (m13_ : Value) (m14_ : Value) (m15_ : Value) (m17_ : Value), a = putSel a0_ b [(3, 70, .slice A2 X0.length c2), (4, 71, m4_), (7, 74, .slice A3 X1.length c3), (8, 75, m8_), (11, 78, .slice A4 X2.length c4), (12, 79, m12_), (13, 80, m13_), (14, 81, m14_), (15, 82, m15_), (16, 83, vv), (17, 3, m17_)] ∧ (b 15 = false → Below wd.heap.size wd w') ∧ (b 4 = true → b 15 = false → (rdV B8 pa na (endNl X0)).P w' (ZZ Z wd.heap.size w')) ∧ (b 8 = true → b 15 = false → (rdV B8 pb nb (endNl X1)).P w' (ZZ Z wd.heap.size w')) ∧ (b 12 = true → b 15 = false → (rdV B8 pc nc (endNl X2)).P w' (ZZ Z wd.heap.size w')) ∧ (b 15 = true → b 16 = false → ∃ Z2, Stt w Z2 [row (.slice (some ⟨gl, 0, none⟩) 1 1) 44 5 1 [.bool true, .slice none 0 0, .slice pa (endNl X0).length na, .slice pb (endNl X1).length nb, .slice pc (endNl X2).length nc], blk wb.heap.size 44 cb, rwP (.slice Ao m co) 44 m cells] [kpF (o ++ [⟨true, [], endNl X0, endNl X1, endNl X2⟩]) (cells ++ [.bool true, .slice none 0 0, .slice pa (endNl X0).length na, .slice pb (endNl X1).length nb, .slice pc (endNl X2).length nc]), rdV kP (some ad) c ps] w') ∧ (b 16 = true → AsI w [rdV kP (some ad) c ps] (o ++ [⟨true, [], endNl X0, endNl X1, endNl X2⟩]) vv w') ∧ (b 4 = true → (m4_ : Value) = .slice pa (endNl X0).length na) ∧ (b 8 = true → (m8_ : Value) = .slice pb (endNl X1).length nb) ∧ (b 12 = true → (m12_ : Value) = .slice pc (endNl X2).length nc) ∧ (b 13 = true → (m13_ : Value) = .agg #[.slice pa (endNl X0).length na, .slice pb (endNl X1).length nb, .slice pc (endNl X2).length nc]) ∧ (b 14 = true → (m14_ : Value) = .agg #[.bool true, .slice none 0 0, .slice pa (endNl X0).length na, .slice pb (endNl X1).length nb, .slice pc (endNl X2).length nc]) ∧ (b 15 = true → (m15_ : Value) = .slice (some ⟨gl, 0, none⟩) 1 1) ∧ (b 17 = true → (m17_ : Value) = vv)) HT_.out HW_.out (by kernel_rfl) (by kernel_rfl) ?_ ?_ ?_
      · exact ⟨none, 0, none, 0, none, 0, 0, .bool false, .bool false, .bool false, .bool false, .bool false, .bool false, .bool false, .bool false, by simp only [putSel, Bool.false_eq_true, if_false], fun _ => Below.refl _ _, fun h_ => absurd h_ (by decide), fun h_ => absurd h_ (by decide), fun h_ => absurd h_ (by decide), fun h_ => absurd h_ (by decide), fun h_ => absurd h_ (by decide), fun h_ => absurd h_ (by decide), fun h_ => absurd h_ (by decide), fun h_ => absurd h_ (by decide), fun h_ => absurd h_ (by decide), fun h_ => absurd h_ (by decide), fun h_ => absurd h_ (by decide), fun h_ => absurd h_ (by decide)⟩
      · skip
        clear E
        refine steps_cons ?_ ?_
        · rintro b a w' ⟨pa, na, pb, nb, pc, nc, gl, vv, m4_, m8_, m12_, m13_, m14_, m15_, m17_, ha, Q_E, Q_Ea, Q_Eb, Q_Ec, Q_El, Q_Ev, Q_X4_, Q_X8_, Q_X12_, Q_X13_, Q_X14_, Q_X15_, Q_X17_⟩ hb_ hon hoff
          refine ⟨_, rfl, fun K hK => ?_⟩
          have e69 : a.tmps[69]? = some (.pointer (some ⟨wb.heap.size, 2, none⟩)) := by rw [ha]; exact (putSel_off rfl).trans rfl
          replace ha := Aside0.mk ha
          have E := Aside0.mk (Q_E (hoff 15 (by kernel_rfl)))
          have hc_ := (E.out.cell (World.block_lt_of_cell? _ _ fb2)).trans fb2
          refine value_ (w1 := w') (v := .slice A2 X0.length c2) (by rfl) rfl ?_ ?_
          · go_simp
            (try simp only [i64_w])
            try rfl
          refine hK.out _ _ ⟨pa, na, pb, nb, pc, nc, gl, vv, m4_, m8_, m12_, m13_, m14_, m15_, m17_, (by rw [ha.out]; exact putSel_upk 0 hb_ rfl rfl rfl), Q_E, fun h0_ _ => absurd ((hoff 4 (by kernel_rfl)).symm.trans h0_) (by decide), fun h0_ _ => absurd ((hoff 8 (by kernel_rfl)).symm.trans h0_) (by decide), fun h0_ _ => absurd ((hoff 12 (by kernel_rfl)).symm.trans h0_) (by decide), fun h0_ _ => absurd ((hoff 15 (by kernel_rfl)).symm.trans h0_) (by decide), fun h0_ => absurd ((hoff 16 (by kernel_rfl)).symm.trans h0_) (by decide), fun h0_ => absurd ((hoff 4 (by kernel_rfl)).symm.trans h0_) (by decide), fun h0_ => absurd ((hoff 8 (by kernel_rfl)).symm.trans h0_) (by decide), fun h0_ => absurd ((hoff 12 (by kernel_rfl)).symm.trans h0_) (by decide), fun h0_ => absurd ((hoff 13 (by kernel_rfl)).symm.trans h0_) (by decide), fun h0_ => absurd ((hoff 14 (by kernel_rfl)).symm.trans h0_) (by decide), fun h0_ => absurd ((hoff 15 (by kernel_rfl)).symm.trans h0_) (by decide), fun h0_ => absurd ((hoff 17 (by kernel_rfl)).symm.trans h0_) (by decide)⟩
        refine steps_cons ?_ ?_
        · rintro b a w' ⟨pa, na, pb, nb, pc, nc, gl, vv, m4_, m8_, m12_, m13_, m14_, m15_, m17_, ha, Q_E, Q_Ea, Q_Eb, Q_Ec, Q_El, Q_Ev, Q_X4_, Q_X8_, Q_X12_, Q_X13_, Q_X14_, Q_X15_, Q_X17_⟩ hb_ hon hoff
          refine ⟨_, rfl, fun K hK => ?_⟩
          have e70 : a.tmps[70]? = some (.slice A2 X0.length c2) := by rw [ha]; exact putSel_on (e := (3, 70, .slice A2 X0.length c2)) 0 rfl rfl (hon 3 (by kernel_rfl)) rfl
          replace ha := Aside0.mk ha
          have E := Aside0.mk (Q_E (hoff 15 (by kernel_rfl)))
          refine goes_ Tryd.func39 (by kernel_rfl) rfl #[.slice A2 X0.length c2] (by rfl) rfl rfl (by first | (simp only [List.map_toArray, List.map_cons, List.map_nil, Act.eval, Array.getD_eq_getD_getElem?, Option.getD_some, e70]; done) | (simp only [List.map_toArray, List.map_cons, List.map_nil, Act.eval, Array.getD_eq_getD_getElem?, Option.getD_some, e70]; rfl)) ?_
          refine (ended_zz Z wd.heap.size E.out.size ((rdV B8 A2 c2 X0).step (S15.out.fr (rdV B8 A2 c2 X0) (by simp)) (fun k _ hl => E.out.block k hl) (fun k hk => .inl hk)) (by have := HX.out; show X0.length + 1 ≤ _; omega)).mono ?_
          rintro e w24 ⟨A5_, c5_, rfl, hR5_, hbe_⟩
          refine ⟨_, rfl, ?_⟩
          have S3_ : (rdV B8 A5_ c5_ (endNl X0)).P w24 (ZZ Z wd.heap.size w24) := hR5_
          refine hK.out _ _ ⟨A5_, c5_, pb, nb, pc, nc, gl, vv, (.slice A5_ (endNl X0).length c5_), m8_, m12_, m13_, m14_, m15_, m17_, (by rw [ha.out]; exact putSel_upk 1 hb_ rfl rfl rfl), fun _ => below_step E.out hbe_, fun _ _ => S3_, fun h0_ _ => absurd ((hoff 8 (by kernel_rfl)).symm.trans h0_) (by decide), fun h0_ _ => absurd ((hoff 12 (by kernel_rfl)).symm.trans h0_) (by decide), fun h0_ _ => absurd ((hoff 15 (by kernel_rfl)).symm.trans h0_) (by decide), fun h0_ => absurd ((hoff 16 (by kernel_rfl)).symm.trans h0_) (by decide), fun _ => rfl, fun h0_ => absurd ((hoff 8 (by kernel_rfl)).symm.trans h0_) (by decide), fun h0_ => absurd ((hoff 12 (by kernel_rfl)).symm.trans h0_) (by decide), fun h0_ => absurd ((hoff 13 (by kernel_rfl)).symm.trans h0_) (by decide), fun h0_ => absurd ((hoff 14 (by kernel_rfl)).symm.trans h0_) (by decide), fun h0_ => absurd ((hoff 15 (by kernel_rfl)).symm.trans h0_) (by decide), fun h0_ => absurd ((hoff 17 (by kernel_rfl)).symm.trans h0_) (by decide)⟩
        refine steps_cons ?_ ?_
        · rintro b a w' ⟨pa, na, pb, nb, pc, nc, gl, vv, m4_, m8_, m12_, m13_, m14_, m15_, m17_, ha, Q_E, Q_Ea, Q_Eb, Q_Ec, Q_El, Q_Ev, Q_X4_, Q_X8_, Q_X12_, Q_X13_, Q_X14_, Q_X15_, Q_X17_⟩ hb_ hon hoff
          refine ⟨_, rfl, fun K hK => ?_⟩
          have e73 : a.tmps[73]? = some (.pointer (some ⟨wb.heap.size, 3, none⟩)) := by rw [ha]; exact (putSel_off rfl).trans rfl
          replace ha := Aside0.mk ha
          have E := Aside0.mk (Q_E (hoff 15 (by kernel_rfl)))
          have hc_ := (E.out.cell (World.block_lt_of_cell? _ _ fb3)).trans fb3
          refine value_ (w1 := w') (v := .slice A3 X1.length c3) (by rfl) rfl ?_ ?_
          · go_simp
            (try simp only [i64_w])
            try rfl
          refine hK.out _ _ ⟨pa, na, pb, nb, pc, nc, gl, vv, m4_, m8_, m12_, m13_, m14_, m15_, m17_, (by rw [ha.out]; exact putSel_upk 2 hb_ rfl rfl rfl), Q_E, Q_Ea, fun h0_ _ => absurd ((hoff 8 (by kernel_rfl)).symm.trans h0_) (by decide), fun h0_ _ => absurd ((hoff 12 (by kernel_rfl)).symm.trans h0_) (by decide), fun h0_ _ => absurd ((hoff 15 (by kernel_rfl)).symm.trans h0_) (by decide), fun h0_ => absurd ((hoff 16 (by kernel_rfl)).symm.trans h0_) (by decide), Q_X4_, fun h0_ => absurd ((hoff 8 (by kernel_rfl)).symm.trans h0_) (by decide), fun h0_ => absurd ((hoff 12 (by kernel_rfl)).symm.trans h0_) (by decide), fun h0_ => absurd ((hoff 13 (by kernel_rfl)).symm.trans h0_) (by decide), fun h0_ => absurd ((hoff 14 (by kernel_rfl)).symm.trans h0_) (by decide), fun h0_ => absurd ((hoff 15 (by kernel_rfl)).symm.trans h0_) (by decide), fun h0_ => absurd ((hoff 17 (by kernel_rfl)).symm.trans h0_) (by decide)⟩
        refine steps_cons ?_ ?_
        · rintro b a w' ⟨pa, na, pb, nb, pc, nc, gl, vv, m4_, m8_, m12_, m13_, m14_, m15_, m17_, ha, Q_E, Q_Ea, Q_Eb, Q_Ec, Q_El, Q_Ev, Q_X4_, Q_X8_, Q_X12_, Q_X13_, Q_X14_, Q_X15_, Q_X17_⟩ hb_ hon hoff
          refine ⟨_, rfl, fun K hK => ?_⟩
          have e74 : a.tmps[74]? = some (.slice A3 X1.length c3) := by rw [ha]; exact putSel_on (e := (7, 74, .slice A3 X1.length c3)) 2 rfl rfl (hon 7 (by kernel_rfl)) rfl
          replace ha := Aside0.mk ha
          have E := Aside0.mk (Q_E (hoff 15 (by kernel_rfl)))
          have Ea := Aside0.mk (Q_Ea (hon 4 (by kernel_rfl)) (hoff 15 (by kernel_rfl)))
          refine goes_ Tryd.func39 (by kernel_rfl) rfl #[.slice A3 X1.length c3] (by rfl) rfl rfl (by first | (simp only [List.map_toArray, List.map_cons, List.map_nil, Act.eval, Array.getD_eq_getD_getElem?, Option.getD_some, e74]; done) | (simp only [List.map_toArray, List.map_cons, List.map_nil, Act.eval, Array.getD_eq_getD_getElem?, Option.getD_some, e74]; rfl)) ?_
          refine (ended_zz Z wd.heap.size E.out.size ((rdV B8 A3 c3 X1).step (S15.out.fr (rdV B8 A3 c3 X1) (by simp)) (fun k _ hl => E.out.block k hl) (fun k hk => .inl hk)) (by have := HX.out; show X1.length + 1 ≤ _; omega)).mono ?_
          rintro e w24 ⟨A5_, c5_, rfl, hR5_, hbe_⟩
          refine ⟨_, rfl, ?_⟩
          have S3_ : (rdV B8 A5_ c5_ (endNl X1)).P w24 (ZZ Z wd.heap.size w24) := hR5_
          refine hK.out _ _ ⟨pa, na, A5_, c5_, pc, nc, gl, vv, m4_, (.slice A5_ (endNl X1).length c5_), m12_, m13_, m14_, m15_, m17_, (by rw [ha.out]; exact putSel_upk 3 hb_ rfl rfl rfl), fun _ => below_step E.out hbe_, fun _ _ => rd_zz Ea.out hbe_, fun _ _ => S3_, fun h0_ _ => absurd ((hoff 12 (by kernel_rfl)).symm.trans h0_) (by decide), fun h0_ _ => absurd ((hoff 15 (by kernel_rfl)).symm.trans h0_) (by decide), fun h0_ => absurd ((hoff 16 (by kernel_rfl)).symm.trans h0_) (by decide), Q_X4_, fun _ => rfl, fun h0_ => absurd ((hoff 12 (by kernel_rfl)).symm.trans h0_) (by decide), fun h0_ => absurd ((hoff 13 (by kernel_rfl)).symm.trans h0_) (by decide), fun h0_ => absurd ((hoff 14 (by kernel_rfl)).symm.trans h0_) (by decide), fun h0_ => absurd ((hoff 15 (by kernel_rfl)).symm.trans h0_) (by decide), fun h0_ => absurd ((hoff 17 (by kernel_rfl)).symm.trans h0_) (by decide)⟩
        refine steps_cons ?_ ?_
        · rintro b a w' ⟨pa, na, pb, nb, pc, nc, gl, vv, m4_, m8_, m12_, m13_, m14_, m15_, m17_, ha, Q_E, Q_Ea, Q_Eb, Q_Ec, Q_El, Q_Ev, Q_X4_, Q_X8_, Q_X12_, Q_X13_, Q_X14_, Q_X15_, Q_X17_⟩ hb_ hon hoff
          refine ⟨_, rfl, fun K hK => ?_⟩
          have e77 : a.tmps[77]? = some (.pointer (some ⟨wb.heap.size, 4, none⟩)) := by rw [ha]; exact (putSel_off rfl).trans rfl
          replace ha := Aside0.mk ha
          have E := Aside0.mk (Q_E (hoff 15 (by kernel_rfl)))
          have hc_ := (E.out.cell (World.block_lt_of_cell? _ _ fb4)).trans fb4
          refine value_ (w1 := w') (v := .slice A4 X2.length c4) (by rfl) rfl ?_ ?_
          · go_simp
            (try simp only [i64_w])
            try rfl
          refine hK.out _ _ ⟨pa, na, pb, nb, pc, nc, gl, vv, m4_, m8_, m12_, m13_, m14_, m15_, m17_, (by rw [ha.out]; exact putSel_upk 4 hb_ rfl rfl rfl), Q_E, Q_Ea, Q_Eb, fun h0_ _ => absurd ((hoff 12 (by kernel_rfl)).symm.trans h0_) (by decide), fun h0_ _ => absurd ((hoff 15 (by kernel_rfl)).symm.trans h0_) (by decide), fun h0_ => absurd ((hoff 16 (by kernel_rfl)).symm.trans h0_) (by decide), Q_X4_, Q_X8_, fun h0_ => absurd ((hoff 12 (by kernel_rfl)).symm.trans h0_) (by decide), fun h0_ => absurd ((hoff 13 (by kernel_rfl)).symm.trans h0_) (by decide), fun h0_ => absurd ((hoff 14 (by kernel_rfl)).symm.trans h0_) (by decide), fun h0_ => absurd ((hoff 15 (by kernel_rfl)).symm.trans h0_) (by decide), fun h0_ => absurd ((hoff 17 (by kernel_rfl)).symm.trans h0_) (by decide)⟩
        refine steps_cons ?_ ?_
        · rintro b a w' ⟨pa, na, pb, nb, pc, nc, gl, vv, m4_, m8_, m12_, m13_, m14_, m15_, m17_, ha, Q_E, Q_Ea, Q_Eb, Q_Ec, Q_El, Q_Ev, Q_X4_, Q_X8_, Q_X12_, Q_X13_, Q_X14_, Q_X15_, Q_X17_⟩ hb_ hon hoff
          refine ⟨_, rfl, fun K hK => ?_⟩
          have e78 : a.tmps[78]? = some (.slice A4 X2.length c4) := by rw [ha]; exact putSel_on (e := (11, 78, .slice A4 X2.length c4)) 4 rfl rfl (hon 11 (by kernel_rfl)) rfl
          replace ha := Aside0.mk ha
          have E := Aside0.mk (Q_E (hoff 15 (by kernel_rfl)))
          have Ea := Aside0.mk (Q_Ea (hon 4 (by kernel_rfl)) (hoff 15 (by kernel_rfl)))
          have Eb := Aside0.mk (Q_Eb (hon 8 (by kernel_rfl)) (hoff 15 (by kernel_rfl)))
          refine goes_ Tryd.func39 (by kernel_rfl) rfl #[.slice A4 X2.length c4] (by rfl) rfl rfl (by first | (simp only [List.map_toArray, List.map_cons, List.map_nil, Act.eval, Array.getD_eq_getD_getElem?, Option.getD_some, e78]; done) | (simp only [List.map_toArray, List.map_cons, List.map_nil, Act.eval, Array.getD_eq_getD_getElem?, Option.getD_some, e78]; rfl)) ?_
          refine (ended_zz Z wd.heap.size E.out.size ((rdV B8 A4 c4 X2).step (S15.out.fr (rdV B8 A4 c4 X2) (by simp)) (fun k _ hl => E.out.block k hl) (fun k hk => .inl hk)) (by have := HX.out; show X2.length + 1 ≤ _; omega)).mono ?_
          rintro e w24 ⟨A5_, c5_, rfl, hR5_, hbe_⟩
          refine ⟨_, rfl, ?_⟩
          have S3_ : (rdV B8 A5_ c5_ (endNl X2)).P w24 (ZZ Z wd.heap.size w24) := hR5_
          refine hK.out _ _ ⟨pa, na, pb, nb, A5_, c5_, gl, vv, m4_, m8_, (.slice A5_ (endNl X2).length c5_), m13_, m14_, m15_, m17_, (by rw [ha.out]; exact putSel_upk 5 hb_ rfl rfl rfl), fun _ => below_step E.out hbe_, fun _ _ => rd_zz Ea.out hbe_, fun _ _ => rd_zz Eb.out hbe_, fun _ _ => S3_, fun h0_ _ => absurd ((hoff 15 (by kernel_rfl)).symm.trans h0_) (by decide), fun h0_ => absurd ((hoff 16 (by kernel_rfl)).symm.trans h0_) (by decide), Q_X4_, Q_X8_, fun _ => rfl, fun h0_ => absurd ((hoff 13 (by kernel_rfl)).symm.trans h0_) (by decide), fun h0_ => absurd ((hoff 14 (by kernel_rfl)).symm.trans h0_) (by decide), fun h0_ => absurd ((hoff 15 (by kernel_rfl)).symm.trans h0_) (by decide), fun h0_ => absurd ((hoff 17 (by kernel_rfl)).symm.trans h0_) (by decide)⟩
        refine steps_cons ?_ ?_
        · rintro b a w' ⟨pa, na, pb, nb, pc, nc, gl, vv, m4_, m8_, m12_, m13_, m14_, m15_, m17_, ha, Q_E, Q_Ea, Q_Eb, Q_Ec, Q_El, Q_Ev, Q_X4_, Q_X8_, Q_X12_, Q_X13_, Q_X14_, Q_X15_, Q_X17_⟩ hb_ hon hoff
          refine ⟨_, rfl, fun K hK => ?_⟩
          have e71 : a.tmps[71]? = some (m4_) := by rw [ha]; exact putSel_on (e := (4, 71, m4_)) 1 rfl rfl (hon 4 (by kernel_rfl)) rfl
          rw [Q_X4_ (hon 4 (by kernel_rfl))] at e71
          have e75 : a.tmps[75]? = some (m8_) := by rw [ha]; exact putSel_on (e := (8, 75, m8_)) 3 rfl rfl (hon 8 (by kernel_rfl)) rfl
          rw [Q_X8_ (hon 8 (by kernel_rfl))] at e75
          have e79 : a.tmps[79]? = some (m12_) := by rw [ha]; exact putSel_on (e := (12, 79, m12_)) 5 rfl rfl (hon 12 (by kernel_rfl)) rfl
          rw [Q_X12_ (hon 12 (by kernel_rfl))] at e79
          replace ha := Aside0.mk ha
          have E := Aside0.mk (Q_E (hoff 15 (by kernel_rfl)))
          have Ea := Aside0.mk (Q_Ea (hon 4 (by kernel_rfl)) (hoff 15 (by kernel_rfl)))
          have Eb := Aside0.mk (Q_Eb (hon 8 (by kernel_rfl)) (hoff 15 (by kernel_rfl)))
          have Ec := Aside0.mk (Q_Ec (hon 12 (by kernel_rfl)) (hoff 15 (by kernel_rfl)))
          refine value_ (w1 := w') (v := .agg #[.slice pa (endNl X0).length na, .slice pb (endNl X1).length nb, .slice pc (endNl X2).length nc]) (by rfl) rfl ?_ ?_
          · go_simp
            (try simp only [i64_w])
            try rfl
          refine hK.out _ _ ⟨pa, na, pb, nb, pc, nc, gl, vv, m4_, m8_, m12_, (.agg #[.slice pa (endNl X0).length na, .slice pb (endNl X1).length nb, .slice pc (endNl X2).length nc]), m14_, m15_, m17_, (by rw [ha.out]; exact putSel_upk 6 hb_ rfl rfl rfl), Q_E, Q_Ea, Q_Eb, Q_Ec, fun h0_ _ => absurd ((hoff 15 (by kernel_rfl)).symm.trans h0_) (by decide), fun h0_ => absurd ((hoff 16 (by kernel_rfl)).symm.trans h0_) (by decide), Q_X4_, Q_X8_, Q_X12_, fun _ => rfl, fun h0_ => absurd ((hoff 14 (by kernel_rfl)).symm.trans h0_) (by decide), fun h0_ => absurd ((hoff 15 (by kernel_rfl)).symm.trans h0_) (by decide), fun h0_ => absurd ((hoff 17 (by kernel_rfl)).symm.trans h0_) (by decide)⟩
        refine steps_cons ?_ ?_
        · rintro b a w' ⟨pa, na, pb, nb, pc, nc, gl, vv, m4_, m8_, m12_, m13_, m14_, m15_, m17_, ha, Q_E, Q_Ea, Q_Eb, Q_Ec, Q_El, Q_Ev, Q_X4_, Q_X8_, Q_X12_, Q_X13_, Q_X14_, Q_X15_, Q_X17_⟩ hb_ hon hoff
          refine ⟨_, rfl, fun K hK => ?_⟩
          have e80 : a.tmps[80]? = some (m13_) := by rw [ha]; exact putSel_on (e := (13, 80, m13_)) 6 rfl rfl (hon 13 (by kernel_rfl)) rfl
          rw [Q_X13_ (hon 13 (by kernel_rfl))] at e80
          replace ha := Aside0.mk ha
          have E := Aside0.mk (Q_E (hoff 15 (by kernel_rfl)))
          have Ea := Aside0.mk (Q_Ea (hon 4 (by kernel_rfl)) (hoff 15 (by kernel_rfl)))
          have Eb := Aside0.mk (Q_Eb (hon 8 (by kernel_rfl)) (hoff 15 (by kernel_rfl)))
          have Ec := Aside0.mk (Q_Ec (hon 12 (by kernel_rfl)) (hoff 15 (by kernel_rfl)))
          refine value_ (w1 := w') (v := .agg #[.bool true, .slice none 0 0, .slice pa (endNl X0).length na, .slice pb (endNl X1).length nb, .slice pc (endNl X2).length nc]) (by rfl) rfl ?_ ?_
          · go_simp
            (try simp only [i64_w])
            try rfl
          refine hK.out _ _ ⟨pa, na, pb, nb, pc, nc, gl, vv, m4_, m8_, m12_, m13_, (.agg #[.bool true, .slice none 0 0, .slice pa (endNl X0).length na, .slice pb (endNl X1).length nb, .slice pc (endNl X2).length nc]), m15_, m17_, (by rw [ha.out]; exact putSel_upk 7 hb_ rfl rfl rfl), Q_E, Q_Ea, Q_Eb, Q_Ec, fun h0_ _ => absurd ((hoff 15 (by kernel_rfl)).symm.trans h0_) (by decide), fun h0_ => absurd ((hoff 16 (by kernel_rfl)).symm.trans h0_) (by decide), Q_X4_, Q_X8_, Q_X12_, Q_X13_, fun _ => rfl, fun h0_ => absurd ((hoff 15 (by kernel_rfl)).symm.trans h0_) (by decide), fun h0_ => absurd ((hoff 17 (by kernel_rfl)).symm.trans h0_) (by decide)⟩
        refine steps_cons ?_ ?_
        · rintro b a w' ⟨pa, na, pb, nb, pc, nc, gl, vv, m4_, m8_, m12_, m13_, m14_, m15_, m17_, ha, Q_E, Q_Ea, Q_Eb, Q_Ec, Q_El, Q_Ev, Q_X4_, Q_X8_, Q_X12_, Q_X13_, Q_X14_, Q_X15_, Q_X17_⟩ hb_ hon hoff
          refine ⟨_, rfl, fun K hK => ?_⟩
          have e81 : a.tmps[81]? = some (m14_) := by rw [ha]; exact putSel_on (e := (14, 81, m14_)) 7 rfl rfl (hon 14 (by kernel_rfl)) rfl
          rw [Q_X14_ (hon 14 (by kernel_rfl))] at e81
          replace ha := Aside0.mk ha
          have E := Aside0.mk (Q_E hb_)
          have Ea := Aside0.mk (Q_Ea (hon 4 (by kernel_rfl)) hb_)
          have Eb := Aside0.mk (Q_Eb (hon 8 (by kernel_rfl)) hb_)
          have Ec := Aside0.mk (Q_Ec (hon 12 (by kernel_rfl)) hb_)
          have S4_ := S15.out.callZ E.out (F' := []) (fun a ha => by cases ha)
          have hk_ : (kpF (o ++ [⟨true, [], endNl X0, endNl X1, endNl X2⟩]) (cells ++ [.bool true, .slice none 0 0, .slice pa (endNl X0).length na, .slice pb (endNl X1).length nb, .slice pc (endNl X2).length nc])).P w' (ZZ Z wd.heap.size w') := kpF_snoc (S4_.fr (kpF o cells) (by simp)) rfl (kP_mkF w' _ ⟨true, [], endNl X0, endNl X1, endNl X2⟩ ⟨Nat.le_refl _, Kd.F_nil _ _ _⟩ Ea.out Eb.out Ec.out)
          have S5_ := (S4_.add hk_).lit0 44 5 [.bool true, .slice none 0 0, .slice pa (endNl X0).length na, .slice pb (endNl X1).length nb, .slice pc (endNl X2).length nc] rfl
          have S6_ := S5_.less (F' := [kpF (o ++ [⟨true, [], endNl X0, endNl X1, endNl X2⟩]) (cells ++ [.bool true, .slice none 0 0, .slice pa (endNl X0).length na, .slice pb (endNl X1).length nb, .slice pc (endNl X2).length nc]), rdV kP (some ad) c ps]) (fun a ha => by simp only [List.nil_append, List.mem_cons, List.not_mem_nil, or_false] at ha ⊢; rcases ha with h | h <;> simp [h])
          refine value_ (w1 := w'.alloc (.cells #[.bool true, .slice none 0 0, .slice pa (endNl X0).length na, .slice pb (endNl X1).length nb, .slice pc (endNl X2).length nc] 44)) (v := .slice (some ⟨w'.heap.size, 0, none⟩) 1 1) (by rfl) rfl ?_ ?_
          · go_simp
            try rfl
          refine hK.out _ _ ⟨pa, na, pb, nb, pc, nc, w'.heap.size, vv, m4_, m8_, m12_, m13_, m14_, (.slice (some ⟨w'.heap.size, 0, none⟩) 1 1), m17_, (by rw [ha.out]; exact putSel_upk 8 hb_ rfl rfl rfl), fun h0_ => absurd ((up_self b 15).symm.trans h0_) (by decide), fun _ h1_ => absurd ((up_self b 15).symm.trans h1_) (by decide), fun _ h1_ => absurd ((up_self b 15).symm.trans h1_) (by decide), fun _ h1_ => absurd ((up_self b 15).symm.trans h1_) (by decide), fun _ _ => ⟨_, S6_⟩, fun h0_ => absurd ((hoff 16 (by kernel_rfl)).symm.trans h0_) (by decide), Q_X4_, Q_X8_, Q_X12_, Q_X13_, Q_X14_, fun _ => rfl, fun h0_ => absurd ((hoff 17 (by kernel_rfl)).symm.trans h0_) (by decide)⟩
        refine steps_cons ?_ ?_
        · rintro b a w' ⟨pa, na, pb, nb, pc, nc, gl, vv, m4_, m8_, m12_, m13_, m14_, m15_, m17_, ha, Q_E, Q_Ea, Q_Eb, Q_Ec, Q_El, Q_Ev, Q_X4_, Q_X8_, Q_X12_, Q_X13_, Q_X14_, Q_X15_, Q_X17_⟩ hb_ hon hoff
          refine ⟨_, rfl, fun K hK => ?_⟩
          have e67 : a.tmps[67]? = some (.slice Ao m co) := by rw [ha]; exact (putSel_off rfl).trans rfl
          have e82 : a.tmps[82]? = some (m15_) := by rw [ha]; exact putSel_on (e := (15, 82, m15_)) 8 rfl rfl (hon 15 (by kernel_rfl)) rfl
          rw [Q_X15_ (hon 15 (by kernel_rfl))] at e82
          replace ha := Aside0.mk ha
          have El := Aside0.mk (Q_El (hon 15 (by kernel_rfl)) hb_)
          obtain ⟨Z2_, S7_⟩ := El.out
          refine st_push (by rfl) (.tmp 67) (.tmp 82) 27 44 (.agg #[.bool false, .slice none 0 0, .slice none 0 0, .slice none 0 0, .slice none 0 0]) rfl Tryd.underlying27 inf44 rfl 1 (eval_of e67) (eval_of e82) S7_ rfl (by simp [Value.oneCell']) (by have := HI.out.2.2.1; omega) ?_
          intro v1 w1 S8_
          simp only [List.set_cons_succ, List.set_cons_zero] at S8_
          have S9_ : AsI w [rdV kP (some ad) c ps] (o ++ [⟨true, [], endNl X0, endNl X1, endNl X2⟩]) v1 w1 := AsI_mk S8_.drop (by rw [List.length_append, HI.out.2.2.2.2]; rfl)
          refine hK.out _ _ ⟨pa, na, pb, nb, pc, nc, gl, v1, m4_, m8_, m12_, m13_, m14_, m15_, m17_, (by rw [ha.out]; exact putSel_upk 9 hb_ rfl rfl rfl), fun h0_ => absurd ((hon 15 (by kernel_rfl)).symm.trans h0_) (by decide), fun _ h1_ => absurd ((hon 15 (by kernel_rfl)).symm.trans h1_) (by decide), fun _ h1_ => absurd ((hon 15 (by kernel_rfl)).symm.trans h1_) (by decide), fun _ h1_ => absurd ((hon 15 (by kernel_rfl)).symm.trans h1_) (by decide), fun _ h1_ => absurd ((up_self b 16).symm.trans h1_) (by decide), fun _ => S9_, Q_X4_, Q_X8_, Q_X12_, Q_X13_, Q_X14_, Q_X15_, fun h0_ => absurd ((hoff 17 (by kernel_rfl)).symm.trans h0_) (by decide)⟩
        refine steps_cons ?_ ?_
        · rintro b a w' ⟨pa, na, pb, nb, pc, nc, gl, vv, m4_, m8_, m12_, m13_, m14_, m15_, m17_, ha, Q_E, Q_Ea, Q_Eb, Q_Ec, Q_El, Q_Ev, Q_X4_, Q_X8_, Q_X12_, Q_X13_, Q_X14_, Q_X15_, Q_X17_⟩ hb_ hon hoff
          refine ⟨_, rfl, fun K hK => ?_⟩
          have e83 : a.tmps[83]? = some (vv) := by rw [ha]; exact putSel_on (e := (16, 83, vv)) 9 rfl rfl (hon 16 (by kernel_rfl)) rfl
          replace ha := Aside0.mk ha
          have Ev := Aside0.mk (Q_Ev (hon 16 (by kernel_rfl)))
          refine value_ (w1 := w') (v := vv) (by rfl) rfl ?_ ?_
          · go_simp
            (try simp only [i64_w])
            try rfl
          refine hK.out _ _ ⟨pa, na, pb, nb, pc, nc, gl, vv, m4_, m8_, m12_, m13_, m14_, m15_, (vv), (by rw [ha.out]; exact putSel_upk 10 hb_ rfl rfl rfl), fun h0_ => absurd ((hon 15 (by kernel_rfl)).symm.trans h0_) (by decide), fun _ h1_ => absurd ((hon 15 (by kernel_rfl)).symm.trans h1_) (by decide), fun _ h1_ => absurd ((hon 15 (by kernel_rfl)).symm.trans h1_) (by decide), fun _ h1_ => absurd ((hon 15 (by kernel_rfl)).symm.trans h1_) (by decide), fun _ h1_ => absurd ((hon 16 (by kernel_rfl)).symm.trans h1_) (by decide), Q_Ev, Q_X4_, Q_X8_, Q_X12_, Q_X13_, Q_X14_, Q_X15_, fun _ => rfl⟩
        exact steps_nil
      · rintro b a w' hall ⟨pa, na, pb, nb, pc, nc, gl, vv, m4_, m8_, m12_, m13_, m14_, m15_, m17_, ha, Q_E, Q_Ea, Q_Eb, Q_Ec, Q_El, Q_Ev, Q_X4_, Q_X8_, Q_X12_, Q_X13_, Q_X14_, Q_X15_, Q_X17_⟩
        clear E
        have hb3_ := hall 3 (by kernel_rfl)
        have hb4_ := hall 4 (by kernel_rfl)
        have hb7_ := hall 7 (by kernel_rfl)
        have hb8_ := hall 8 (by kernel_rfl)
        have hb11_ := hall 11 (by kernel_rfl)
        have hb12_ := hall 12 (by kernel_rfl)
        have hb13_ := hall 13 (by kernel_rfl)
        have hb14_ := hall 14 (by kernel_rfl)
        have hb15_ := hall 15 (by kernel_rfl)
        have hb16_ := hall 16 (by kernel_rfl)
        have hb17_ := hall 17 (by kernel_rfl)
        subst ha
        obtain rfl := Q_X4_ hb4_
        obtain rfl := Q_X8_ hb8_
        obtain rfl := Q_X12_ hb12_
        obtain rfl := Q_X13_ hb13_
        obtain rfl := Q_X14_ hb14_
        obtain rfl := Q_X15_ hb15_
        obtain rfl := Q_X17_ hb17_
        simp only [putSel, hb3_, hb4_, hb7_, hb8_, hb11_, hb12_, hb13_, hb14_, hb15_, hb16_, hb17_, if_true, Act.put, List.setIfInBounds_toArray, List.set_cons_zero, List.set_cons_succ]
        clear Q_E
        clear Q_Ea
        clear Q_Eb
        clear Q_Ec
        clear Q_El
        have Ev := Aside0.mk (Q_Ev hb16_)
        clear Q_Ev
        clear hall hb3_ hb4_ hb7_ hb8_ hb11_ hb12_ hb13_ hb14_ hb15_ hb16_ hb17_
        have SF := Aside0.mk Ev.out
        obtain ⟨Aq, cq, e_q⟩ := SF.out.form
        rw [show (o ++ [⟨true, [], endNl X0, endNl X1, endNl X2⟩] : List Pt).length = m + 1 by rw [List.length_append, HI.out.2.2.2.2]; rfl] at e_q
        subst e_q
        have HNX := HJ
        go_wp2
        go_roundg (ps.length - (i + 1))
        case rel => exact ⟨wrap64 (ii + 1), i + 1, _, by first | rfl | (simp; done) | (simp [hw1]; done), ⟨by rw [hw1]; have := hii.out; omega⟩, by have := hii.out; omega, rfl, ⟨HNX.out.1⟩, ⟨by have := HNX.out.2; rw [show (i + 1) * 502 = i * 502 + 502 by omega]; exact ⟨this.1, Nat.le_trans this.2 (by have := HI.out.2.2.2.1; omega)⟩⟩, SF⟩
        case measure => have := hii.out; have := HI.out.2.1; omega
  · have hi' : i = ps.length := by have := hii.out; omega
    have hoo : o = R := by have := hall.out; rw [hi', List.drop_of_length_le (Nat.le_refl _)] at this; exact this
    subst hoo
    obtain ⟨A', c', rfl, hc', hC'⟩ := hI.out.out
    have HH := Aside0.mk (⟨hc', hC', hI.out.below⟩ : _ ∧ _ ∧ _)
    clear hi' hc' hC'
    go_wp2
    go_ret
    exact ⟨A', c', rfl, HH.out.1, HH.out.2.1, HH.out.2.2⟩
end Go.Proofs.YtnnnbeimehfiiaaDoor.Q
/-! Rows of rows being gathered: texts, handed on to Length. -/
set_option linter.unusedVariables false
set_option linter.unusedSimpArgs false
namespace Go.Proofs.YtnnnbeimehfiiaaDoor.Q
open Go Go.RowKit Go.Proofs.YtnnnbeimehfiiaaDoorW.PrintWords Go.Proofs.YtnnnbeimehfiiaaDoorW.SL
/-- Texts that are kept, their cells told. -/
def klF (ls : List (List Int)) (cells : List Value) : FA :=
  ⟨fun w Z => cells.length = ls.length ∧ ∀ (j : Nat) (l : List Int), ls[j]? = some l → ∃ A c, cells[j]? = some (.slice A l.length c) ∧ l.length ≤ c ∧ Kd.F B8 w Z A l.length l,
   fun h hs hZ => ⟨h.1, fun j l hl => by
     obtain ⟨A, c, h1, h2, h3⟩ := h.2 j l hl
     exact ⟨A, c, h1, h2, Kd.F_step h3 (fun k hk hl => hs k hk hl) |> fun h => Kd.F_mono h hZ⟩⟩⟩
theorem klF_app {a b : List (List Int)} {ca cb : List Value} {w : World} {Z : Nat → Prop} (h : (klF a ca).P w Z) (k : (klF b cb).P w Z) : (klF (a ++ b) (ca ++ cb)).P w Z := by
  refine ⟨by simp [h.1, k.1], fun j l hl => ?_⟩
  by_cases hj : j < a.length
  · rw [List.getElem?_append_left hj] at hl
    rw [List.getElem?_append_left (by rw [h.1]; exact hj)]
    exact h.2 j l hl
  · rw [List.getElem?_append_right (by omega)] at hl
    rw [List.getElem?_append_right (by rw [h.1]; omega), h.1]
    exact k.2 _ l hl
theorem rowL_C {w : World} {Z : Nat → Prop} {vo : Value} {e : TypeId} {ls : List (List Int)} {cells : List Value} (ho : w.ownsRow 0 e 1 vo ls.length cells) (hk : (klF ls cells).P w Z) : ∃ (A : Option Addr) (c : Nat), vo = .slice A ls.length c ∧ ls.length ≤ c ∧ Kd.C (Kd.slice 5 B8) w A ls.length ls := by
  rcases ho.2 with ⟨h1, h2⟩ | ⟨g, cap, cur, h1, _, hg, hnc, hcm, hcs, ht⟩
  · refine ⟨none, 0, by rw [h1, h2], by omega, rfl, by omega, fun hp => by omega⟩
  · refine ⟨_, cap, h1, hnc, rfl, by simp only [maxLen] at hcm; omega, fun hp => ?_⟩
    refine ⟨_, rfl, fun j p hj => ?_⟩
    obtain ⟨A, c, hc, hl, hF⟩ := hk.2 j p hj
    refine ⟨[.slice A p.length c], by rfl, ⟨A, c, rfl, hl, Kd.F_now hF⟩, fun i u hi => ?_⟩
    cases i with
    | zero =>
      simp only [List.getElem?_cons_zero, Option.some.injEq] at hi
      subst hi
      have := ho.cells (g := g) (by rw [h1]; rfl) _ _ hc
      have e : j * (Kd.slice 5 B8).sz + 0 = j := by show j * 1 + 0 = j; omega
      rw [e]; exact this
    | succ i => simp at hi
/-- Texts gathered: the row, all it leads to kept. -/
def AlI (w0 : World) (F0 : List FA) (ls : List (List Int)) (vo : Value) (W : World) : Prop := ∃ (Z : Nat → Prop) (cells : List Value), Stt w0 Z [row vo 22 1 ls.length cells] (klF ls cells :: F0) W
theorem AlI.start {w0 w : World} {F0 : List FA} {Z : Nat → Prop} (S : Stt w0 Z [] F0 w) : AlI w0 F0 [] (.slice none 0 0) w :=
  ⟨Z, [], (S.with (S.st.row_nil 22 1)).add ⟨rfl, fun j p h => by simp at h⟩⟩
theorem AlI.keep {w0 w w' : World} {F0 : List FA} {ls : List (List Int)} {vo : Value} (h : AlI w0 F0 ls vo w) (hb : Below w.heap.size w w') : AlI w0 F0 ls vo w' := by
  obtain ⟨Z, cells, S⟩ := h
  exact ⟨Z, cells, S.keep hb⟩
theorem AlI.below {w0 w : World} {F0 : List FA} {ls : List (List Int)} {vo : Value} (h : AlI w0 F0 ls vo w) : Below w0.heap.size w0 w := by
  obtain ⟨Z, cells, S⟩ := h
  exact S.below
theorem AlI.form {w0 w : World} {F0 : List FA} {ls : List (List Int)} {vo : Value} (h : AlI w0 F0 ls vo w) : ∃ A c, vo = .slice A ls.length c := by
  obtain ⟨Z, cells, S⟩ := h
  obtain ⟨A, c, e, _⟩ := own_form (S.rowAt 0 rfl)
  exact ⟨A, c, e⟩
theorem AlI.fr {w0 w : World} {F0 : List FA} {ls : List (List Int)} {vo : Value} (h : AlI w0 F0 ls vo w) : ∃ Z : Nat → Prop, ∀ a ∈ F0, a.P w Z := by
  obtain ⟨Z, cells, S⟩ := h
  exact ⟨Z, fun a ha => S.fr a (List.mem_cons_of_mem _ ha)⟩
theorem AlI.out {w0 w : World} {F0 : List FA} {ls : List (List Int)} {vo : Value} (h : AlI w0 F0 ls vo w) : ∃ (A : Option Addr) (c : Nat), vo = .slice A ls.length c ∧ ls.length ≤ c ∧ Kd.C (Kd.slice 5 B8) w A ls.length ls := by
  obtain ⟨Z, cells, S⟩ := h
  exact rowL_C (S.rowAt 0 rfl) (S.fr (klF ls cells) (by simp))
/-- Texts more: their literal's block, then the append. -/
theorem AlI.push {w0 w : World} {F0 : List FA} {ls : List (List Int)} {vo : Value} (h : AlI w0 F0 ls vo w) (ms : List (List Int)) (cs : List Value) {n : Nat} (hn : cs.length = n) (h0 : 0 < n) (hm : n ≤ maxLen) (hp : ∀ Z : Nat → Prop, (∀ a ∈ F0, a.P w Z) → (klF ms cs).P w Z) :
    ∃ cells, (w.alloc (.cells cs.toArray 22)).ownsRow 0 22 1 vo ls.length cells ∧ (w.alloc (.cells cs.toArray 22)).ownsRow 0 22 1 (.slice (some ⟨w.heap.size, 0, none⟩) n n) n cs ∧
      ∀ (w1 : World) (v1 : Value), w1.ownsRow 0 22 1 v1 (ls.length + n) (cells ++ cs) → (w.alloc (.cells cs.toArray 22)).grownBy w1 vo.ownBlock → (v1.ownBlock = vo.ownBlock ∨ ∃ b, v1.ownBlock = some b ∧ (w.alloc (.cells cs.toArray 22)).heap.size ≤ b) → AlI w0 F0 (ls ++ ms) v1 w1 := by
  obtain ⟨Z, cells, S⟩ := h
  have hk := S.fr (klF ls cells) (by simp)
  have hF := fun a ha => S.fr a (List.mem_cons_of_mem (klF ls cells) ha)
  have hk2 := klF_app hk (hp Z hF)
  have hml : ms.length = n := by rw [← hn]; exact (hp Z hF).1.symm
  have S2 : Stt w0 Z [row vo 22 1 ls.length cells] (klF (ls ++ ms) (cells ++ cs) :: F0) w := ⟨S.st, fun a ha => by
    rcases List.mem_cons.1 ha with rfl | ha
    · exact hk2
    · exact hF a ha, S.old⟩
  have e_ : Stt w0 Z (row (.slice (some ⟨w.heap.size, 0, none⟩) n n) 22 1 n cs :: [row vo 22 1 ls.length cells]) (klF (ls ++ ms) (cells ++ cs) :: F0) (w.alloc (.cells cs.toArray 22)) :=
    S2.of (S2.st.emp_new.lit (i := 0) rfl 22 1 n h0 hm cs (by omega))
  refine ⟨cells, e_.rowAt 1 rfl, e_.rowAt 0 rfl, fun w1 v1 ho hg hat => ?_⟩
  have S3 := (e_.updRow 1 rfl ho hg hat).drop
  exact ⟨Z, _, by simpa [hml] using S3⟩
section
variable {P : Program} {ops : Array Oper} {o : Oper} {a : Act} {Q : Exit → Act → World → Prop} {K : Act → World → Prop}
/-- append(s, x...), x a row of k. -/
theorem app_steps {W : World} (hw : Region.wanted o (yielded ops a.tmps) = true) (s x : Operand) (t e : TypeId) (z : Value) (size bytes k : Nat) (hk : 0 < k)
    (ho : o.op = .call { callee := .builtin .append, args := #[s, x], argTypes := #[t, t] })
    (ht : P.underlying t = some (.slice e)) (hinfo : (P.info? e).map (fun i => (i.zero, i.size, i.bytes)) = some (some z, size, bytes)) (hz : z.cells.size = size) (hs0 : 0 < size) (hb0 : 0 < bytes)
    (v u : Value) (n : Nat) (xs ys : List Value) (hs : a.eval s = v) (hx : a.eval x = u) (h1 : ∀ u ∈ ys, u.oneCell' = true)
    (HO : W.ownsRow 0 e size v n xs) (HX : W.ownsRow 0 e size u k ys) (hl : (n + k) * bytes ≤ 140737488355328)
    (h : ∀ v1 w1, w1.ownsRow 0 e size v1 (n + k) (xs ++ ys) → W.grownBy w1 v.ownBlock → (v1.ownBlock = v.ownBlock ∨ ∃ b, v1.ownBlock = some b ∧ W.heap.size ≤ b) → K (a.put o.dst v1) w1) :
    if Region.wanted o (yielded ops a.tmps) = true then Oper.wp P o a W K Q else K (a.put o.dst undef) W := by
  obtain ⟨i0, hi, hzz⟩ := Option.map_eq_some_iff.1 hinfo
  simp only [Prod.mk.injEq] at hzz
  obtain ⟨hz0, hz1, hz2⟩ := hzz
  have hlen : n + k ≤ 140737488355328 := Nat.le_trans (Nat.le_mul_of_pos_right _ hb0) hl
  rw [if_pos hw]
  rcases HX with ⟨hyl, ⟨_, h0⟩ | ⟨g, cap, cur, rfl, _, hg, _, _, hcs, hty⟩⟩
  · omega
  obtain ⟨v1, w1, hr, hown, hgr, _, hat⟩ := run_append_own_at (P := P) W 0 t o.type e i0 z size bytes ht hi hz0 hz1 hz2 hz hs0 v n xs HO ⟨g, 0, none⟩ k cap ys (by rw [hyl])
    (fun j q hj => by
      have hj' : (cur.toList.take (k * size))[j]? = some q := by rw [hty]; exact hj
      have := (blk_cell hg j)
      rw [List.getElem?_take] at hj'
      split at hj'
      · have h2 := this.trans (show cur[j]? = some q by simpa using hj')
        simp only [Addr.add, Nat.zero_add]
        split
        · next h0 => subst h0; exact h2
        · exact h2
      · cases hj') h1 (by simp only [maxLen]; omega) hl (by omega)
  unfold Oper.wp execOp
  simp only [ho, resolve, invoke, builtin, Sem.run_bind, Sem.run_pure, Result.andThen_ok, List.map_toArray, List.map_cons, List.map_nil, hs, hx, hr]
  refine h v1 w1 hown hgr ?_
  rcases hat with hat | hat
  · exact .inl hat
  · exact .inr ⟨_, hat, by simp⟩
end
theorem klF_nil {w : World} {Z : Nat → Prop} : (klF [] []).P w Z := ⟨rfl, fun j l h => by simp at h⟩
theorem klF_cons {w : World} {Z : Nat → Prop} {A : Option Addr} {c : Nat} {l : List Int} {ls : List (List Int)} {cells : List Value} (h : l.length ≤ c ∧ Kd.F B8 w Z A l.length l) (k : (klF ls cells).P w Z) : (klF (l :: ls) (.slice A l.length c :: cells)).P w Z := by
  refine ⟨by simp [k.1], fun j m hj => ?_⟩
  cases j with
  | zero =>
    simp only [List.getElem?_cons_zero, Option.some.injEq] at hj
    subst hj
    exact ⟨A, c, rfl, h⟩
  | succ j => exact k.2 j m hj
/-- A part in hand, its texts told for all that keeps them. -/
theorem AlI.part {w0 W : World} {A : Option Addr} {c : Nat} {qs : List Pt} {ls : List (List Int)} {vo : Value} (h : AlI w0 [rdV kP A c qs] ls vo W) (ii : Int) (p0 : 0 ≤ ii) (hin : ii < (qs.length : Int)) :
    ∃ ad x A1 c1 A2 c2 A3 c3 A4 c4, A = some ad ∧ qs[ii.toNat]? = some x ∧ W.cell? (ad.add (ii.toNat * 5)) = some (.bool x.region) ∧ W.cell? ⟨(ad.add (ii.toNat * 5)).block, (ad.add (ii.toNat * 5)).off + 1, none⟩ = some (.slice A1 x.text.length c1) ∧
      W.cell? ⟨(ad.add (ii.toNat * 5)).block, (ad.add (ii.toNat * 5)).off + 2, none⟩ = some (.slice A2 x.s0.length c2) ∧ W.cell? ⟨(ad.add (ii.toNat * 5)).block, (ad.add (ii.toNat * 5)).off + 3, none⟩ = some (.slice A3 x.s1.length c3) ∧ W.cell? ⟨(ad.add (ii.toNat * 5)).block, (ad.add (ii.toNat * 5)).off + 4, none⟩ = some (.slice A4 x.s2.length c4) ∧
      ∀ Z' : Nat → Prop, (∀ a ∈ [rdV kP A c qs], a.P W Z') → (x.text.length ≤ c1 ∧ Kd.F B8 W Z' A1 x.text.length x.text) ∧ (x.s0.length ≤ c2 ∧ Kd.F B8 W Z' A2 x.s0.length x.s0) ∧ (x.s1.length ≤ c3 ∧ Kd.F B8 W Z' A3 x.s1.length x.s1) ∧ (x.s2.length ≤ c4 ∧ Kd.F B8 W Z' A4 x.s2.length x.s2) := by
  obtain ⟨Z, hZ⟩ := h.fr
  obtain ⟨ad, x, A1, c1, A2, c2, A3, c3, A4, c4, rfl, hxi, hok, hx0, hx1, hx2, hx3, hx4, g1, g2, g3, g4⟩ := at_Pt (hZ (rdV kP A c qs) (by simp)).2 ii p0 hin
  refine ⟨ad, x, A1, c1, A2, c2, A3, c3, A4, c4, rfl, hxi, hx0, hx1, hx2, hx3, hx4, fun Z' hZ' => ?_⟩
  obtain ⟨ad', x', B1, d1, B2, d2, B3, d3, B4, d4, eA, hxi', _, hy0, hy1, hy2, hy3, hy4, k1, k2, k3, k4⟩ := at_Pt (hZ' _ List.mem_cons_self).2 ii p0 hin
  injection eA with eA
  subst eA
  rw [hxi] at hxi'
  obtain rfl := Option.some.inj hxi'
  rw [hx1] at hy1; rw [hx2] at hy2; rw [hx3] at hy3; rw [hx4] at hy4
  injection hy1 with hy1; injection hy1 with a1 _ b1
  injection hy2 with hy2; injection hy2 with a2 _ b2
  injection hy3 with hy3; injection hy3 with a3 _ b3
  injection hy4 with hy4; injection hy4 with a4 _ b4
  subst a1 b1 a2 b2 a3 b3 a4 b4
  exact ⟨k1, k2, k3, k4⟩
theorem infL22 : (Tryd.prog.info? 22).map (fun i => (i.zero, i.size, i.bytes)) = some (some (.slice none 0 0), 1, 24) := by kernel_rfl
end Go.Proofs.YtnnnbeimehfiiaaDoor.Q
/-! MarkBack and MarkPicks in plain Lean, second part: how long markers are, how long the text is, its bytes. -/
set_option linter.unusedVariables false
set_option linter.unusedSimpArgs false
namespace Go.Proofs.YtnnnbeimehfiiaaDoor.Q
open Go Go.RowKit Go.Proofs.YtnnnbeimehfiiaaDoorW.PrintWords Go.Proofs.YtnnnbeimehfiiaaDoorW.SL
def rowsB (p : Pt) : List (List Int) := if p.region then [p.s0, p.s1, p.s2] else [p.text]
def allB (qs : List Pt) : List (List Int) := qs.flatMap rowsB
theorem allB_take {qs : List Pt} {i : Nat} {x : Pt} (h : qs[i]? = some x) : allB (qs.take (i + 1)) = allB (qs.take i) ++ rowsB x := by
  rw [List.take_add_one, h]; simp [allB]
theorem rowsB_len (p : Pt) : (rowsB p).length ≤ 3 := by unfold rowsB; split <;> simp
theorem allB_len : ∀ qs : List Pt, (allB qs).length ≤ qs.length * 3
  | [] => Nat.le_refl _
  | p :: r => by
    have h1 := rowsB_len p
    have h2 := allB_len r
    simp only [allB, List.flatMap_cons, List.length_append, List.length_cons] at h2 ⊢
    omega
theorem lenAll_ge : ∀ (m : List (List Int)) (n : Int), n ≤ lenAll n m ∧ ∀ l ∈ m, ∀ x ∈ linesOf l, 0 < (sgn x).1 → (((sgn x).1 : Nat) : Int) < lenAll n m
  | [], n => ⟨Int.le_refl _, by simp⟩
  | l :: m, n => by
    have h1 := fold_ge (linesOf l) n
    have h2 := lenAll_ge m (lenRow n l)
    refine ⟨Int.le_trans h1.1 h2.1, fun y hy x hx h0 => ?_⟩
    rcases List.mem_cons.1 hy with rfl | hy
    · exact Int.lt_of_lt_of_le (h1.2 x hx h0) h2.1
    · exact h2.2 y hy x hx h0
theorem lenAll_le (B : Int) : ∀ (m : List (List Int)) (n : Int), n ≤ B + 1 → (∀ l ∈ m, (l.length : Int) ≤ B) → lenAll n m ≤ B + 1
  | [], n, h, _ => h
  | l :: m, n, h, hm => by
    have h1 : lenRow n l ≤ B + 1 := fold_le B (linesOf l) n h (fun x hx => Int.le_trans (by have := linesOf_mem l x hx; omega) (hm l List.mem_cons_self))
    exact lenAll_le B m _ h1 (fun x hx => hm x (List.mem_cons_of_mem _ hx))
theorem good_of {n : Int} (h1 : 1 ≤ n) {m : List (List Int)} {l : List Int} (hl : l ∈ m) : Good (lenAll n m).toNat l := by
  intro x hx
  have h2 := lenAll_ge m n
  by_cases h0 : 0 < (sgn x).1
  · have := h2.2 l hl x hx h0; omega
  · have := h2.1; omega
theorem goodB {n : Int} (h1 : 1 ≤ n) (qs : List Pt) : ∀ p ∈ qs, GoodP (lenAll n (allB qs)).toNat p := fun p hp => by
  have hm : ∀ l ∈ rowsB p, l ∈ allB qs := fun l hl => List.mem_flatMap.2 ⟨p, hp, hl⟩
  constructor
  · intro hr; exact good_of h1 (hm _ (by simp [rowsB, hr]))
  · intro hr; exact ⟨good_of h1 (hm _ (by simp [rowsB, hr])), good_of h1 (hm _ (by simp [rowsB, hr])), good_of h1 (hm _ (by simp [rowsB, hr]))⟩
/-- Parts with short texts, of bytes. -/
def Sm (qs : List Pt) : Prop := qs.length ≤ 20 ∧ ∀ p ∈ qs, (p.text.length ≤ 500 ∧ p.s0.length ≤ 500 ∧ p.s1.length ≤ 500 ∧ p.s2.length ≤ 500) ∧ ptOk p
theorem few_Sm {ps : List Pt} (h : ∀ p ∈ ps, ptOk p) : Sm (fewOf ps) := by
  refine ⟨by rw [fewOf_len]; omega, fun p hp => ⟨fewOf_small ps p hp, ?_⟩⟩
  obtain ⟨q, hq, rfl⟩ := List.mem_map.1 hp
  obtain ⟨h1, h2, h3, h4⟩ := h q (List.mem_of_mem_take hq)
  exact ⟨fun x hx => h1 x (List.mem_of_mem_take hx), fun x hx => h2 x (List.mem_of_mem_take hx), fun x hx => h3 x (List.mem_of_mem_take hx), fun x hx => h4 x (List.mem_of_mem_take hx)⟩
theorem allB_ok {qs : List Pt} (h : Sm qs) : ∀ l ∈ allB qs, l.length ≤ 500 ∧ ∀ x ∈ l, byte x := by
  intro l hl
  obtain ⟨p, hp, hl⟩ := List.mem_flatMap.1 hl
  obtain ⟨⟨a, b, c, d⟩, e, f, g, i⟩ := h.2 p hp
  unfold rowsB at hl
  split at hl
  · simp only [List.mem_cons, List.not_mem_nil, or_false] at hl
    rcases hl with rfl | rfl | rfl
    · exact ⟨b, f⟩
    · exact ⟨c, g⟩
    · exact ⟨d, i⟩
  · simp only [List.mem_cons, List.not_mem_nil, or_false] at hl
    subst hl; exact ⟨a, e⟩
theorem lenAll_in {n : Int} (h1 : 1 ≤ n) (h2 : n ≤ 1000) {m : List (List Int)} (hm : ∀ l ∈ m, l.length ≤ 500 ∧ ∀ x ∈ l, byte x) : 1 ≤ lenAll n m ∧ lenAll n m ≤ 1000 :=
  ⟨Int.le_trans h1 (lenAll_ge m n).1, by
    have := lenAll_le 999 m n (by omega) (fun l hl => by have := (hm l hl).1; omega)
    omega⟩
/-- The text that is written: short, of bytes. -/
def TextOk (b : Nat) (l : List Int) : Prop := l.length ≤ b ∧ ∀ x ∈ l, byte x
theorem TextOk.app {b c : Nat} {l m : List Int} (h : TextOk b l) (k : TextOk c m) : TextOk (b + c) (l ++ m) :=
  ⟨by rw [List.length_append]; have := h.1; have := k.1; omega, fun x hx => (List.mem_append.1 hx).elim (h.2 x) (k.2 x)⟩
theorem TextOk.ended {b : Nat} {l : List Int} (h : TextOk b l) : TextOk (b + 1) (endNl l) := by
  refine ⟨Nat.le_trans (endNl_le l) (by have := h.1; omega), ?_⟩
  rcases List.eq_nil_or_concat l with rfl | ⟨r, x, hs⟩
  · exact h.2
  · have h2 : l = r ++ [x] := by simpa using hs
    subst h2
    rw [endNl_snoc]
    split
    · exact h.2
    · intro y hy
      rcases List.mem_append.1 hy with hy | hy
      · exact h.2 y hy
      · rw [List.mem_singleton] at hy; subst hy; unfold byte; omega
theorem bnum_b (x : UInt8) : byte (bnum x) := by
  have := x.toNat_lt
  unfold byte bnum; omega
theorem TextOk.line (x : UInt8) {n : Nat} (hn : n ≤ 1000) (s : ByteArray) : TextOk 1202 (mkLine x n s) := by
  refine ⟨Nat.le_trans (mkLine_le x n s) (by omega), ?_⟩
  intro y hy
  unfold mkLine at hy
  rcases List.mem_append.1 hy with hy | hy
  · rcases List.mem_append.1 hy with hy | hy
    · rw [(List.mem_replicate.1 hy).2]; exact bnum_b x
    · split at hy
      · simp at hy
      · rcases List.mem_cons.1 hy with rfl | hy
        · unfold byte; omega
        · obtain ⟨c, _, rfl⟩ := List.mem_map.1 hy; exact bnum_b c
  · rw [List.mem_singleton] at hy; subst hy; unfold byte; omega
theorem TextOk.mono {b c : Nat} {l : List Int} (h : TextOk b l) (hb : b ≤ c) : TextOk c l := ⟨Nat.le_trans h.1 hb, h.2⟩
theorem wrPart_ok {b n : Nat} (hn : n ≤ 1000) (s0 s1 s2 : ByteArray) (last : Bool) {acc : List Int} (h : TextOk b acc) {p : Pt} (hp : (p.text.length ≤ 500 ∧ p.s0.length ≤ 500 ∧ p.s1.length ≤ 500 ∧ p.s2.length ≤ 500) ∧ ptOk p) : TextOk (b + 10000) (wrPart n s0 s1 s2 last acc p) := by
  obtain ⟨⟨l0, l1, l2, l3⟩, k0, k1, k2, k3⟩ := hp
  have o0 : TextOk 500 p.text := ⟨l0, k0⟩
  have o1 : TextOk 500 p.s0 := ⟨l1, k1⟩
  have o2 : TextOk 500 p.s1 := ⟨l2, k2⟩
  have o3 : TextOk 500 p.s2 := ⟨l3, k3⟩
  unfold wrPart
  split
  · exact ((((((((h.app (TextOk.line 60 hn s0)).app o1).ended.app (TextOk.line 124 hn s1)).app o2).ended.app (TextOk.line 61 hn ⟨#[]⟩)).app o3).ended.app (TextOk.line 62 hn s2))).mono (by omega)
  · split
    · exact (h.app o0).mono (by omega)
    · exact (h.app o0).ended.mono (by omega)
theorem wrAll_ok {n : Nat} (hn : n ≤ 1000) (s0 s1 s2 : ByteArray) : ∀ (ps : List Pt) (b : Nat) (acc : List Int), TextOk b acc → (∀ p ∈ ps, (p.text.length ≤ 500 ∧ p.s0.length ≤ 500 ∧ p.s1.length ≤ 500 ∧ p.s2.length ≤ 500) ∧ ptOk p) → TextOk (b + ps.length * 10000) (wrAll n s0 s1 s2 ps acc)
  | [], b, acc, h, _ => by simpa [wrAll] using h
  | p :: r, b, acc, h, hp => by
    have h1 := wrAll_ok hn s0 s1 s2 r _ _ (wrPart_ok hn s0 s1 s2 r.isEmpty h (hp p List.mem_cons_self)) (fun q hq => hp q (List.mem_cons_of_mem _ hq))
    exact h1.mono (by simp only [List.length_cons]; omega)
theorem text_ok {N : Int} (h1 : 1 ≤ N) (h2 : N ≤ 1000) (s0 s1 s2 : ByteArray) {qs : List Pt} (h : Sm qs) : TextOk 200000 (wrAll N.toNat s0 s1 s2 qs []) :=
  (wrAll_ok (by omega) s0 s1 s2 qs 0 [] ⟨Nat.le_refl _, by simp⟩ h.2).mono (by have := h.1; omega)
end Go.Proofs.YtnnnbeimehfiiaaDoor.Q
-- Written by a program of this session (wip/gen_back.py) for this claim; Lean checks it.
/-! MarkBack, walked: it answers true. -/
set_option linter.unusedVariables false
set_option linter.unusedSimpArgs false
namespace Go.Proofs.YtnnnbeimehfiiaaDoor.Q
open Go Go.RowKit Go.Proofs.YtnnnbeimehfiiaaDoorW.PrintWords Go.Proofs.YtnnnbeimehfiiaaDoorW.PrintLast Go.Proofs.YtnnnbeimehfiiaaDoorW.PrintMore Go.Proofs.YtnnnbeimehfiiaaDoorW.SL
attribute [local go_sem] max2_int min2_int max_two min_two max_three min_three max_four min_four
def mbk.T4 : Bool × List (List Nat × List Nat) := (true, [([], []), ([], []), ([1], [1]), ([2], [2]), ([], []), ([4], [4]), ([5], [5]), ([6], [6]), ([7], [7]), ([3, 8], [3, 8]), ([0, 0, 1, 2, 3, 4, 5, 6, 7, 8, 9], [0]), ([10, 9, 0, 1, 2, 3, 4, 5, 6, 7, 8, 9], [9, 10])])
def mbk.B4 : List Nat := [0, 0, 2, 6, 0, 16, 48, 112, 240, 510, 1023, 2047]
theorem mbk.tab4 : rtab .any (opsOf Tryd.f5 4) = mbk.T4 := by kernel_rfl
theorem mbk.bits4 : waitsOk mbk.T4.2 mbk.B4 = true := by kernel_rfl
def mbk.T11 : Bool × List (List Nat × List Nat) := (true, [([], []), ([], []), ([], []), ([1, 2], [1, 2]), ([3], [3]), ([4], [4]), ([5], [5]), ([], []), ([], []), ([7, 8], [7, 8]), ([9], [9]), ([10], [10]), ([11], [11]), ([], []), ([], []), ([13, 14], [13, 14]), ([15], [15]), ([16], [16]), ([17], [17]), ([6, 12, 18], [6, 12, 18]), ([0, 19], [0, 19]), ([20, 20, 0, 1, 2, 3, 4, 5, 6, 7, 8, 9, 10, 11, 12, 13, 14, 15, 16, 17, 18, 19, 20], [0, 20])])
def mbk.B11 : List Nat := [0, 0, 0, 6, 14, 30, 62, 0, 0, 384, 896, 1920, 3968, 0, 0, 24576, 57344, 122880, 253952, 524286, 1048575, 2097151]
theorem mbk.tab11 : rtab .any (opsOf Tryd.f5 11) = mbk.T11 := by kernel_rfl
theorem mbk.bits11 : waitsOk mbk.T11.2 mbk.B11 = true := by kernel_rfl
set_option maxHeartbeats 16000000 in
set_option maxRecDepth 100000 in
theorem back_calls (least : Int) (s0 s1 s2 : ByteArray) (A : Option Addr) (c : Nat) (ps : List Pt) (w : World) (hr : Kd.C kP w A ps.length ps) (hc : ps.length ≤ c) (hok : ∀ p ∈ ps, ptOk p) :
    Calls Tryd.prog 5 #[.int .i64 least, .agg #[.string s0, .string s1, .string s2], .slice A ps.length c] w fun e w' => e = .returned (.bool true) ∧ Below w.heap.size w w' := by
  have hF0 : ∀ a ∈ [rdV kP A c ps], a.P w (fun k => k < w.heap.size) := by
    intro a ha; rw [List.mem_singleton] at ha; subst ha
    exact ⟨hc, Kd.C_F kP_heap hr⟩
  have S0 := Aside0.mk ((Stt.start w hF0).box (g := w.heap.size) (t := 39) (cs := #[.string s0, .string s1, .string s2]) rfl (heap_alloc_new w _) (below_alloc (Below.refl _ _) _))
  have HOK := Aside0.mk hok
  clear hF0 hr hc hok
  obtain ⟨m0, hm0⟩ : ∃ m, min s0.size 1000 = m := ⟨_, rfl⟩
  obtain ⟨m1, hm1⟩ : ∃ m, min s1.size 1000 = m := ⟨_, rfl⟩
  obtain ⟨m2, hm2⟩ : ∃ m, min s2.size 1000 = m := ⟨_, rfl⟩
  obtain ⟨t0, ht0⟩ : ∃ t, s0.extract 0 m0 = t := ⟨_, rfl⟩
  obtain ⟨t1, ht1⟩ : ∃ t, s1.extract 0 m1 = t := ⟨_, rfl⟩
  obtain ⟨t2, ht2⟩ : ∃ t, s2.extract 0 m2 = t := ⟨_, rfl⟩
  have hts : t0.size ≤ 1000 ∧ t1.size ≤ 1000 ∧ t2.size ≤ 1000 := by rw [← ht0, ← ht1, ← ht2]; simp; omega
  have hq0 := mn1000 s0
  have hq1 := mn1000 s1
  have hq2 := mn1000 s2
  rw [hm0] at hq0; rw [hm1] at hq1; rw [hm2] at hq2
  have hm := (⟨hm0, hm1, hm2⟩ : _ ∧ _ ∧ _)
  replace hm := Aside0.mk hm
  replace hts := Aside0.mk hts
  have HT := Aside0.mk (⟨hq0, hq1, hq2, ht0, ht1, ht2⟩ : _ ∧ _ ∧ _ ∧ _ ∧ _ ∧ _)
  clear hm0 hm1 hm2 hq0 hq1 hq2 ht0 ht1 ht2
  go_enter Tryd.func5, Tryd.ntmps5
  go_wp2
  go_loopg [7] 3 (fun kq v7 W => ∃ (ii : Int) (i : Nat), v7 = .int .i64 ii ∧ Aside0 (ii = (i : Int)) ∧ Aside0 (i ≤ 3 ∧ kq = 3 - i) ∧ Aside0 (Stt w (fun k => k < w.heap.size) [blk w.heap.size 39 (lab3 s0 s1 s2 t0 t1 t2 i)] [rdV kP A c ps] W))
  case atStart => exact ⟨0, 0, rfl, ⟨rfl⟩, ⟨by omega, rfl⟩, S0⟩
  case round =>
    clear S0
    obtain ⟨ii, i, rfl, hii, hi, S⟩ := hrel
    obtain ⟨wb, rfl⟩ : ∃ q, q = wr := ⟨_, rfl⟩
    obtain h3 | hk3 : i = 3 ∨ i < 3 := by have := hi.out.1; omega
    · subst h3
      obtain rfl : ii = 3 := hii.out
      replace S : Aside0 (Stt w (fun k => k < w.heap.size) [blk w.heap.size 39 #[.string t0, .string t1, .string t2]] [rdV kP A c ps] wb) := S
      clear hi hii HT hm
      obtain ⟨qs, hqe⟩ : ∃ qs, fewOf ps = qs := ⟨_, rfl⟩
      have few_calls := fun W hC hc => few_calls A c ps W hC hc
      have hSm := few_Sm HOK.out
      rw [hqe] at hSm
      simp only [hqe] at few_calls
      clear hqe
      obtain ⟨n0, hn0⟩ : ∃ n, (if 1 ≤ least ∧ least ≤ 1000 then least else 7) = n := ⟨_, rfl⟩
      have hn1 : 1 ≤ n0 ∧ n0 ≤ 1000 := by rw [← hn0]; split <;> omega
      have hlen := lenAll_in hn1.1 hn1.2 (allB_ok hSm)
      have hgd := goodB hn1.1 qs
      obtain ⟨kL, hkL⟩ := (length_ev least (allB qs) (by have := allB_len qs; have := hSm.1; omega) (fun r hr => by have := allB_ok hSm r hr; exact ⟨by have := this.1; omega, this.2⟩)).has
      rw [hn0] at hkL
      obtain ⟨LN, hLN⟩ : ∃ L, lenAll n0 (allB qs) = L := ⟨_, rfl⟩
      rw [hLN] at hlen hgd hkL
      have hrb := read_back hlen.1 (by omega) t0 t1 t2 qs hgd
      have htx := text_ok hlen.1 hlen.2 t0 t1 t2 hSm
      obtain ⟨tx, htxe⟩ : ∃ t, wrAll LN.toNat t0 t1 t2 qs [] = t := ⟨_, rfl⟩
      rw [htxe] at hrb htx
      obtain ⟨js, hjs⟩ : ∃ j, jAll qs [] = j := ⟨_, rfl⟩
      have hjs2 := joined_small hSm.1 (fun p hp => (hSm.2 p hp).1)
      rw [hjs] at hrb hjs2
      have hW := fun A c W hC hc => Write_calls LN t0 t1 t2 A c qs W hC hc (by have := hSm.1; omega) (fun p hp => by have := (hSm.2 p hp).1; omega) (by have := hts.out; omega) (by have := hts.out; omega) (by have := hts.out; omega)
      have hRD := fun A c W hC hc => read_calls LN A c tx W hC hc htx.2 (by have := htx.1; omega)
      have hJN := fun A c W hC hc => joined_calls A c qs W hC hc hSm.1 (fun p hp => (hSm.2 p hp).1)
      simp only [hrb.1] at hW
      simp only [hrb.2] at hRD
      simp only [hjs] at hJN
      replace hW := Aside0.mk hW
      replace hRD := Aside0.mk hRD
      replace hJN := Aside0.mk hJN
      have HSM := Aside0.mk hSm; have HJS := Aside0.mk hjs2; have HTX := Aside0.mk htx; have HRB := Aside0.mk hrb
      replace hkL := Aside0.mk hkL
      replace hlen := Aside0.mk hlen
      replace hjs := Aside0.mk hjs
      have HFC := Aside0.mk few_calls
      clear few_calls hSm hn0 hn1 hgd hLN hrb htx htxe hjs2 HOK
      go_upto_region 6 with (go_at_call 18; refine (HFC.out _ (S.out.rdC 0 rfl) (S.out.rdL 0 rfl)).mono ?_; rintro e_ w4 ⟨AP, cP, AQ, cQ, rfl, hc1_, hC1_, hc2_, hC2_, hb_⟩; have G1 := Aside0.mk (⟨⟨hC1_, hc1_⟩, ⟨hC2_, hc2_⟩, S.out.keep hb_⟩ : (_ ∧ _) ∧ (_ ∧ _) ∧ _); clear hc1_ hC1_ hc2_ hC2_ hb_ S)
      have hAl0 : Aside0 (AlI w4 [rdV kP AQ cQ qs] [] (.slice none 0 0) w4) := ⟨AlI.start (Stt.start w4 (by
        intro a ha; rw [List.mem_singleton] at ha; subst ha
        exact ⟨G1.out.2.1.2, Kd.C_F kP_heap G1.out.2.1.1⟩))⟩
      go_wp2
      go_loopg [10, 11] qs.length (fun kq v10 v11 W => ∃ (ii : Int) (i : Nat), v11 = .int .i64 ii ∧ Aside0 (ii = (i : Int)) ∧ i ≤ qs.length ∧ kq = qs.length - i ∧ Aside0 (AlI w4 [rdV kP AQ cQ qs] (allB (qs.take i)) v10 W))
      case atStart => exact ⟨0, 0, rfl, ⟨rfl⟩, Nat.zero_le _, rfl, hAl0⟩
      case round =>
        clear hAl0
        obtain ⟨ii, i, rfl, hii, hi, hgk, hI⟩ := hrel
        obtain ⟨wb, rfl⟩ : ∃ q, q = wr := ⟨_, rfl⟩
        obtain ⟨lo, hlo⟩ : ∃ n, (allB (qs.take i)).length = n := ⟨_, rfl⟩
        have hlo2 : lo ≤ 60 := by
          have h1 := allB_len (qs.take i); have h2 := HSM.out.1
          rw [List.length_take] at h1
          omega
        obtain ⟨Ao, co, eo⟩ := hI.out.form
        rw [hlo] at eo
        subst eo
        have HLO := Aside0.mk hlo2
        by_cases hin : ii < (qs.length : Int)
        · have p0 : 0 ≤ ii := by have := hii.out; omega
          have e0 : ii.toNat = i := by have := hii.out; omega
          have hw1 : wrap64 (ii + 1) = ii + 1 := by have := hii.out; have := HSM.out.1; unfold wrap64; omega
          obtain ⟨ad, x, A1, c1, A2, c2, A3, c3, A4, c4, rfl, hxi, hx0, hx1, hx2, hx3, hx4, hPF⟩ := hI.out.part ii p0 hin
          rw [e0] at hxi
          have htk := allB_take hxi
          have hinb := eq_true hin
          have p0b := eq_true p0
          have HI := Aside0.mk (⟨hi, hgk⟩ : _ ∧ _)
          replace e0 := Aside0.mk e0
          obtain ⟨rg, T, X0, X1, X2⟩ := x
          simp only at hx0 hx1 hx2 hx3 hx4 hPF
          clear hi hgk hlo2 hxi
          cases rg with
          | true =>
            replace htk : allB (qs.take (i + 1)) = allB (qs.take i) ++ [X0, X1, X2] := htk
            obtain ⟨cells, ho1, ho2, hpush⟩ := (hI.out.keep (below_drew1 (Below.refl wb.heap.size wb))).push [X0, X1, X2] [.slice A2 X0.length c2, .slice A3 X1.length c3, .slice A4 X2.length c4] (n := 3) rfl (by decide) (by simp only [maxLen]; omega) (fun Z' hZ' => by have q := hPF Z' (fun a ha => a.step (hZ' a ha) (fun _ _ _ => rfl) (fun _ h => h)); exact (klF _ _).step (w := wb) (Z := Z') (klF_cons q.2.1 (klF_cons q.2.2.1 (klF_cons q.2.2.2 klF_nil))) (fun _ _ _ => rfl) (fun _ h => h))
            rw [hlo] at ho1 hpush
            rw [← htk] at hpush
            replace htk := Aside0.mk htk
            replace hlo := Aside0.mk hlo
            have HP := Aside0.mk (⟨ho1, ho2, hpush⟩ : _ ∧ _ ∧ _)
            clear ho1 ho2 hpush hPF hI
            go_upto_region 11 with (fail)
            replace hx1 : wb.drew.cell? _ = _ := hx1
            replace hx2 : wb.drew.cell? _ = _ := hx2
            replace hx3 : wb.drew.cell? _ = _ := hx3
            replace hx4 : wb.drew.cell? _ = _ := hx4
            clear hx0
            try go_wp2
            have E0 := trivial
            refine start_ (n := 22) (S := fun w' => True) (ds := []) #[false, false, false, false, false, false, false, false, false, false, false, false, false, false, false, false, false, false, false, false, false, false] (by kernel_rfl) rfl rfl trivial (fun hHeld => ?_)
            refine with_tabW mbk.tab11 mbk.bits11 (fun HT_ HW_ => ?_)
            have E0 := trivial
            generalize wb.drew = wd at hx1 hx2 hx3 hx4 HP hHeld ⊢
            refine pure_ (i := 0) (N := some 48) (v := ?_) (a' := ?_) #[true, false, false, false, false, false, false, false, false, false, false, false, false, false, false, false, false, false, false, false, false, false] rfl rfl (any_of HT_.out (by kernel_rfl)) (fun _ _ _ h => h) (Or.inl ⟨by rfl, ?_⟩) ?_ ?_
            rotate_left
            · intro w'
              go_simp
              with_reducible rfl
            rotate_left
            · simp only [Act.put, List.setIfInBounds_toArray, List.set_cons_zero, List.set_cons_succ, i64_w, i32_w]
              rfl
            refine pure_ (i := 1) (N := some 49) (v := ?_) (a' := ?_) #[true, true, false, false, false, false, false, false, false, false, false, false, false, false, false, false, false, false, false, false, false, false] rfl rfl (any_of HT_.out (by kernel_rfl)) (fun _ _ _ h => h) (Or.inl ⟨by rfl, ?_⟩) ?_ ?_
            rotate_left
            · intro w'
              go_simp
              with_reducible rfl
            rotate_left
            · simp only [Act.put, List.setIfInBounds_toArray, List.set_cons_zero, List.set_cons_succ, i64_w, i32_w]
              rfl
            refine pure_ (i := 2) (N := some 50) (v := ?_) (a' := ?_) #[true, true, true, false, false, false, false, false, false, false, false, false, false, false, false, false, false, false, false, false, false, false] rfl rfl (any_of HT_.out (by kernel_rfl)) (fun _ _ _ h => h) (Or.inl ⟨by rfl, ?_⟩) ?_ ?_
            rotate_left
            · intro w'
              go_simp
              with_reducible rfl
            rotate_left
            · simp only [Act.put, List.setIfInBounds_toArray, List.set_cons_zero, List.set_cons_succ, i64_w, i32_w]
              rfl
            refine pure_ (i := 3) (N := some 51) (v := ?_) (a' := ?_) #[true, true, true, true, false, false, false, false, false, false, false, false, false, false, false, false, false, false, false, false, false, false] rfl rfl (any_of HT_.out (by kernel_rfl)) (fun _ _ _ h => h) (Or.inl ⟨by rfl, ?_⟩) ?_ ?_
            rotate_left
            · intro w'
              go_simp
              with_reducible rfl
            rotate_left
            · simp only [Act.put, List.setIfInBounds_toArray, List.set_cons_zero, List.set_cons_succ, i64_w, i32_w]
              rfl
            refine pure_ (i := 4) (N := some 52) (v := ?_) (a' := ?_) #[true, true, true, true, true, false, false, false, false, false, false, false, false, false, false, false, false, false, false, false, false, false] rfl rfl (any_of HT_.out (by kernel_rfl)) (fun _ _ _ h => h) (Or.inl ⟨by rfl, ?_⟩) ?_ ?_
            rotate_left
            · intro w'
              go_simp
              with_reducible rfl
            rotate_left
            · simp only [Act.put, List.setIfInBounds_toArray, List.set_cons_zero, List.set_cons_succ, i64_w, i32_w]
              rfl
            refine pure_ (i := 5) (N := some 53) (v := ?_) (a' := ?_) #[true, true, true, true, true, true, false, false, false, false, false, false, false, false, false, false, false, false, false, false, false, false] rfl rfl (any_of HT_.out (by kernel_rfl)) (fun _ _ _ h => h) (Or.inl ⟨by rfl, ?_⟩) ?_ ?_
            rotate_left
            · intro w'
              go_simp
              with_reducible rfl
            rotate_left
            · simp only [Act.put, List.setIfInBounds_toArray, List.set_cons_zero, List.set_cons_succ, i64_w, i32_w]
              rfl
            refine pure_ (i := 7) (N := some 55) (v := ?_) (a' := ?_) #[true, true, true, true, true, true, false, true, false, false, false, false, false, false, false, false, false, false, false, false, false, false] rfl rfl (any_of HT_.out (by kernel_rfl)) (fun _ _ _ h => h) (Or.inl ⟨by rfl, ?_⟩) ?_ ?_
            rotate_left
            · intro w'
              go_simp
              with_reducible rfl
            rotate_left
            · simp only [Act.put, List.setIfInBounds_toArray, List.set_cons_zero, List.set_cons_succ, i64_w, i32_w]
              rfl
            refine pure_ (i := 8) (N := some 56) (v := ?_) (a' := ?_) #[true, true, true, true, true, true, false, true, true, false, false, false, false, false, false, false, false, false, false, false, false, false] rfl rfl (any_of HT_.out (by kernel_rfl)) (fun _ _ _ h => h) (Or.inl ⟨by rfl, ?_⟩) ?_ ?_
            rotate_left
            · intro w'
              go_simp
              with_reducible rfl
            rotate_left
            · simp only [Act.put, List.setIfInBounds_toArray, List.set_cons_zero, List.set_cons_succ, i64_w, i32_w]
              rfl
            refine pure_ (i := 9) (N := some 57) (v := ?_) (a' := ?_) #[true, true, true, true, true, true, false, true, true, true, false, false, false, false, false, false, false, false, false, false, false, false] rfl rfl (any_of HT_.out (by kernel_rfl)) (fun _ _ _ h => h) (Or.inl ⟨by rfl, ?_⟩) ?_ ?_
            rotate_left
            · intro w'
              go_simp
              with_reducible rfl
            rotate_left
            · simp only [Act.put, List.setIfInBounds_toArray, List.set_cons_zero, List.set_cons_succ, i64_w, i32_w]
              rfl
            refine pure_ (i := 10) (N := some 58) (v := ?_) (a' := ?_) #[true, true, true, true, true, true, false, true, true, true, true, false, false, false, false, false, false, false, false, false, false, false] rfl rfl (any_of HT_.out (by kernel_rfl)) (fun _ _ _ h => h) (Or.inl ⟨by rfl, ?_⟩) ?_ ?_
            rotate_left
            · intro w'
              go_simp
              with_reducible rfl
            rotate_left
            · simp only [Act.put, List.setIfInBounds_toArray, List.set_cons_zero, List.set_cons_succ, i64_w, i32_w]
              rfl
            refine pure_ (i := 11) (N := some 59) (v := ?_) (a' := ?_) #[true, true, true, true, true, true, false, true, true, true, true, true, false, false, false, false, false, false, false, false, false, false] rfl rfl (any_of HT_.out (by kernel_rfl)) (fun _ _ _ h => h) (Or.inl ⟨by rfl, ?_⟩) ?_ ?_
            rotate_left
            · intro w'
              go_simp
              with_reducible rfl
            rotate_left
            · simp only [Act.put, List.setIfInBounds_toArray, List.set_cons_zero, List.set_cons_succ, i64_w, i32_w]
              rfl
            refine pure_ (i := 13) (N := some 61) (v := ?_) (a' := ?_) #[true, true, true, true, true, true, false, true, true, true, true, true, false, true, false, false, false, false, false, false, false, false] rfl rfl (any_of HT_.out (by kernel_rfl)) (fun _ _ _ h => h) (Or.inl ⟨by rfl, ?_⟩) ?_ ?_
            rotate_left
            · intro w'
              go_simp
              with_reducible rfl
            rotate_left
            · simp only [Act.put, List.setIfInBounds_toArray, List.set_cons_zero, List.set_cons_succ, i64_w, i32_w]
              rfl
            refine pure_ (i := 14) (N := some 62) (v := ?_) (a' := ?_) #[true, true, true, true, true, true, false, true, true, true, true, true, false, true, true, false, false, false, false, false, false, false] rfl rfl (any_of HT_.out (by kernel_rfl)) (fun _ _ _ h => h) (Or.inl ⟨by rfl, ?_⟩) ?_ ?_
            rotate_left
            · intro w'
              go_simp
              with_reducible rfl
            rotate_left
            · simp only [Act.put, List.setIfInBounds_toArray, List.set_cons_zero, List.set_cons_succ, i64_w, i32_w]
              rfl
            refine pure_ (i := 15) (N := some 63) (v := ?_) (a' := ?_) #[true, true, true, true, true, true, false, true, true, true, true, true, false, true, true, true, false, false, false, false, false, false] rfl rfl (any_of HT_.out (by kernel_rfl)) (fun _ _ _ h => h) (Or.inl ⟨by rfl, ?_⟩) ?_ ?_
            rotate_left
            · intro w'
              go_simp
              with_reducible rfl
            rotate_left
            · simp only [Act.put, List.setIfInBounds_toArray, List.set_cons_zero, List.set_cons_succ, i64_w, i32_w]
              rfl
            refine pure_ (i := 16) (N := some 64) (v := ?_) (a' := ?_) #[true, true, true, true, true, true, false, true, true, true, true, true, false, true, true, true, true, false, false, false, false, false] rfl rfl (any_of HT_.out (by kernel_rfl)) (fun _ _ _ h => h) (Or.inl ⟨by rfl, ?_⟩) ?_ ?_
            rotate_left
            · intro w'
              go_simp
              with_reducible rfl
            rotate_left
            · simp only [Act.put, List.setIfInBounds_toArray, List.set_cons_zero, List.set_cons_succ, i64_w, i32_w]
              rfl
            refine pure_ (i := 17) (N := some 65) (v := ?_) (a' := ?_) #[true, true, true, true, true, true, false, true, true, true, true, true, false, true, true, true, true, true, false, false, false, false] rfl rfl (any_of HT_.out (by kernel_rfl)) (fun _ _ _ h => h) (Or.inl ⟨by rfl, ?_⟩) ?_ ?_
            rotate_left
            · intro w'
              go_simp
              with_reducible rfl
            rotate_left
            · simp only [Act.put, List.setIfInBounds_toArray, List.set_cons_zero, List.set_cons_succ, i64_w, i32_w]
              rfl
            refine inv_at [6, 12, 18, 19, 20, 21] (fun a0_ b a w' => ∃ (vv : Value) (m21_ : Value), a = putSel a0_ b [(6, 54, .slice A2 X0.length c2), (12, 60, .slice A3 X1.length c3), (18, 66, .slice A4 X2.length c4), (19, 67, .slice (some ⟨wd.heap.size, 0, none⟩) 3 3), (20, 68, vv), (21, 10, m21_)] ∧ (b 19 = false → w' = wd) ∧ (b 19 = true → b 20 = false → w' = (wd.alloc (.cells #[.slice A2 X0.length c2, .slice A3 X1.length c3, .slice A4 X2.length c4] 22))) ∧ (b 20 = true → AlI w4 [rdV kP (some ad) cQ qs] (allB (qs.take (i + 1))) vv w') ∧ (b 21 = true → (m21_ : Value) = vv)) HT_.out HW_.out (by kernel_rfl) (by kernel_rfl) ?_ ?_ ?_
            · exact ⟨.bool false, .bool false, by simp only [putSel, Bool.false_eq_true, if_false], fun _ => rfl, fun h_ => absurd h_ (by decide), fun h_ => absurd h_ (by decide), fun h_ => absurd h_ (by decide)⟩
            · skip
              clear E0
              refine steps_cons ?_ ?_
              · rintro b a w' ⟨vv, m21_, ha, Q_E0, Q_E1, Q_E2, Q_X21_⟩ hb_ hon hoff
                refine ⟨_, rfl, fun K hK => ?_⟩
                have e53 : a.tmps[53]? = some (.pointer (some ⟨(ad.add (ii.toNat * 5)).block, (ad.add (ii.toNat * 5)).off + 2, none⟩)) := by rw [ha]; exact (putSel_off rfl).trans rfl
                replace ha := Aside0.mk ha
                have E0 := Aside0.mk (Q_E0 (hoff 19 (by kernel_rfl)))
                have hw_ := E0.out
                have hc_ := hx2
                rw [← hw_] at hc_
                refine value_ (w1 := w') (v := .slice A2 X0.length c2) (by rfl) rfl ?_ ?_
                · go_simp
                  (try simp only [i64_w])
                  try rfl
                refine hK.out _ _ ⟨vv, m21_, (by rw [ha.out]; exact putSel_upk 0 hb_ rfl rfl rfl), Q_E0, fun h0_ _ => absurd ((hoff 19 (by kernel_rfl)).symm.trans h0_) (by decide), fun h0_ => absurd ((hoff 20 (by kernel_rfl)).symm.trans h0_) (by decide), fun h0_ => absurd ((hoff 21 (by kernel_rfl)).symm.trans h0_) (by decide)⟩
              refine steps_cons ?_ ?_
              · rintro b a w' ⟨vv, m21_, ha, Q_E0, Q_E1, Q_E2, Q_X21_⟩ hb_ hon hoff
                refine ⟨_, rfl, fun K hK => ?_⟩
                have e59 : a.tmps[59]? = some (.pointer (some ⟨(ad.add (ii.toNat * 5)).block, (ad.add (ii.toNat * 5)).off + 3, none⟩)) := by rw [ha]; exact (putSel_off rfl).trans rfl
                replace ha := Aside0.mk ha
                have E0 := Aside0.mk (Q_E0 (hoff 19 (by kernel_rfl)))
                have hw_ := E0.out
                have hc_ := hx3
                rw [← hw_] at hc_
                refine value_ (w1 := w') (v := .slice A3 X1.length c3) (by rfl) rfl ?_ ?_
                · go_simp
                  (try simp only [i64_w])
                  try rfl
                refine hK.out _ _ ⟨vv, m21_, (by rw [ha.out]; exact putSel_upk 1 hb_ rfl rfl rfl), Q_E0, fun h0_ _ => absurd ((hoff 19 (by kernel_rfl)).symm.trans h0_) (by decide), fun h0_ => absurd ((hoff 20 (by kernel_rfl)).symm.trans h0_) (by decide), fun h0_ => absurd ((hoff 21 (by kernel_rfl)).symm.trans h0_) (by decide)⟩
              refine steps_cons ?_ ?_
              · rintro b a w' ⟨vv, m21_, ha, Q_E0, Q_E1, Q_E2, Q_X21_⟩ hb_ hon hoff
                refine ⟨_, rfl, fun K hK => ?_⟩
                have e65 : a.tmps[65]? = some (.pointer (some ⟨(ad.add (ii.toNat * 5)).block, (ad.add (ii.toNat * 5)).off + 4, none⟩)) := by rw [ha]; exact (putSel_off rfl).trans rfl
                replace ha := Aside0.mk ha
                have E0 := Aside0.mk (Q_E0 (hoff 19 (by kernel_rfl)))
                have hw_ := E0.out
                have hc_ := hx4
                rw [← hw_] at hc_
                refine value_ (w1 := w') (v := .slice A4 X2.length c4) (by rfl) rfl ?_ ?_
                · go_simp
                  (try simp only [i64_w])
                  try rfl
                refine hK.out _ _ ⟨vv, m21_, (by rw [ha.out]; exact putSel_upk 2 hb_ rfl rfl rfl), Q_E0, fun h0_ _ => absurd ((hoff 19 (by kernel_rfl)).symm.trans h0_) (by decide), fun h0_ => absurd ((hoff 20 (by kernel_rfl)).symm.trans h0_) (by decide), fun h0_ => absurd ((hoff 21 (by kernel_rfl)).symm.trans h0_) (by decide)⟩
              refine steps_cons ?_ ?_
              · rintro b a w' ⟨vv, m21_, ha, Q_E0, Q_E1, Q_E2, Q_X21_⟩ hb_ hon hoff
                refine ⟨_, rfl, fun K hK => ?_⟩
                have e54 : a.tmps[54]? = some (.slice A2 X0.length c2) := by rw [ha]; exact putSel_on (e := (6, 54, .slice A2 X0.length c2)) 0 rfl rfl (hon 6 (by kernel_rfl)) rfl
                have e60 : a.tmps[60]? = some (.slice A3 X1.length c3) := by rw [ha]; exact putSel_on (e := (12, 60, .slice A3 X1.length c3)) 1 rfl rfl (hon 12 (by kernel_rfl)) rfl
                have e66 : a.tmps[66]? = some (.slice A4 X2.length c4) := by rw [ha]; exact putSel_on (e := (18, 66, .slice A4 X2.length c4)) 2 rfl rfl (hon 18 (by kernel_rfl)) rfl
                replace ha := Aside0.mk ha
                have E0 := Aside0.mk (Q_E0 hb_)
                have hw_ := E0.out
                refine value_ (w1 := (wd.alloc (.cells #[.slice A2 X0.length c2, .slice A3 X1.length c3, .slice A4 X2.length c4] 22))) (v := .slice (some ⟨wd.heap.size, 0, none⟩) 3 3) (by rfl) rfl ?_ ?_
                · rw [← hw_]
                  go_simp
                  try rfl
                refine hK.out _ _ ⟨vv, m21_, (by rw [ha.out]; exact putSel_upk 3 hb_ rfl rfl rfl), fun h0_ => absurd ((up_self b 19).symm.trans h0_) (by decide), fun _ _ => rfl, fun h0_ => absurd ((hoff 20 (by kernel_rfl)).symm.trans h0_) (by decide), fun h0_ => absurd ((hoff 21 (by kernel_rfl)).symm.trans h0_) (by decide)⟩
              refine steps_cons ?_ ?_
              · rintro b a w' ⟨vv, m21_, ha, Q_E0, Q_E1, Q_E2, Q_X21_⟩ hb_ hon hoff
                refine ⟨_, rfl, fun K hK => ?_⟩
                have e48 : a.tmps[48]? = some (.slice Ao lo co) := by rw [ha]; exact (putSel_off rfl).trans rfl
                have e67 : a.tmps[67]? = some (.slice (some ⟨wd.heap.size, 0, none⟩) 3 3) := by rw [ha]; exact putSel_on (e := (19, 67, .slice (some ⟨wd.heap.size, 0, none⟩) 3 3)) 3 rfl rfl (hon 19 (by kernel_rfl)) rfl
                replace ha := Aside0.mk ha
                have E1 := Aside0.mk (Q_E1 (hon 19 (by kernel_rfl)) hb_)
                have hw_ := E1.out
                refine app_steps (by rfl) (.tmp 48) (.tmp 67) 34 22 (.slice none 0 0) 1 24 3 (by decide) rfl Tryd.underlying34 infL22 rfl (by decide) (by decide) (.slice Ao lo co) (.slice (some ⟨wd.heap.size, 0, none⟩) 3 3) lo cells [Value.slice A2 X0.length c2, Value.slice A3 X1.length c3, Value.slice A4 X2.length c4] (eval_of e48) (eval_of e67) (by simp [Value.oneCell']) (hw_ ▸ HP.out.1) (hw_ ▸ HP.out.2.1) (by have := HLO.out; omega) ?_
                intro v1 w1 ho hg hat
                have S3_ := HP.out.2.2 w1 v1 ho (hw_ ▸ hg) (hw_ ▸ hat)
                refine hK.out _ _ ⟨v1, m21_, (by rw [ha.out]; exact putSel_upk 4 hb_ rfl rfl rfl), fun h0_ => absurd ((hon 19 (by kernel_rfl)).symm.trans h0_) (by decide), fun _ h1_ => absurd ((up_self b 20).symm.trans h1_) (by decide), fun _ => S3_, fun h0_ => absurd ((hoff 21 (by kernel_rfl)).symm.trans h0_) (by decide)⟩
              refine steps_cons ?_ ?_
              · rintro b a w' ⟨vv, m21_, ha, Q_E0, Q_E1, Q_E2, Q_X21_⟩ hb_ hon hoff
                refine ⟨_, rfl, fun K hK => ?_⟩
                have e68 : a.tmps[68]? = some (vv) := by rw [ha]; exact putSel_on (e := (20, 68, vv)) 4 rfl rfl (hon 20 (by kernel_rfl)) rfl
                replace ha := Aside0.mk ha
                have E2 := Aside0.mk (Q_E2 (hon 20 (by kernel_rfl)))
                refine value_ (w1 := w') (v := vv) (by rfl) rfl ?_ ?_
                · go_simp
                  (try simp only [i64_w])
                  try rfl
                refine hK.out _ _ ⟨vv, (vv), (by rw [ha.out]; exact putSel_upk 5 hb_ rfl rfl rfl), fun h0_ => absurd ((hon 19 (by kernel_rfl)).symm.trans h0_) (by decide), fun _ h1_ => absurd ((hon 20 (by kernel_rfl)).symm.trans h1_) (by decide), Q_E2, fun _ => rfl⟩
              exact steps_nil
            · rintro b a w' hall ⟨vv, m21_, ha, Q_E0, Q_E1, Q_E2, Q_X21_⟩
              clear E0
              have hb6_ := hall 6 (by kernel_rfl)
              have hb12_ := hall 12 (by kernel_rfl)
              have hb18_ := hall 18 (by kernel_rfl)
              have hb19_ := hall 19 (by kernel_rfl)
              have hb20_ := hall 20 (by kernel_rfl)
              have hb21_ := hall 21 (by kernel_rfl)
              subst ha
              obtain rfl := Q_X21_ hb21_
              simp only [putSel, hb6_, hb12_, hb18_, hb19_, hb20_, hb21_, if_true, Act.put, List.setIfInBounds_toArray, List.set_cons_zero, List.set_cons_succ]
              clear Q_E0
              clear Q_E1
              have E2 := Aside0.mk (Q_E2 hb20_)
              clear Q_E2
              clear hall hb6_ hb12_ hb18_ hb19_ hb20_ hb21_
              obtain ⟨Aq, cq, e_q⟩ := E2.out.form
              obtain ⟨L2, hL2⟩ : ∃ n, (allB (qs.take (i + 1))).length = n := ⟨_, rfl⟩
              rw [hL2] at e_q
              subst e_q
              replace hL2 := Aside0.mk hL2
              go_wp2
              go_roundg (qs.length - (i + 1))
              case rel => exact ⟨wrap64 (ii + 1), i + 1, by first | rfl | (simp; done) | (simp [hw1]; done), ⟨by rw [hw1]; have := hii.out; omega⟩, by have := hii.out; omega, rfl, E2⟩
              case measure => have := hii.out; have := HI.out.2; omega
          | false =>
            replace htk : allB (qs.take (i + 1)) = allB (qs.take i) ++ [T] := htk
            obtain ⟨cells, ho1, ho2, hpush⟩ := hI.out.push [T] [.slice A1 T.length c1] (n := 1) rfl (by decide) (by simp only [maxLen]; omega) (fun Z' hZ' => klF_cons (hPF Z' hZ').1 klF_nil)
            rw [hlo] at ho1 hpush
            rw [← htk] at hpush
            replace htk := Aside0.mk htk
            replace hlo := Aside0.mk hlo
            have HP := Aside0.mk (⟨ho1, ho2, hpush⟩ : _ ∧ _ ∧ _)
            clear ho1 ho2 hpush hPF hI
            go_wp2_with (((with_reducible refine gate_builtin (b := .append) (xs := #[.tmp 69, .tmp 75]) rfl ?_); at_builtin; refine wpl rfl (fun K hK => app_steps (by rfl) (.tmp 69) (.tmp 75) 34 22 (.slice none 0 0) 1 24 1 (by decide) rfl Tryd.underlying34 infL22 rfl (by decide) (by decide) (.slice Ao lo co) (.slice (some ⟨wb.heap.size, 0, none⟩) 1 1) lo cells [.slice A1 T.length c1] rfl rfl (by simp [Value.oneCell']) HP.out.1 HP.out.2.1 (by have := HLO.out; omega) ?_); intro v_ w_ ho_ hg_ hat_; refine hK _ _ ?_; have E2 := Aside0.mk (HP.out.2.2 w_ v_ ho_ hg_ hat_); clear ho_ hg_ hat_ HP; obtain ⟨Aq, cq, e_q⟩ := E2.out.form; obtain ⟨L2, hL2⟩ : ∃ n, (allB (qs.take (i + 1))).length = n := ⟨_, rfl⟩; rw [hL2] at e_q; subst e_q; replace hL2 := Aside0.mk hL2))
            go_roundg (qs.length - (i + 1))
            case rel => exact ⟨wrap64 (ii + 1), i + 1, by first | rfl | (simp; done) | (simp [hw1]; done), ⟨by rw [hw1]; have := hii.out; omega⟩, by have := hii.out; omega, rfl, E2⟩
            case measure => have := hii.out; have := HI.out.2; omega
        · have hi' : i = qs.length := by have := hii.out; omega
          have hI2 := hI.out
          rw [hi', List.take_of_length_le (Nat.le_refl _)] at hI2
          obtain ⟨Al, cl, e_l, hcl, hCl⟩ := hI2.out
          have hll : (allB qs).length = lo := by rw [← hlo, hi', List.take_of_length_le (Nat.le_refl _)]
          rw [hll] at e_l hcl hCl
          injection e_l with e_l _ e_c
          subst e_l e_c
          have GL := Aside0.mk (⟨hll ▸ hcl, hll ▸ hCl, ⟨Kd.C_below G1.out.1.1 hI2.below, G1.out.1.2⟩, ⟨Kd.C_below G1.out.2.1.1 hI2.below, G1.out.2.1.2⟩, G1.out.2.2.keep hI2.below⟩ : (allB qs).length ≤ co ∧ Kd.C (Kd.slice 5 B8) wb Ao (allB qs).length (allB qs) ∧ (_ ∧ _) ∧ (_ ∧ _) ∧ _)
          rw [← hll]
          clear hi' hcl hCl hI2 hI G1 hlo hlo2 hll hgk
          go_upto_region 14 with (go_at_call 16; refine (mark_Length.calls kL least Ao co (allB qs) LN _ GL.out.2.1 GL.out.1 hkL.out).mono ?_; rintro e_ w5 ⟨rfl, hb_⟩; have G2 := Aside0.mk (⟨⟨Kd.C_below GL.out.2.2.1.1 hb_, GL.out.2.2.1.2⟩, ⟨Kd.C_below GL.out.2.2.2.1.1 hb_, GL.out.2.2.2.1.2⟩, GL.out.2.2.2.2.keep hb_⟩ : (_ ∧ _) ∧ (_ ∧ _) ∧ _); clear hb_; obtain ⟨fl0, fl1, fl2⟩ := box3 (G2.out.2.2.at_blk 0 rfl))
          go_upto_region 15 with (go_at_call 19; refine (hW.out _ _ _ G2.out.1.1 G2.out.1.2).mono ?_; rintro e_ w6 ⟨AW, cW, rfl, hc_, hC_, hb_⟩; have G3 := Aside0.mk (⟨⟨Kd.C_below G2.out.2.1.1 hb_, G2.out.2.1.2⟩, G2.out.2.2.keep hb_, hc_, hC_⟩ : (_ ∧ _) ∧ _ ∧ _ ∧ _); clear hc_ hC_ hb_ fl0 fl1 fl2)
          go_upto_region 16 with (go_at_call 9; refine (hRD.out AW cW _ G3.out.2.2.2 G3.out.2.2.1).mono ?_; rintro e_ w7 ⟨AR, cR, rfl, hc_, hC_, hb_⟩; have G4 := Aside0.mk (⟨⟨Kd.C_below G3.out.1.1 hb_, G3.out.1.2⟩, G3.out.2.1.keep hb_, hc_, hC_⟩ : (_ ∧ _) ∧ _ ∧ _ ∧ _); clear hc_ hC_ hb_)
          go_wp2_with (first | (go_at_call 11; refine (known_walk _).mono ?_; rintro e_ w8 ⟨rfl, hb_⟩; have G5 := Aside0.mk (⟨⟨Kd.C_below G4.out.1.1 hb_, G4.out.1.2⟩, G4.out.2.1.keep hb_, Kd.C_below G4.out.2.2.2 hb_⟩ : (_ ∧ _) ∧ _ ∧ _); clear hb_) | (go_at_call 13; refine (as_calls AR cR js _ G5.out.2.2 G4.out.2.2.1 (by have := HJS.out.1; omega)).mono ?_; rintro e_ w9 ⟨AS, cS, rfl, hc_, hC_, hb_⟩; have G6 := Aside0.mk (⟨⟨Kd.C_below G5.out.1.1 hb_, G5.out.1.2⟩, G5.out.2.1.keep hb_, hC_⟩ : (_ ∧ _) ∧ _ ∧ _); clear hc_ hC_ hb_) | (go_at_call 20; refine (hJN.out _ _ _ G6.out.1.1 G6.out.1.2).mono ?_; rintro e_ wj ⟨AJ, cJ, rfl, hc_, hC_, hb_⟩; have G7 := Aside0.mk (⟨G6.out.2.1.keep hb_, Kd.C_below G6.out.2.2 hb_, hC_⟩ : _ ∧ _ ∧ _); clear hc_ hC_ hb_) | (go_at_call 12; refine (same_calls AS AJ cS cJ js _ G7.out.2.1 G7.out.2.2).mono ?_; rintro e_ wz ⟨rfl, hb_⟩; have G8 := Aside0.mk (G7.out.1.keep hb_); clear hb_))
          go_ret
          exact ⟨rfl, G8.out.below⟩
    · obtain rfl | rfl | rfl : i = 0 ∨ i = 1 ∨ i = 2 := by omega
      · obtain rfl : ii = 0 := hii.out
        have SD := Aside0.mk (S.out.keep (below_drew1 (Below.refl wb.heap.size wb)))
        obtain ⟨hb0, hb1, hb2⟩ := box3 (SD.out.at_blk 0 rfl)
        have hfz : wb.drew.frozen? ⟨w.heap.size, 0, none⟩ = false := blk_frozen (SD.out.at_blk 0 rfl) 0
        have hmn := HT.out.1
        have hex := HT.out.2.2.2.1
        have hle := eq_true (show (m0 : Int) ≤ (s0.size : Int) by have := hm.out.1; omega)
        have hge := eq_true (show (0 : Int) ≤ (m0 : Int) by omega)
        go_wp2
        have E := trivial
        refine start_ (n := 12) (S := fun w' => True) (ds := []) #[false, false, false, false, false, false, false, false, false, false, false, false] (by kernel_rfl) rfl rfl trivial (fun hHeld => ?_)
        refine with_tabW mbk.tab4 mbk.bits4 (fun HT_ HW_ => ?_)
        have E := trivial
        generalize wb.drew = wd at hb0 hb1 hb2 hfz SD hHeld ⊢
        refine pure_ (i := 0) (N := some 21) (v := ?_) (a' := ?_) #[true, false, false, false, false, false, false, false, false, false, false, false] rfl rfl (any_of HT_.out (by kernel_rfl)) (fun _ _ _ h => h) (Or.inl ⟨by rfl, ?_⟩) ?_ ?_
        rotate_left
        · intro w'
          go_simp
          with_reducible rfl
        rotate_left
        · simp only [Act.put, List.setIfInBounds_toArray, List.set_cons_zero, List.set_cons_succ, i64_w, i32_w]
          rfl
        refine pure_ (i := 1) (N := some 22) (v := ?_) (a' := ?_) #[true, true, false, false, false, false, false, false, false, false, false, false] rfl rfl (any_of HT_.out (by kernel_rfl)) (fun _ _ _ h => h) (Or.inl ⟨by rfl, ?_⟩) ?_ ?_
        rotate_left
        · intro w'
          go_simp
          with_reducible rfl
        rotate_left
        · simp only [Act.put, List.setIfInBounds_toArray, List.set_cons_zero, List.set_cons_succ, i64_w, i32_w]
          rfl
        refine pure_ (i := 2) (N := some 23) (v := ?_) (a' := ?_) #[true, true, true, false, false, false, false, false, false, false, false, false] rfl rfl (any_of HT_.out (by kernel_rfl)) (fun _ _ _ h => h) (Or.inl ⟨by rfl, ?_⟩) ?_ ?_
        rotate_left
        · intro w'
          go_simp
          with_reducible rfl
        rotate_left
        · simp only [Act.put, List.setIfInBounds_toArray, List.set_cons_zero, List.set_cons_succ, i64_w, i32_w]
          rfl
        refine pure_ (i := 4) (N := some 25) (v := ?_) (a' := ?_) #[true, true, true, false, true, false, false, false, false, false, false, false] rfl rfl (any_of HT_.out (by kernel_rfl)) (fun _ _ _ h => h) (Or.inl ⟨by rfl, ?_⟩) ?_ ?_
        rotate_left
        · intro w'
          go_simp
          with_reducible rfl
        rotate_left
        · simp only [Act.put, List.setIfInBounds_toArray, List.set_cons_zero, List.set_cons_succ, i64_w, i32_w]
          rfl
        refine pure_ (i := 5) (N := some 26) (v := ?_) (a' := ?_) #[true, true, true, false, true, true, false, false, false, false, false, false] rfl rfl (any_of HT_.out (by kernel_rfl)) (fun _ _ _ h => h) (Or.inl ⟨by rfl, ?_⟩) ?_ ?_
        rotate_left
        · intro w'
          go_simp
          with_reducible rfl
        rotate_left
        · simp only [Act.put, List.setIfInBounds_toArray, List.set_cons_zero, List.set_cons_succ, i64_w, i32_w]
          rfl
        refine inv_at [3, 6, 7, 8, 9, 10, 11] (fun a0_ b a w' => a = putSel a0_ b [(3, 24, .string s0), (6, 27, .string s0), (7, 28, .int .i64 (s0.size : Int)), (8, 29, .int .i64 (m0 : Int)), (9, 30, .string t0), (10, 31, .pointer (some ⟨w.heap.size, 0, none⟩))] ∧ (b 11 = false → w' = wd) ∧ (b 11 = true → w' = wd.setCell ⟨w.heap.size, 0, none⟩ (.string t0))) HT_.out HW_.out (by kernel_rfl) (by kernel_rfl) ?_ ?_ ?_
        · exact ⟨by simp only [putSel, Bool.false_eq_true, if_false], fun _ => rfl, fun h_ => absurd h_ (by decide)⟩
        · skip
          clear E
          refine steps_cons ?_ ?_
          · rintro b a w' ⟨ha, Q_E, Q_Ef⟩ hb_ hon hoff
            refine ⟨_, rfl, fun K hK => ?_⟩
            have e23 : a.tmps[23]? = some (.pointer (some ⟨w.heap.size, 0, none⟩)) := by rw [ha]; exact (putSel_off rfl).trans rfl
            replace ha := Aside0.mk ha
            have E := Aside0.mk (Q_E (hoff 11 (by kernel_rfl)))
            have hw_ := E.out
            have hc_ := hb0
            rw [← hw_] at hc_
            refine value_ (w1 := w') (v := .string s0) (by rfl) rfl ?_ ?_
            · go_simp
              (try simp only [i64_w])
              try rfl
            refine hK.out _ _ ⟨(by rw [ha.out]; exact putSel_upk 0 hb_ rfl rfl rfl), Q_E, fun h0_ => absurd ((hoff 11 (by kernel_rfl)).symm.trans h0_) (by decide)⟩
          refine steps_cons ?_ ?_
          · rintro b a w' ⟨ha, Q_E, Q_Ef⟩ hb_ hon hoff
            refine ⟨_, rfl, fun K hK => ?_⟩
            have e26 : a.tmps[26]? = some (.pointer (some ⟨w.heap.size, 0, none⟩)) := by rw [ha]; exact (putSel_off rfl).trans rfl
            replace ha := Aside0.mk ha
            have E := Aside0.mk (Q_E (hoff 11 (by kernel_rfl)))
            have hw_ := E.out
            have hc_ := hb0
            rw [← hw_] at hc_
            refine value_ (w1 := w') (v := .string s0) (by rfl) rfl ?_ ?_
            · go_simp
              (try simp only [i64_w])
              try rfl
            refine hK.out _ _ ⟨(by rw [ha.out]; exact putSel_upk 1 hb_ rfl rfl rfl), Q_E, fun h0_ => absurd ((hoff 11 (by kernel_rfl)).symm.trans h0_) (by decide)⟩
          refine steps_cons ?_ ?_
          · rintro b a w' ⟨ha, Q_E, Q_Ef⟩ hb_ hon hoff
            refine ⟨_, rfl, fun K hK => ?_⟩
            have e27 : a.tmps[27]? = some (.string s0) := by rw [ha]; exact putSel_on (e := (6, 27, .string s0)) 1 rfl rfl (hon 6 (by kernel_rfl)) rfl
            replace ha := Aside0.mk ha
            have E := Aside0.mk (Q_E (hoff 11 (by kernel_rfl)))
            refine value_ (w1 := w') (v := .int .i64 (s0.size : Int)) (by rfl) rfl ?_ ?_
            · go_simp
              (try simp only [i64_w])
              try rfl
            refine hK.out _ _ ⟨(by rw [ha.out]; exact putSel_upk 2 hb_ rfl rfl rfl), Q_E, fun h0_ => absurd ((hoff 11 (by kernel_rfl)).symm.trans h0_) (by decide)⟩
          refine steps_cons ?_ ?_
          · rintro b a w' ⟨ha, Q_E, Q_Ef⟩ hb_ hon hoff
            refine ⟨_, rfl, fun K hK => ?_⟩
            have e28 : a.tmps[28]? = some (.int .i64 (s0.size : Int)) := by rw [ha]; exact putSel_on (e := (7, 28, .int .i64 (s0.size : Int))) 2 rfl rfl (hon 7 (by kernel_rfl)) rfl
            replace ha := Aside0.mk ha
            have E := Aside0.mk (Q_E (hoff 11 (by kernel_rfl)))
            refine value_ (w1 := w') (v := .int .i64 (m0 : Int)) (by rfl) rfl ?_ ?_
            · go_simp
              (try simp only [i64_w])
              try rfl
            refine hK.out _ _ ⟨(by rw [ha.out]; exact putSel_upk 3 hb_ rfl rfl rfl), Q_E, fun h0_ => absurd ((hoff 11 (by kernel_rfl)).symm.trans h0_) (by decide)⟩
          refine steps_cons ?_ ?_
          · rintro b a w' ⟨ha, Q_E, Q_Ef⟩ hb_ hon hoff
            refine ⟨_, rfl, fun K hK => ?_⟩
            have e24 : a.tmps[24]? = some (.string s0) := by rw [ha]; exact putSel_on (e := (3, 24, .string s0)) 0 rfl rfl (hon 3 (by kernel_rfl)) rfl
            have e29 : a.tmps[29]? = some (.int .i64 (m0 : Int)) := by rw [ha]; exact putSel_on (e := (8, 29, .int .i64 (m0 : Int))) 3 rfl rfl (hon 8 (by kernel_rfl)) rfl
            replace ha := Aside0.mk ha
            have E := Aside0.mk (Q_E (hoff 11 (by kernel_rfl)))
            refine value_ (w1 := w') (v := .string t0) (by rfl) rfl ?_ ?_
            · go_simp
              (try simp only [i64_w])
              try rfl
            refine hK.out _ _ ⟨(by rw [ha.out]; exact putSel_upk 4 hb_ rfl rfl rfl), Q_E, fun h0_ => absurd ((hoff 11 (by kernel_rfl)).symm.trans h0_) (by decide)⟩
          refine steps_cons ?_ ?_
          · rintro b a w' ⟨ha, Q_E, Q_Ef⟩ hb_ hon hoff
            refine ⟨_, rfl, fun K hK => ?_⟩
            have e4 : a.tmps[4]? = some (.pointer (some ⟨w.heap.size, 0, none⟩)) := by rw [ha]; exact (putSel_off rfl).trans rfl
            have e21 : a.tmps[21]? = some (.int .i64 0) := by rw [ha]; exact (putSel_off rfl).trans rfl
            replace ha := Aside0.mk ha
            have E := Aside0.mk (Q_E (hoff 11 (by kernel_rfl)))
            refine value_ (w1 := w') (v := .pointer (some ⟨w.heap.size, 0, none⟩)) (by rfl) rfl ?_ ?_
            · go_simp
              (try simp only [i64_w])
              try rfl
            refine hK.out _ _ ⟨(by rw [ha.out]; exact putSel_upk 5 hb_ rfl rfl rfl), Q_E, fun h0_ => absurd ((hoff 11 (by kernel_rfl)).symm.trans h0_) (by decide)⟩
          refine steps_cons ?_ ?_
          · rintro b a w' ⟨ha, Q_E, Q_Ef⟩ hb_ hon hoff
            refine ⟨_, rfl, fun K hK => ?_⟩
            have e31 : a.tmps[31]? = some (.pointer (some ⟨w.heap.size, 0, none⟩)) := by rw [ha]; exact putSel_on (e := (10, 31, .pointer (some ⟨w.heap.size, 0, none⟩))) 5 rfl rfl (hon 10 (by kernel_rfl)) rfl
            have e30 : a.tmps[30]? = some (.string t0) := by rw [ha]; exact putSel_on (e := (9, 30, .string t0)) 4 rfl rfl (hon 9 (by kernel_rfl)) rfl
            replace ha := Aside0.mk ha
            have E := Aside0.mk (Q_E hb_)
            have hw_ := E.out
            have hc_ := hb0
            rw [← hw_] at hc_
            have hf_ := hfz
            rw [← hw_] at hf_
            refine skip_ (w1 := w'.setCell ⟨w.heap.size, 0, none⟩ (.string t0)) (by rfl) rfl ?_ ?_
            · go_simp
              try rfl
            refine hK.out _ _ ⟨(by rw [ha.out]; exact putSel_none (v := undef) rfl), fun h0_ => absurd ((up_self b 11).symm.trans h0_) (by decide), fun _ => (by rw [hw_])⟩
          exact steps_nil
        · rintro b a w' hall ⟨ha, Q_E, Q_Ef⟩
          clear E
          have hb3_ := hall 3 (by kernel_rfl)
          have hb6_ := hall 6 (by kernel_rfl)
          have hb7_ := hall 7 (by kernel_rfl)
          have hb8_ := hall 8 (by kernel_rfl)
          have hb9_ := hall 9 (by kernel_rfl)
          have hb10_ := hall 10 (by kernel_rfl)
          have hb11_ := hall 11 (by kernel_rfl)
          subst ha
          simp only [putSel, hb3_, hb6_, hb7_, hb8_, hb9_, hb10_, hb11_, if_true, Act.put, List.setIfInBounds_toArray, List.set_cons_zero, List.set_cons_succ]
          clear Q_E
          have Ef := Aside0.mk (Q_Ef hb11_)
          clear Q_Ef
          clear hall hb3_ hb6_ hb7_ hb8_ hb9_ hb10_ hb11_
          have hw_ := Ef.out
          subst hw_
          have S2 := Aside0.mk (set0S SD.out 0 (.string t0))
          clear E Ef SD hb0 hb1 hb2 hfz hmn hex hle hge
          go_wp2
          go_roundg (3 - (0 + 1))
          case rel => exact ⟨1, 1, by first | rfl | (simp; done), ⟨rfl⟩, ⟨by omega, rfl⟩, S2⟩
          case measure => have := hi.out.2; omega
      · obtain rfl : ii = 1 := hii.out
        have SD := Aside0.mk (S.out.keep (below_drew1 (Below.refl wb.heap.size wb)))
        obtain ⟨hb0, hb1, hb2⟩ := box3 (SD.out.at_blk 0 rfl)
        have hfz : wb.drew.frozen? ⟨w.heap.size, 1, none⟩ = false := blk_frozen (SD.out.at_blk 0 rfl) 1
        have hmn := HT.out.2.1
        have hex := HT.out.2.2.2.2.1
        have hle := eq_true (show (m1 : Int) ≤ (s1.size : Int) by have := hm.out.2.1; omega)
        have hge := eq_true (show (0 : Int) ≤ (m1 : Int) by omega)
        go_wp2
        have E := trivial
        refine start_ (n := 12) (S := fun w' => True) (ds := []) #[false, false, false, false, false, false, false, false, false, false, false, false] (by kernel_rfl) rfl rfl trivial (fun hHeld => ?_)
        refine with_tabW mbk.tab4 mbk.bits4 (fun HT_ HW_ => ?_)
        have E := trivial
        generalize wb.drew = wd at hb0 hb1 hb2 hfz SD hHeld ⊢
        refine pure_ (i := 0) (N := some 21) (v := ?_) (a' := ?_) #[true, false, false, false, false, false, false, false, false, false, false, false] rfl rfl (any_of HT_.out (by kernel_rfl)) (fun _ _ _ h => h) (Or.inl ⟨by rfl, ?_⟩) ?_ ?_
        rotate_left
        · intro w'
          go_simp
          with_reducible rfl
        rotate_left
        · simp only [Act.put, List.setIfInBounds_toArray, List.set_cons_zero, List.set_cons_succ, i64_w, i32_w]
          rfl
        refine pure_ (i := 1) (N := some 22) (v := ?_) (a' := ?_) #[true, true, false, false, false, false, false, false, false, false, false, false] rfl rfl (any_of HT_.out (by kernel_rfl)) (fun _ _ _ h => h) (Or.inl ⟨by rfl, ?_⟩) ?_ ?_
        rotate_left
        · intro w'
          go_simp
          with_reducible rfl
        rotate_left
        · simp only [Act.put, List.setIfInBounds_toArray, List.set_cons_zero, List.set_cons_succ, i64_w, i32_w]
          rfl
        refine pure_ (i := 2) (N := some 23) (v := ?_) (a' := ?_) #[true, true, true, false, false, false, false, false, false, false, false, false] rfl rfl (any_of HT_.out (by kernel_rfl)) (fun _ _ _ h => h) (Or.inl ⟨by rfl, ?_⟩) ?_ ?_
        rotate_left
        · intro w'
          go_simp
          with_reducible rfl
        rotate_left
        · simp only [Act.put, List.setIfInBounds_toArray, List.set_cons_zero, List.set_cons_succ, i64_w, i32_w]
          rfl
        refine pure_ (i := 4) (N := some 25) (v := ?_) (a' := ?_) #[true, true, true, false, true, false, false, false, false, false, false, false] rfl rfl (any_of HT_.out (by kernel_rfl)) (fun _ _ _ h => h) (Or.inl ⟨by rfl, ?_⟩) ?_ ?_
        rotate_left
        · intro w'
          go_simp
          with_reducible rfl
        rotate_left
        · simp only [Act.put, List.setIfInBounds_toArray, List.set_cons_zero, List.set_cons_succ, i64_w, i32_w]
          rfl
        refine pure_ (i := 5) (N := some 26) (v := ?_) (a' := ?_) #[true, true, true, false, true, true, false, false, false, false, false, false] rfl rfl (any_of HT_.out (by kernel_rfl)) (fun _ _ _ h => h) (Or.inl ⟨by rfl, ?_⟩) ?_ ?_
        rotate_left
        · intro w'
          go_simp
          with_reducible rfl
        rotate_left
        · simp only [Act.put, List.setIfInBounds_toArray, List.set_cons_zero, List.set_cons_succ, i64_w, i32_w]
          rfl
        refine inv_at [3, 6, 7, 8, 9, 10, 11] (fun a0_ b a w' => a = putSel a0_ b [(3, 24, .string s1), (6, 27, .string s1), (7, 28, .int .i64 (s1.size : Int)), (8, 29, .int .i64 (m1 : Int)), (9, 30, .string t1), (10, 31, .pointer (some ⟨w.heap.size, 1, none⟩))] ∧ (b 11 = false → w' = wd) ∧ (b 11 = true → w' = wd.setCell ⟨w.heap.size, 1, none⟩ (.string t1))) HT_.out HW_.out (by kernel_rfl) (by kernel_rfl) ?_ ?_ ?_
        · exact ⟨by simp only [putSel, Bool.false_eq_true, if_false], fun _ => rfl, fun h_ => absurd h_ (by decide)⟩
        · skip
          clear E
          refine steps_cons ?_ ?_
          · rintro b a w' ⟨ha, Q_E, Q_Ef⟩ hb_ hon hoff
            refine ⟨_, rfl, fun K hK => ?_⟩
            have e23 : a.tmps[23]? = some (.pointer (some ⟨w.heap.size, 1, none⟩)) := by rw [ha]; exact (putSel_off rfl).trans rfl
            replace ha := Aside0.mk ha
            have E := Aside0.mk (Q_E (hoff 11 (by kernel_rfl)))
            have hw_ := E.out
            have hc_ := hb1
            rw [← hw_] at hc_
            refine value_ (w1 := w') (v := .string s1) (by rfl) rfl ?_ ?_
            · go_simp
              (try simp only [i64_w])
              try rfl
            refine hK.out _ _ ⟨(by rw [ha.out]; exact putSel_upk 0 hb_ rfl rfl rfl), Q_E, fun h0_ => absurd ((hoff 11 (by kernel_rfl)).symm.trans h0_) (by decide)⟩
          refine steps_cons ?_ ?_
          · rintro b a w' ⟨ha, Q_E, Q_Ef⟩ hb_ hon hoff
            refine ⟨_, rfl, fun K hK => ?_⟩
            have e26 : a.tmps[26]? = some (.pointer (some ⟨w.heap.size, 1, none⟩)) := by rw [ha]; exact (putSel_off rfl).trans rfl
            replace ha := Aside0.mk ha
            have E := Aside0.mk (Q_E (hoff 11 (by kernel_rfl)))
            have hw_ := E.out
            have hc_ := hb1
            rw [← hw_] at hc_
            refine value_ (w1 := w') (v := .string s1) (by rfl) rfl ?_ ?_
            · go_simp
              (try simp only [i64_w])
              try rfl
            refine hK.out _ _ ⟨(by rw [ha.out]; exact putSel_upk 1 hb_ rfl rfl rfl), Q_E, fun h0_ => absurd ((hoff 11 (by kernel_rfl)).symm.trans h0_) (by decide)⟩
          refine steps_cons ?_ ?_
          · rintro b a w' ⟨ha, Q_E, Q_Ef⟩ hb_ hon hoff
            refine ⟨_, rfl, fun K hK => ?_⟩
            have e27 : a.tmps[27]? = some (.string s1) := by rw [ha]; exact putSel_on (e := (6, 27, .string s1)) 1 rfl rfl (hon 6 (by kernel_rfl)) rfl
            replace ha := Aside0.mk ha
            have E := Aside0.mk (Q_E (hoff 11 (by kernel_rfl)))
            refine value_ (w1 := w') (v := .int .i64 (s1.size : Int)) (by rfl) rfl ?_ ?_
            · go_simp
              (try simp only [i64_w])
              try rfl
            refine hK.out _ _ ⟨(by rw [ha.out]; exact putSel_upk 2 hb_ rfl rfl rfl), Q_E, fun h0_ => absurd ((hoff 11 (by kernel_rfl)).symm.trans h0_) (by decide)⟩
          refine steps_cons ?_ ?_
          · rintro b a w' ⟨ha, Q_E, Q_Ef⟩ hb_ hon hoff
            refine ⟨_, rfl, fun K hK => ?_⟩
            have e28 : a.tmps[28]? = some (.int .i64 (s1.size : Int)) := by rw [ha]; exact putSel_on (e := (7, 28, .int .i64 (s1.size : Int))) 2 rfl rfl (hon 7 (by kernel_rfl)) rfl
            replace ha := Aside0.mk ha
            have E := Aside0.mk (Q_E (hoff 11 (by kernel_rfl)))
            refine value_ (w1 := w') (v := .int .i64 (m1 : Int)) (by rfl) rfl ?_ ?_
            · go_simp
              (try simp only [i64_w])
              try rfl
            refine hK.out _ _ ⟨(by rw [ha.out]; exact putSel_upk 3 hb_ rfl rfl rfl), Q_E, fun h0_ => absurd ((hoff 11 (by kernel_rfl)).symm.trans h0_) (by decide)⟩
          refine steps_cons ?_ ?_
          · rintro b a w' ⟨ha, Q_E, Q_Ef⟩ hb_ hon hoff
            refine ⟨_, rfl, fun K hK => ?_⟩
            have e24 : a.tmps[24]? = some (.string s1) := by rw [ha]; exact putSel_on (e := (3, 24, .string s1)) 0 rfl rfl (hon 3 (by kernel_rfl)) rfl
            have e29 : a.tmps[29]? = some (.int .i64 (m1 : Int)) := by rw [ha]; exact putSel_on (e := (8, 29, .int .i64 (m1 : Int))) 3 rfl rfl (hon 8 (by kernel_rfl)) rfl
            replace ha := Aside0.mk ha
            have E := Aside0.mk (Q_E (hoff 11 (by kernel_rfl)))
            refine value_ (w1 := w') (v := .string t1) (by rfl) rfl ?_ ?_
            · go_simp
              (try simp only [i64_w])
              try rfl
            refine hK.out _ _ ⟨(by rw [ha.out]; exact putSel_upk 4 hb_ rfl rfl rfl), Q_E, fun h0_ => absurd ((hoff 11 (by kernel_rfl)).symm.trans h0_) (by decide)⟩
          refine steps_cons ?_ ?_
          · rintro b a w' ⟨ha, Q_E, Q_Ef⟩ hb_ hon hoff
            refine ⟨_, rfl, fun K hK => ?_⟩
            have e4 : a.tmps[4]? = some (.pointer (some ⟨w.heap.size, 0, none⟩)) := by rw [ha]; exact (putSel_off rfl).trans rfl
            have e21 : a.tmps[21]? = some (.int .i64 1) := by rw [ha]; exact (putSel_off rfl).trans rfl
            replace ha := Aside0.mk ha
            have E := Aside0.mk (Q_E (hoff 11 (by kernel_rfl)))
            refine value_ (w1 := w') (v := .pointer (some ⟨w.heap.size, 1, none⟩)) (by rfl) rfl ?_ ?_
            · go_simp
              (try simp only [i64_w])
              try rfl
            refine hK.out _ _ ⟨(by rw [ha.out]; exact putSel_upk 5 hb_ rfl rfl rfl), Q_E, fun h0_ => absurd ((hoff 11 (by kernel_rfl)).symm.trans h0_) (by decide)⟩
          refine steps_cons ?_ ?_
          · rintro b a w' ⟨ha, Q_E, Q_Ef⟩ hb_ hon hoff
            refine ⟨_, rfl, fun K hK => ?_⟩
            have e31 : a.tmps[31]? = some (.pointer (some ⟨w.heap.size, 1, none⟩)) := by rw [ha]; exact putSel_on (e := (10, 31, .pointer (some ⟨w.heap.size, 1, none⟩))) 5 rfl rfl (hon 10 (by kernel_rfl)) rfl
            have e30 : a.tmps[30]? = some (.string t1) := by rw [ha]; exact putSel_on (e := (9, 30, .string t1)) 4 rfl rfl (hon 9 (by kernel_rfl)) rfl
            replace ha := Aside0.mk ha
            have E := Aside0.mk (Q_E hb_)
            have hw_ := E.out
            have hc_ := hb1
            rw [← hw_] at hc_
            have hf_ := hfz
            rw [← hw_] at hf_
            refine skip_ (w1 := w'.setCell ⟨w.heap.size, 1, none⟩ (.string t1)) (by rfl) rfl ?_ ?_
            · go_simp
              try rfl
            refine hK.out _ _ ⟨(by rw [ha.out]; exact putSel_none (v := undef) rfl), fun h0_ => absurd ((up_self b 11).symm.trans h0_) (by decide), fun _ => (by rw [hw_])⟩
          exact steps_nil
        · rintro b a w' hall ⟨ha, Q_E, Q_Ef⟩
          clear E
          have hb3_ := hall 3 (by kernel_rfl)
          have hb6_ := hall 6 (by kernel_rfl)
          have hb7_ := hall 7 (by kernel_rfl)
          have hb8_ := hall 8 (by kernel_rfl)
          have hb9_ := hall 9 (by kernel_rfl)
          have hb10_ := hall 10 (by kernel_rfl)
          have hb11_ := hall 11 (by kernel_rfl)
          subst ha
          simp only [putSel, hb3_, hb6_, hb7_, hb8_, hb9_, hb10_, hb11_, if_true, Act.put, List.setIfInBounds_toArray, List.set_cons_zero, List.set_cons_succ]
          clear Q_E
          have Ef := Aside0.mk (Q_Ef hb11_)
          clear Q_Ef
          clear hall hb3_ hb6_ hb7_ hb8_ hb9_ hb10_ hb11_
          have hw_ := Ef.out
          subst hw_
          have S2 := Aside0.mk (set0S SD.out 1 (.string t1))
          clear E Ef SD hb0 hb1 hb2 hfz hmn hex hle hge
          go_wp2
          go_roundg (3 - (1 + 1))
          case rel => exact ⟨2, 2, by first | rfl | (simp; done), ⟨rfl⟩, ⟨by omega, rfl⟩, S2⟩
          case measure => have := hi.out.2; omega
      · obtain rfl : ii = 2 := hii.out
        have SD := Aside0.mk (S.out.keep (below_drew1 (Below.refl wb.heap.size wb)))
        obtain ⟨hb0, hb1, hb2⟩ := box3 (SD.out.at_blk 0 rfl)
        have hfz : wb.drew.frozen? ⟨w.heap.size, 2, none⟩ = false := blk_frozen (SD.out.at_blk 0 rfl) 2
        have hmn := HT.out.2.2.1
        have hex := HT.out.2.2.2.2.2
        have hle := eq_true (show (m2 : Int) ≤ (s2.size : Int) by have := hm.out.2.2; omega)
        have hge := eq_true (show (0 : Int) ≤ (m2 : Int) by omega)
        go_wp2
        have E := trivial
        refine start_ (n := 12) (S := fun w' => True) (ds := []) #[false, false, false, false, false, false, false, false, false, false, false, false] (by kernel_rfl) rfl rfl trivial (fun hHeld => ?_)
        refine with_tabW mbk.tab4 mbk.bits4 (fun HT_ HW_ => ?_)
        have E := trivial
        generalize wb.drew = wd at hb0 hb1 hb2 hfz SD hHeld ⊢
        refine pure_ (i := 0) (N := some 21) (v := ?_) (a' := ?_) #[true, false, false, false, false, false, false, false, false, false, false, false] rfl rfl (any_of HT_.out (by kernel_rfl)) (fun _ _ _ h => h) (Or.inl ⟨by rfl, ?_⟩) ?_ ?_
        rotate_left
        · intro w'
          go_simp
          with_reducible rfl
        rotate_left
        · simp only [Act.put, List.setIfInBounds_toArray, List.set_cons_zero, List.set_cons_succ, i64_w, i32_w]
          rfl
        refine pure_ (i := 1) (N := some 22) (v := ?_) (a' := ?_) #[true, true, false, false, false, false, false, false, false, false, false, false] rfl rfl (any_of HT_.out (by kernel_rfl)) (fun _ _ _ h => h) (Or.inl ⟨by rfl, ?_⟩) ?_ ?_
        rotate_left
        · intro w'
          go_simp
          with_reducible rfl
        rotate_left
        · simp only [Act.put, List.setIfInBounds_toArray, List.set_cons_zero, List.set_cons_succ, i64_w, i32_w]
          rfl
        refine pure_ (i := 2) (N := some 23) (v := ?_) (a' := ?_) #[true, true, true, false, false, false, false, false, false, false, false, false] rfl rfl (any_of HT_.out (by kernel_rfl)) (fun _ _ _ h => h) (Or.inl ⟨by rfl, ?_⟩) ?_ ?_
        rotate_left
        · intro w'
          go_simp
          with_reducible rfl
        rotate_left
        · simp only [Act.put, List.setIfInBounds_toArray, List.set_cons_zero, List.set_cons_succ, i64_w, i32_w]
          rfl
        refine pure_ (i := 4) (N := some 25) (v := ?_) (a' := ?_) #[true, true, true, false, true, false, false, false, false, false, false, false] rfl rfl (any_of HT_.out (by kernel_rfl)) (fun _ _ _ h => h) (Or.inl ⟨by rfl, ?_⟩) ?_ ?_
        rotate_left
        · intro w'
          go_simp
          with_reducible rfl
        rotate_left
        · simp only [Act.put, List.setIfInBounds_toArray, List.set_cons_zero, List.set_cons_succ, i64_w, i32_w]
          rfl
        refine pure_ (i := 5) (N := some 26) (v := ?_) (a' := ?_) #[true, true, true, false, true, true, false, false, false, false, false, false] rfl rfl (any_of HT_.out (by kernel_rfl)) (fun _ _ _ h => h) (Or.inl ⟨by rfl, ?_⟩) ?_ ?_
        rotate_left
        · intro w'
          go_simp
          with_reducible rfl
        rotate_left
        · simp only [Act.put, List.setIfInBounds_toArray, List.set_cons_zero, List.set_cons_succ, i64_w, i32_w]
          rfl
        refine inv_at [3, 6, 7, 8, 9, 10, 11] (fun a0_ b a w' => a = putSel a0_ b [(3, 24, .string s2), (6, 27, .string s2), (7, 28, .int .i64 (s2.size : Int)), (8, 29, .int .i64 (m2 : Int)), (9, 30, .string t2), (10, 31, .pointer (some ⟨w.heap.size, 2, none⟩))] ∧ (b 11 = false → w' = wd) ∧ (b 11 = true → w' = wd.setCell ⟨w.heap.size, 2, none⟩ (.string t2))) HT_.out HW_.out (by kernel_rfl) (by kernel_rfl) ?_ ?_ ?_
        · exact ⟨by simp only [putSel, Bool.false_eq_true, if_false], fun _ => rfl, fun h_ => absurd h_ (by decide)⟩
        · skip
          clear E
          refine steps_cons ?_ ?_
          · rintro b a w' ⟨ha, Q_E, Q_Ef⟩ hb_ hon hoff
            refine ⟨_, rfl, fun K hK => ?_⟩
            have e23 : a.tmps[23]? = some (.pointer (some ⟨w.heap.size, 2, none⟩)) := by rw [ha]; exact (putSel_off rfl).trans rfl
            replace ha := Aside0.mk ha
            have E := Aside0.mk (Q_E (hoff 11 (by kernel_rfl)))
            have hw_ := E.out
            have hc_ := hb2
            rw [← hw_] at hc_
            refine value_ (w1 := w') (v := .string s2) (by rfl) rfl ?_ ?_
            · go_simp
              (try simp only [i64_w])
              try rfl
            refine hK.out _ _ ⟨(by rw [ha.out]; exact putSel_upk 0 hb_ rfl rfl rfl), Q_E, fun h0_ => absurd ((hoff 11 (by kernel_rfl)).symm.trans h0_) (by decide)⟩
          refine steps_cons ?_ ?_
          · rintro b a w' ⟨ha, Q_E, Q_Ef⟩ hb_ hon hoff
            refine ⟨_, rfl, fun K hK => ?_⟩
            have e26 : a.tmps[26]? = some (.pointer (some ⟨w.heap.size, 2, none⟩)) := by rw [ha]; exact (putSel_off rfl).trans rfl
            replace ha := Aside0.mk ha
            have E := Aside0.mk (Q_E (hoff 11 (by kernel_rfl)))
            have hw_ := E.out
            have hc_ := hb2
            rw [← hw_] at hc_
            refine value_ (w1 := w') (v := .string s2) (by rfl) rfl ?_ ?_
            · go_simp
              (try simp only [i64_w])
              try rfl
            refine hK.out _ _ ⟨(by rw [ha.out]; exact putSel_upk 1 hb_ rfl rfl rfl), Q_E, fun h0_ => absurd ((hoff 11 (by kernel_rfl)).symm.trans h0_) (by decide)⟩
          refine steps_cons ?_ ?_
          · rintro b a w' ⟨ha, Q_E, Q_Ef⟩ hb_ hon hoff
            refine ⟨_, rfl, fun K hK => ?_⟩
            have e27 : a.tmps[27]? = some (.string s2) := by rw [ha]; exact putSel_on (e := (6, 27, .string s2)) 1 rfl rfl (hon 6 (by kernel_rfl)) rfl
            replace ha := Aside0.mk ha
            have E := Aside0.mk (Q_E (hoff 11 (by kernel_rfl)))
            refine value_ (w1 := w') (v := .int .i64 (s2.size : Int)) (by rfl) rfl ?_ ?_
            · go_simp
              (try simp only [i64_w])
              try rfl
            refine hK.out _ _ ⟨(by rw [ha.out]; exact putSel_upk 2 hb_ rfl rfl rfl), Q_E, fun h0_ => absurd ((hoff 11 (by kernel_rfl)).symm.trans h0_) (by decide)⟩
          refine steps_cons ?_ ?_
          · rintro b a w' ⟨ha, Q_E, Q_Ef⟩ hb_ hon hoff
            refine ⟨_, rfl, fun K hK => ?_⟩
            have e28 : a.tmps[28]? = some (.int .i64 (s2.size : Int)) := by rw [ha]; exact putSel_on (e := (7, 28, .int .i64 (s2.size : Int))) 2 rfl rfl (hon 7 (by kernel_rfl)) rfl
            replace ha := Aside0.mk ha
            have E := Aside0.mk (Q_E (hoff 11 (by kernel_rfl)))
            refine value_ (w1 := w') (v := .int .i64 (m2 : Int)) (by rfl) rfl ?_ ?_
            · go_simp
              (try simp only [i64_w])
              try rfl
            refine hK.out _ _ ⟨(by rw [ha.out]; exact putSel_upk 3 hb_ rfl rfl rfl), Q_E, fun h0_ => absurd ((hoff 11 (by kernel_rfl)).symm.trans h0_) (by decide)⟩
          refine steps_cons ?_ ?_
          · rintro b a w' ⟨ha, Q_E, Q_Ef⟩ hb_ hon hoff
            refine ⟨_, rfl, fun K hK => ?_⟩
            have e24 : a.tmps[24]? = some (.string s2) := by rw [ha]; exact putSel_on (e := (3, 24, .string s2)) 0 rfl rfl (hon 3 (by kernel_rfl)) rfl
            have e29 : a.tmps[29]? = some (.int .i64 (m2 : Int)) := by rw [ha]; exact putSel_on (e := (8, 29, .int .i64 (m2 : Int))) 3 rfl rfl (hon 8 (by kernel_rfl)) rfl
            replace ha := Aside0.mk ha
            have E := Aside0.mk (Q_E (hoff 11 (by kernel_rfl)))
            refine value_ (w1 := w') (v := .string t2) (by rfl) rfl ?_ ?_
            · go_simp
              (try simp only [i64_w])
              try rfl
            refine hK.out _ _ ⟨(by rw [ha.out]; exact putSel_upk 4 hb_ rfl rfl rfl), Q_E, fun h0_ => absurd ((hoff 11 (by kernel_rfl)).symm.trans h0_) (by decide)⟩
          refine steps_cons ?_ ?_
          · rintro b a w' ⟨ha, Q_E, Q_Ef⟩ hb_ hon hoff
            refine ⟨_, rfl, fun K hK => ?_⟩
            have e4 : a.tmps[4]? = some (.pointer (some ⟨w.heap.size, 0, none⟩)) := by rw [ha]; exact (putSel_off rfl).trans rfl
            have e21 : a.tmps[21]? = some (.int .i64 2) := by rw [ha]; exact (putSel_off rfl).trans rfl
            replace ha := Aside0.mk ha
            have E := Aside0.mk (Q_E (hoff 11 (by kernel_rfl)))
            refine value_ (w1 := w') (v := .pointer (some ⟨w.heap.size, 2, none⟩)) (by rfl) rfl ?_ ?_
            · go_simp
              (try simp only [i64_w])
              try rfl
            refine hK.out _ _ ⟨(by rw [ha.out]; exact putSel_upk 5 hb_ rfl rfl rfl), Q_E, fun h0_ => absurd ((hoff 11 (by kernel_rfl)).symm.trans h0_) (by decide)⟩
          refine steps_cons ?_ ?_
          · rintro b a w' ⟨ha, Q_E, Q_Ef⟩ hb_ hon hoff
            refine ⟨_, rfl, fun K hK => ?_⟩
            have e31 : a.tmps[31]? = some (.pointer (some ⟨w.heap.size, 2, none⟩)) := by rw [ha]; exact putSel_on (e := (10, 31, .pointer (some ⟨w.heap.size, 2, none⟩))) 5 rfl rfl (hon 10 (by kernel_rfl)) rfl
            have e30 : a.tmps[30]? = some (.string t2) := by rw [ha]; exact putSel_on (e := (9, 30, .string t2)) 4 rfl rfl (hon 9 (by kernel_rfl)) rfl
            replace ha := Aside0.mk ha
            have E := Aside0.mk (Q_E hb_)
            have hw_ := E.out
            have hc_ := hb2
            rw [← hw_] at hc_
            have hf_ := hfz
            rw [← hw_] at hf_
            refine skip_ (w1 := w'.setCell ⟨w.heap.size, 2, none⟩ (.string t2)) (by rfl) rfl ?_ ?_
            · go_simp
              try rfl
            refine hK.out _ _ ⟨(by rw [ha.out]; exact putSel_none (v := undef) rfl), fun h0_ => absurd ((up_self b 11).symm.trans h0_) (by decide), fun _ => (by rw [hw_])⟩
          exact steps_nil
        · rintro b a w' hall ⟨ha, Q_E, Q_Ef⟩
          clear E
          have hb3_ := hall 3 (by kernel_rfl)
          have hb6_ := hall 6 (by kernel_rfl)
          have hb7_ := hall 7 (by kernel_rfl)
          have hb8_ := hall 8 (by kernel_rfl)
          have hb9_ := hall 9 (by kernel_rfl)
          have hb10_ := hall 10 (by kernel_rfl)
          have hb11_ := hall 11 (by kernel_rfl)
          subst ha
          simp only [putSel, hb3_, hb6_, hb7_, hb8_, hb9_, hb10_, hb11_, if_true, Act.put, List.setIfInBounds_toArray, List.set_cons_zero, List.set_cons_succ]
          clear Q_E
          have Ef := Aside0.mk (Q_Ef hb11_)
          clear Q_Ef
          clear hall hb3_ hb6_ hb7_ hb8_ hb9_ hb10_ hb11_
          have hw_ := Ef.out
          subst hw_
          have S2 := Aside0.mk (set0S SD.out 2 (.string t2))
          clear E Ef SD hb0 hb1 hb2 hfz hmn hex hle hge
          go_wp2
          go_roundg (3 - (2 + 1))
          case rel => exact ⟨3, 3, by first | rfl | (simp; done), ⟨rfl⟩, ⟨by omega, rfl⟩, S2⟩
          case measure => have := hi.out.2; omega
end Go.Proofs.YtnnnbeimehfiiaaDoor.Q
