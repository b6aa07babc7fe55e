/- The texts of this claim that lie below its row, in their order: GRow2 Gh GB GF GDa GD GOa GP GQ. -/
import Derived.OpenShut
import Derived.WalkKit
import Derived.ProofKit
import Derived.ChangeOld
import Derived.Deep.RegionLaw
import Derived.Deep.DeepCutAuto
import Derived.Deep.QuietTactic
import Derived.BigQuiet
import Derived.Test.YtfmlpkeaiohknaaZP7
/-! Arguments as they are handed in: rows of pairs, rows of the document's edits. -/
set_option linter.unusedVariables false
set_option linter.unusedSimpArgs false
namespace Go.Proofs.Ytfmlpkeaiohknaa.Q
open Go Go.RowKit Go.Proofs.YtfmlpkeaiohknaaW.PrintWords
theorem slice_read {α : Type} {d : Kd α} {H : Type} {enc : TypeId × Value → H} {W : World} {sp : Nat → Bool} {hd : Bool} {t e : TypeId} {Q : α → Prop} (ht : Try.prog.underlying t = some (.slice e)) (hce : Try.prog.cellsOf e = d.sz) {fuel : Nat} {cs : List Value} {x : DataW H × List MemPlace}
    (h : DataW.trod enc Try.prog W 0 sp hd fuel t cs = some x) (hel : ∀ m c y, DataW.trod enc Try.prog W 0 sp hd m e c = some y → ∃ s : α, d.K W s c ∧ Q s) :
    ∃ (l : List α) (A : Option Addr) (c : Nat), cs = [.slice A l.length c] ∧ l.length ≤ c ∧ Kd.C d W A l.length l ∧ ∀ s ∈ l, Q s := by
  rcases DataW.trod_slice ht h with ⟨e3, _⟩ | ⟨a, len, cap, elems, rest, m, hm, e3, _, hba, hlc, hcm, hel2, hget, _, _⟩
  · exact ⟨[], none, 0, e3, Nat.le_refl _, Kd.C_nil d W, by simp⟩
  · have hex : ∀ i, i < len → ∃ s : α, ∃ c, W.cells? 0 (a.add (i * d.sz)) d.sz = some c ∧ d.K W s c ∧ Q s := by
      intro i hi
      have hg := hget i hi
      rw [hce, List.getElem?_eq_getElem (by omega), Option.bind_eq_some_iff] at hg
      obtain ⟨c, hc, ht⟩ := hg
      obtain ⟨s, hs, hp⟩ := hel m c _ ht
      exact ⟨s, c, hc, hs, hp⟩
    obtain ⟨l, hll, hl⟩ := list_of len hex
    subst hll
    refine ⟨l, some a, cap, e3, hlc, ⟨rfl, by unfold maxLen at hcm; omega, fun _ => ⟨a, rfl, fun j p hj => ?_⟩⟩, fun s hs => ?_⟩
    · obtain ⟨c, hc, hk, _⟩ := hl j p hj
      obtain ⟨_, hcl, hcell⟩ := World.cells?_some hc
      refine ⟨c, hcl, hk, fun i u hu => ?_⟩
      have hi : i < d.sz := by have := (List.getElem?_eq_some_iff.1 hu).1; omega
      have hq := hcell i hi
      rw [add_add] at hq
      exact hq.trans hu
    · obtain ⟨j, hj⟩ := List.getElem?_of_mem hs
      obtain ⟨_, _, _, hp⟩ := hl j s hj
      exact hp
theorem cells50 : Try.prog.cellsOf 50 = 2 := by kernel_rfl
set_option maxRecDepth 100000
section
variable {H : Type} {enc : TypeId × Value → H} {W : World} {sp : Nat → Bool} {hd : Bool} {r : Reach} {b0 : Nat} {v : Value} {d : DataW H} {ps : List MemPlace}
theorem pair_read (m : Nat) (c : List Value) (y : DataW H × List MemPlace) (h : DataW.trod enc Try.prog W 0 sp hd m 50 c = some y) : ∃ p : Int × Int, kP.K W p c ∧ True := by
  obtain ⟨xs, n, _, _, hl, hlen, hf⟩ := DataW.trod_array Try.underlying50 h
  rw [cells50] at hl
  match c, hl with
  | [c0, c1], _ =>
    match xs, hlen with
    | [y0, y1], _ =>
      have h0 := hf 0 (by decide)
      have h1 := hf 1 (by decide)
      simp only [cells3, Nat.zero_mul, Nat.one_mul, List.drop_succ_cons, List.drop_zero, List.take_succ_cons, List.take_zero, List.getElem?_cons_zero, List.getElem?_cons_succ] at h0 h1
      obtain ⟨a0, e0, _, _⟩ := DataW.trod_int Try.underlying3 h0
      obtain ⟨a1, e1, _, _⟩ := DataW.trod_int Try.underlying3 h1
      injection e0 with e0; injection e1 with e1
      subst e0 e1
      exact ⟨(a0, a1), ⟨[.int .i64 a0], [.int .i64 a1], rfl, rfl, rfl⟩, trivial⟩
theorem arg44 (hv : Value.okWide Try.prog W r b0 44 v) (h : DataW.Trod enc Try.prog W 0 sp hd 44 v d ps) : ∃ (x : List (Int × Int)) (A : Option Addr) (c : Nat), v = .slice A x.length c ∧ x.length ≤ c ∧ Kd.C kP W A x.length x ∧ True := by
  obtain ⟨a, l, c, rfl⟩ := WideShapes.okWide_slice Try.underlying44 hv
  obtain ⟨fuel, hf⟩ := h
  obtain ⟨x, A, c', e, h1, h2, h3⟩ := slice_read (d := kP) (Q := fun _ => True) Try.underlying44 cells50 hf pair_read
  simp [Value.cells] at e
  obtain ⟨rfl, rfl, rfl⟩ := e
  exact ⟨x, _, _, rfl, h1, h2, trivial⟩
end
end Go.Proofs.Ytfmlpkeaiohknaa.Q
/-! groveOf: a tree's knots. -/
set_option linter.unusedVariables false
set_option linter.unusedSimpArgs false
namespace Go.Proofs.Ytfmlpkeaiohknaa.Q
open Go Go.RowKit Go.Lib Go.Sort Go.Proofs.YtfmlpkeaiohknaaW.PrintWords Go.Proofs.YtfmlpkeaiohknaaW.PrintLast Go.Proofs.YtfmlpkeaiohknaaW.PrintMore Go.Proofs.YtfmlpkeaiohknaaW.SL
attribute [local go_sem] max2_int min2_int max_two min_two max_three min_three max_four min_four
theorem stt_lessF {w0 w : World} {Z : Nat → Prop} {l : List Asr} {F F' : List FA} (S : Stt w0 Z l F w) (h : ∀ a ∈ F', a ∈ F) : Stt w0 Z l F' w := ⟨S.st, fun a ha => S.fr a (h a ha), S.old⟩
theorem GL_X {pre X : List Asr} {ad : Int → Nat} {g : List Hk} {k : Nat} {a : Asr} (h : X[k]? = some a) : (GL pre ad g X)[pre.length + (2 * g.length + k)]? = some a := by
  unfold GL
  rw [List.getElem?_append_right (by omega), Nat.add_sub_cancel_left, List.getElem?_append_right (by rw [gvA_len]; omega), gvA_len, Nat.add_sub_cancel_left]
  exact h
theorem kn_cell5 {w : World} {ad : Int → Nat} {k : Kn} {v u : Value} {a : Nat} (h : w.heap[ad k.id]? = some (.cells (knB ad k v) 80 (0, 0))) (ha : ad k.id = a) (hu : pp ad k.par = u) : w.cell? ⟨a, 5, none⟩ = some u := by
  subst ha; subst hu; exact (blk_cell h 5).trans rfl
theorem set_last {α : Type} (g : List α) (a b : α) : (g ++ [a]).set g.length b = g ++ [b] := by simp
theorem groveP_ids_nodup (N : List S24) (P : List Int) (i : Nat) : ((groveP N P i).map (·.id)).Nodup := by
  rw [groveP_ids]
  have : (List.range i).Nodup := List.nodup_range
  exact List.Pairwise.map _ (fun a b h e => h (Int.ofNat.inj e)) this
theorem groveP_step {N : List S24} {P : List Int} {i : Nat} {g : List Hk} {jp : Nat} {hp : Hk} {p : Int} {y : S24} {v0 v1 : Value} (hg : kns g = groveP N P i) (h0 : 0 < i) (hyg : N.getD i z24 = y) (hpd : P.getD i 0 = p) (ep : g[jp]? = some hp) (hpi : hp.k.id = p) :
    kns ((g ++ [(⟨(hkNew (i : Int) y.f0 y.f1 y.f2).k.wPar (some p), v0⟩ : Hk)]).set jp ⟨hp.k.wKids (hp.k.kids ++ [(i : Int)]), v1⟩) = groveP N P (i + 1) := by
  have ljp := (List.getElem?_eq_some_iff.1 ep).1
  rw [List.set_append_left _ _ ljp, groveP]
  rw [if_neg (by omega), hyg, hpd, ← hg, ← hpi]
  have h1 := kns_set (g := g) (by rw [hg]; exact groveP_ids_nodup N P i) ep (h' := ⟨hp.k.wKids (hp.k.kids ++ [(i : Int)]), v1⟩) (f := fun k => k.wKids (k.kids ++ [(i : Int)])) rfl
  rw [← h1]
  simp [kns, hkNew, Kn.wPar]
theorem ids_step {ids : List Int} {i : Nat} (h : ∀ y, y ∈ ids ↔ 0 ≤ y ∧ y < (i : Int)) : ∀ y, y ∈ ids ++ [(i : Int)] ↔ 0 ≤ y ∧ y < ((i + 1 : Nat) : Int) := fun y => by
  rw [List.mem_append, List.mem_singleton, h y]; omega
theorem grove_rel {w0 W : World} {Z4 : Nat → Prop} {FF : List FA} {X : List Asr} {s : PS} {nN kq i gb bm gk gl jp : Nat} {ii p : Int} {ad : Int → Nat} {g : List Hk} {ids : List Int} {hp : Hk} {y : S24} {v0 v1 : Value} {cl : Array Value}
    (hi : ii = (i : Int) ∧ i ≤ nN ∧ kq = nN - i + 1) (hlt : i < nN) (h6 : nN ≤ 1000000) (hg : kns g = groveP s.N s.P i ∧ ∀ y, y ∈ ids ↔ 0 ≤ y ∧ y < (i : Int)) (h0 : 0 < i) (hyg : s.N.getD i z24 = y) (hpd : s.P.getD i 0 = p) (ep : g[jp]? = some hp) (hpi : hp.k.id = p)
    (S : Stt w0 Z4 (GL (blk gl 58 cl :: [blk gb 61 #[.map (some bm)], mpK bm (i + 1) (adPut ad ii gk) (ids ++ [ii])]) (adPut ad ii gk) ((g ++ [(⟨(hkNew ii y.f0 y.f1 y.f2).k.wPar (some p), v0⟩ : Hk)]).set jp ⟨hp.k.wKids (hp.k.kids ++ [ii]), v1⟩) X) FF W) :
    ∃ (ii' : Int) (i' : Nat) (ad' : Int → Nat) (g' : List Hk) (ids' : List Int), Value.int .i64 (wrap64 (ii + 1)) = .int .i64 ii' ∧ Aside0 (ii' = (i' : Int) ∧ i' ≤ nN ∧ nN - i = nN - i' + 1) ∧ Aside0 (kns g' = groveP s.N s.P i' ∧ (∀ y, y ∈ ids' ↔ 0 ≤ y ∧ y < (i' : Int))) ∧ Aside0 (Stt w0 Z4 (GL [blk gb 61 #[.map (some bm)], mpK bm i' ad' ids'] ad' g' X) FF W) := by
  obtain ⟨rfl, hi1, hi2⟩ := hi
  refine ⟨((i + 1 : Nat) : Int), i + 1, adPut ad i gk, _, ids ++ [(i : Int)], ?_, ⟨rfl, by omega, by omega⟩, ⟨groveP_step hg.1 h0 hyg hpd ep hpi, ids_step hg.2⟩, ⟨S.drop⟩⟩
  congr 1
  unfold wrap64; omega
theorem grove_rel0 {w0 W : World} {Z4 : Nat → Prop} {FF : List FA} {X : List Asr} {s : PS} {nN kq i gb bm gk : Nat} {ii : Int} {ad : Int → Nat} {g : List Hk} {ids : List Int} {y : S24}
    (hi : ii = (i : Int) ∧ i ≤ nN ∧ kq = nN - i + 1) (hlt : i < nN) (hg : kns g = groveP s.N s.P i ∧ ∀ y, y ∈ ids ↔ 0 ≤ y ∧ y < (i : Int)) (h0 : i = 0) (hyg : s.N.getD i z24 = y)
    (S : Stt w0 Z4 (GL [blk gb 61 #[.map (some bm)], mpK bm (i + 1) (adPut ad ii gk) (ids ++ [ii])] (adPut ad ii gk) (g ++ [hkNew ii y.f0 y.f1 y.f2]) X) FF W) :
    ∃ (ii' : Int) (i' : Nat) (ad' : Int → Nat) (g' : List Hk) (ids' : List Int), Value.int .i64 (wrap64 (ii + 1)) = .int .i64 ii' ∧ Aside0 (ii' = (i' : Int) ∧ i' ≤ nN ∧ nN - i = nN - i' + 1) ∧ Aside0 (kns g' = groveP s.N s.P i' ∧ (∀ y, y ∈ ids' ↔ 0 ≤ y ∧ y < (i' : Int))) ∧ Aside0 (Stt w0 Z4 (GL [blk gb 61 #[.map (some bm)], mpK bm i' ad' ids'] ad' g' X) FF W) := by
  obtain ⟨rfl, hi1, hi2⟩ := hi
  subst h0
  refine ⟨((0 + 1 : Nat) : Int), 0 + 1, adPut ad ((0 : Nat) : Int) gk, _, ids ++ [((0 : Nat) : Int)], by congr 1; unfold wrap64; omega, ⟨rfl, by omega, by omega⟩, ⟨?_, ids_step hg.2⟩, ⟨S⟩⟩
  have e : groveP s.N s.P (0 + 1) = [⟨((0 : Nat) : Int), (s.N.getD 0 z24).f0, (s.N.getD 0 z24).f1, (s.N.getD 0 z24).f2, none, []⟩] := rfl
  rw [e, hyg]
  have e2 : g = [] := by
    have h1 := hg.1
    cases g with
    | nil => rfl
    | cons a r => simp [kns, groveP] at h1
  subst e2
  rfl
set_option maxHeartbeats 16000000 in
set_option maxRecDepth 100000 in
theorem grove_calls {w0 w : World} {Z : Nat → Prop} {l : List Asr} {F : List FA} (S : Stt w0 Z l F w) (x : S24) {A : Option Addr} {c : Nat} (hx : nsz x ≤ 1000000) (jf : Nat) (hF : F[jf]? = some (rdV k24 A c x.f3))
    (hP : ∀ j, 0 < j → j < (ofP x).N.length → 0 ≤ (ofP x).P.getD j 0 ∧ (ofP x).P.getD j 0 < (j : Int)) (hPl : (ofP x).P.length = (ofP x).N.length) (hNl : (ofP x).N.length ≤ 1000000) :
    Calls Try.prog 20 #[nodeV x A c] w fun e w' => ∃ (gb bm : Nat) (Z' : Nat → Prop) (ad : Int → Nat), e = .returned (.pointer (some ⟨gb, 0, none⟩)) ∧ (∀ k, Z k → Z' k) ∧ Grove w0 Z' F gb bm [] l (ofP x).N.length ad (groveP (ofP x).N (ofP x).P (ofP x).N.length) w' := by
  have HO : ∀ (l' : List Asr) W, Stt w0 Z l' F W → Calls Try.prog 27 #[.agg #[.int .i64 x.f0, .string x.f1, .string x.f2, .slice A x.f3.length c]] W fun e w' => ∃ (an : Option Addr) (cn : Nat) (ap : Option Addr) (cp : Nat) (az : Option Addr) (cz : Nat) (ak : Option Addr) (ck : Nat), e = .returned (.agg #[.slice an (ofP x).N.length cn, .slice ap (ofP x).P.length cp, .slice az (ofP x).Z.length cz, .slice ak (ofP x).K.length ck]) ∧ ∃ Z4 : Nat → Prop, (∀ k, Z k → Z4 k) ∧ Stt w0 Z4 l' ([rdV k24 an cn (ofP x).N, rdV (Kd.int .i64) ap cp (ofP x).P, rdV (Kd.int .i64) az cz (ofP x).Z, rdV (Kd.slice 3 (Kd.int .i64)) ak ck (ofP x).K] ++ F) w' := fun l' W SW =>
    (of_calls SW x hx (SW.rdC jf hF) (SW.rdL jf hF)).mono (by rintro e w' ⟨q, rfl, _, S4⟩; exact ⟨_, _, _, _, _, _, _, _, rfl, _, fun k h => .inl h, S4⟩)
  obtain ⟨s, hs⟩ : ∃ s, s = ofP x := ⟨_, rfl⟩
  rw [← hs] at hP hPl hNl HO ⊢
  obtain ⟨nN, hnN⟩ : ∃ nN, s.N.length = nN := ⟨_, rfl⟩
  rw [hnN] at hP hPl hNl HO ⊢
  replace HO := Aside0.mk HO
  have hB := Aside0.mk (⟨hP, hPl, hNl, hnN⟩ : _ ∧ _ ∧ _ ∧ _)
  clear hP hPl hNl hs hF hnN
  unfold nodeV
  have hu24 := Try.underlying24
  have hu71 := Try.underlying71
  have hmm := @run_makeMap Try.prog
  go_enter Try.func20, Try.ntmps20
  go_wp2_with (first | ((with_reducible refine gate_dst (N := 1) rfl ?_); refine box_event ?hg (N := 1) ?hd (cs := #[.int .i64 x.f0, .string x.f1, .string x.f2, .slice A x.f3.length c]) (t := 24) ?hr ?_; (case hd => rfl); (case hg => rfl); (case hr => first | (go_simp; done) | (go_simp; rfl)); intro g1 hg_ w1 hbox hb; replace S := S.box hg_ hbox hb; clear hbox hb hg_; obtain ⟨⟨t0, t1, t2, t3⟩, t4, t5, t6, t7⟩ := box4 (S.at_blk 0 rfl)) | ((with_reducible refine gate_dst (N := 10) rfl ?_); replace S := map_new S (fun _ => 0); refine box_event ?hg (N := 10) ?hd (cs := #[.map (some w1.heap.size)]) (t := 61) ?hr ?_; (case hd => rfl); (case hg => rfl); (case hr => first | (go_simp; done) | (go_simp; rfl)); intro gb hg_ w2 hbox hb; replace S := S.box hg_ hbox hb; clear hbox hb hg_; clear t0 t1 t2 t3 t4 t5 t6 t7; obtain ⟨⟨t0, t1, t2, t3⟩, t4, t5, t6, t7⟩ := box4 (S.at_blk 2 rfl); obtain ⟨bm, hbm⟩ : ∃ bm, w1.heap.size = bm := ⟨_, rfl⟩; rw [hbm] at S ⊢; clear hbm) | (go_at_call 27; refine (HO.out _ _ S).mono ?_; clear S; rintro e_ w3 ⟨an, cn, ap, cp, az, cz, ak, ck, rfl, Z4, hZ4, S⟩; clear t0 t1 t2 t3 t4 t5 t6 t7) | ((with_reducible refine gate_dst (N := 4) rfl ?_); refine box_event ?hg (N := 4) ?hd (cs := #[.slice none 0 0, .slice none 0 0, .slice none 0 0, .slice none 0 0]) (t := 71) ?hr ?_; (case hd => rfl); (case hg => rfl); (case hr => first | (go_simp; done) | (go_simp; rfl)); intro gp hg_ w4 hbox hb; replace S := S.box hg_ hbox hb; clear hbox hb hg_; obtain ⟨⟨p0, p1, p2, p3⟩, p4, p5, p6, p7⟩ := box4 (S.at_blk 0 rfl)))
  have S2 := S.set4 (.slice an nN cn) (.slice ap s.P.length cp) (.slice az s.Z.length cz) (.slice ak s.K.length ck)
  clear S p0 p1 p2 p3 p4 p5 p6 p7
  have S := Aside0.mk S2
  replace hZ4 := Aside0.mk hZ4
  clear S2
  go_loopg [16] (nN + 1) (fun kq v16 W => ∃ (ii : Int) (i : Nat) (ad : Int → Nat) (g : List Hk) (ids : List Int), v16 = .int .i64 ii ∧ Aside0 (ii = (i : Int) ∧ i ≤ nN ∧ kq = nN - i + 1) ∧ Aside0 (kns g = groveP s.N s.P i ∧ (∀ y, y ∈ ids ↔ 0 ≤ y ∧ y < (i : Int))) ∧ Aside0 (Stt w0 Z4 (GL [blk gb 61 #[.map (some bm)], mpK bm i ad ids] ad g (blk gp 71 #[.slice an nN cn, .slice ap s.P.length cp, .slice az s.Z.length cz, .slice ak s.K.length ck] :: blk g1 24 #[.int .i64 x.f0, .string x.f1, .string x.f2, .slice A x.f3.length c] :: l)) ([rdV k24 an cn s.N, rdV (Kd.int .i64) ap cp s.P, rdV (Kd.int .i64) az cz s.Z, rdV (Kd.slice 3 (Kd.int .i64)) ak ck s.K] ++ F) W))
  case atStart => exact ⟨0, 0, fun _ => 0, [], [], rfl, ⟨rfl, Nat.zero_le _, rfl⟩, ⟨rfl, fun y => by simp <;> omega⟩, ⟨S.out.perm (List.perm_middle (l₁ := [blk gb 61 #[.map (some bm)], mpK bm 0 (fun _ => 0) []])).symm⟩⟩
  case round =>
    clear S
    obtain ⟨ii, i, ad, g, ids, rfl, hi, hg, SW⟩ := hrel
    obtain ⟨hBP, hBl, hB6, hBN⟩ := hB.out
    by_cases hlt2 : i < nN
    · have c1 : decide (ii < (nN : Int)) = true := decide_eq_true (by rw [hi.out.1]; omega)
      have c2 : decide (0 ≤ ii) = true := decide_eq_true (by rw [hi.out.1]; omega)
      have c3_ : 0 ≤ ii := of_decide_eq_true c2
      have c4_ : ii < (nN : Int) := of_decide_eq_true c1
      obtain ⟨ad24, A3, c3, rfl, y0, y1, y2, y3, _, _⟩ := at_T24 (SW.out.rdC 0 rfl) ii (by rw [hi.out.1]; omega) (by rw [hi.out.1, hBN]; omega)
      obtain ⟨y, hy⟩ : ∃ y, rd_T24 s.N ii = y := ⟨_, rfl⟩
      rw [hy] at y0 y1 y2 y3
      have hyg : s.N.getD i z24 = y := by rw [← hy, hi.out.1]; rfl
      replace hyg := Aside0.mk hyg
      have hI : ∀ x ∈ g, x.k.id ≠ ii ∧ (∀ p, x.k.par = some p → p ≠ ii) ∧ ∀ z ∈ x.k.kids, z ≠ ii := by
        intro x hx
        have hgx := hg.out.1
        have hxk : x.k ∈ groveP s.N s.P i := by rw [← hgx]; exact List.mem_map.2 ⟨x, hx, rfl⟩
        have hi0 : 0 < i := by
          cases i with
          | zero => cases hxk
          | succ i => exact Nat.succ_pos _
        have I := groveP_inv (N := s.N) (n := nN) hB6 hBP i hi0 (Nat.le_of_lt hlt2)
        have hin : ∀ k ∈ groveP s.N s.P i, k.id < ii := fun k hk => by
          rw [hi.out.1]; exact (mem_groveP.1 (List.mem_map.2 ⟨k, hk, rfl⟩)).2
        refine ⟨Int.ne_of_lt (hin _ hxk), fun p hp => ?_, fun z hz => ?_⟩
        · obtain ⟨q, hq, e, _⟩ := I.par _ hxk p hp
          rw [← e]; exact Int.ne_of_lt (hin q hq)
        · obtain ⟨q, hq, e, _⟩ := I.kids _ hxk z hz
          rw [← e]; exact Int.ne_of_lt (hin q hq)
      have hni : ii ∉ ids := fun h => by have := (hg.out.2 ii).1 h; rw [hi.out.1] at this; omega
      have h64 : in64 ii := by rw [hi.out.1]; exact in64_nat (by omega)
      have hm2 : i < maxLen := by simp only [maxLen]; omega
      have HN := Aside0.mk (⟨hI, hni, h64, hm2, hlt2⟩ : _ ∧ _ ∧ _ ∧ _ ∧ _)
      clear hI hni h64 hm2 hlt2 hy hBP hBl hB6 hBN
      by_cases h0 : 0 < i
      · have c9 : decide (0 < ii) = true := decide_eq_true (by rw [hi.out.1]; omega)
        replace h0 := Aside0.mk h0
        go_wp2_with (first | ((with_reducible refine gate_dst (N := 6) rfl ?_); have S := SW.out; refine box_event ?hg (N := 6) ?hd (cs := #[.int .i64 0, .string (⟨#[]⟩ : ByteArray), .string (⟨#[]⟩ : ByteArray), .slice none 0 0]) (t := 24) ?hr ?_; (case hd => rfl); (case hg => rfl); (case hr => first | (go_simp; done) | (go_simp; rfl)); intro g6 hg_ w6 hbox hb; replace S := S.box hg_ hbox hb; clear hbox hb hg_; obtain ⟨⟨n0, n1, n2, n3⟩, n4, n5, n6, n7⟩ := box4 (S.at_blk 0 rfl)) | ((with_reducible refine gate_dst (N := 24) rfl ?_); replace S := S.set4 (.int .i64 y.f0) (.string y.f1) (.string y.f2) (.slice A3 y.f3.length c3); clear n0 n1 n2 n3 n4 n5 n6 n7; refine box_event ?hg (N := 24) ?hd (cs := #[.int .i64 ii, .int .i64 y.f0, .string y.f1, .string y.f2, .slice A3 y.f3.length c3, .pointer none, .slice none 0 0]) (t := 80) ?hr ?_; (case hd => rfl); (case hg => rfl); (case hr => first | (go_simp; done) | (go_simp; rfl)); intro gk hg_ w7 hbox hb; replace S := S.box hg_ hbox hb; clear hbox hb hg_; have k4 : w7.cell? ⟨gk, 4, none⟩ = some (.slice A3 y.f3.length c3) := (blk_cell (S.at_blk 0 rfl) 4).trans rfl; have k4f := blk_frozen (S.at_blk 0 rfl) 4; have hb0 : w7.cell? ⟨gb, 0, none⟩ = some (.map (some bm)) := (blk_cell (S.at_blk 2 rfl) 0).trans rfl; have hne1 := blk_ne S (i := 0) (j := 2) rfl rfl (by decide); have hne2 := Ne.symm hne1) | (have S8 := S.of (S.st.set (i := 0) rfl 4 (.slice none 0 0)); have S9 := kn_push (pre := [blk gb 61 #[.map (some bm)], mpK bm i ad ids]) ii y.f0 y.f1 y.f2 (S8.perm (List.Perm.swap _ _ _)).drop HN.out.1; obtain ⟨w8, hr8, S10, _⟩ := map_put S9 1 rfl HN.out.2.2.1 HN.out.2.1 HN.out.2.2.2.1 gk; refine wpl_mapput rfl 59 _ _ _ rfl _ _ _ (by rfl) (by rfl) (by rfl) hr8 ?_; have S10b : Stt w0 Z4 (GL [blk gb 61 #[.map (some bm)], mpK bm (i + 1) (adPut ad ii gk) (ids ++ [ii])] (adPut ad ii gk) (g ++ [hkNew ii y.f0 y.f1 y.f2]) (blk gp 71 #[.slice (some ad24) nN cn, .slice ap s.P.length cp, .slice az s.Z.length cz, .slice ak s.K.length ck] :: blk g1 24 #[.int .i64 x.f0, .string x.f1, .string x.f2, .slice A x.f3.length c] :: l)) _ w8 := S10; clear S10; have S10 := Aside0.mk S10b; clear S10b S8 S9 S k4 k4f hb0 hne1 hne2 hr8))
        have hjp : ∃ (jp : Nat) (hp : Hk), g[jp]? = some hp ∧ hp.k.id = rd s.P ii := by
          have h1 := hB.out.1 i h0.out HN.out.2.2.2.2
          have e : rd s.P ii = s.P.getD i 0 := by rw [hi.out.1]; rfl
          have h2 : rd s.P ii ∈ (kns g).map (·.id) := by rw [hg.out.1, e]; exact mem_groveP.2 h1
          obtain ⟨k, hk, e2⟩ := List.mem_map.1 h2
          obtain ⟨j, h, f1, f2⟩ := kns_at hk
          exact ⟨j, h, f1, by rw [f2]; exact e2⟩
        obtain ⟨jp, hp, ep, hpi⟩ := hjp
        obtain ⟨p, hpp⟩ : ∃ p, rd s.P ii = p := ⟨_, rfl⟩
        have hpr : 0 ≤ p ∧ p < ii := by
          have h1 := hB.out.1 i h0.out HN.out.2.2.2.2
          rw [← hpp, hi.out.1]; exact h1
        have hpd : s.P.getD i 0 = p := by rw [← hpp, hi.out.1]; rfl
        have ljp := (List.getElem?_eq_some_iff.1 ep).1
        have ep2 : (g ++ [hkNew ii y.f0 y.f1 y.f2])[jp]? = some hp := by rw [List.getElem?_append_left ljp]; exact ep
        have ex2 : (g ++ [hkNew ii y.f0 y.f1 y.f2])[g.length]? = some (hkNew ii y.f0 y.f1 y.f2) := by simp
        obtain ⟨adP, eP, cP⟩ := Kd.at_int (S10.out.rdC 1 rfl) ii c3_ (by rw [hB.out.2.1]; exact c4_)
        rw [hpp] at cP hpi
        have hb8 : w8.cell? ⟨gb, 0, none⟩ = some (.map (some bm)) := (blk_cell (S10.out.at_blk 0 rfl) 0).trans rfl
        have hg8 : w8.cell? ⟨gp, 1, none⟩ = some (.slice ap s.P.length cp) := (blk_cell (S10.out.at_blk (g := gp) (t := 71) (cs := #[.slice (some ad24) nN cn, .slice ap s.P.length cp, .slice az s.Z.length cz, .slice ak s.K.length ck]) _ (GL_X (k := 0) rfl)) 1).trans rfl
        rw [eP, hB.out.2.1] at hg8
        have l8 := map_at S10.out.drew 1 rfl (x := p) (by have := HN.out.2.2.1; unfold in64 at *; omega)
        have hpm : p ∈ ids ++ [ii] := List.mem_append_left _ ((hg.out.2 p).2 ⟨hpr.1, by rw [← hi.out.1]; exact hpr.2⟩)
        obtain ⟨b, hb⟩ : ∃ b, ad p = b := ⟨_, rfl⟩
        have had : adPut ad ii gk p = b := by rw [adPut_old _ _ (by omega)]; exact hb
        have hadi : adPut ad ii gk ii = gk := adPut_new _ _ _
        rw [if_pos hpm] at l8
        have epk : pk (adPut ad ii gk) p = .pointer (some ⟨b, 0, none⟩) := by unfold pk; rw [had]
        have epi : pk (adPut ad ii gk) ii = .pointer (some ⟨gk, 0, none⟩) := by unfold pk; rw [hadi]
        change (Instr.lookup 59 (.map (some bm)) (.int .i64 p) false).run Try.prog w8.drew = .ok (pk (adPut ad ii gk) p) w8.drew at l8
        rw [epk] at l8
        have hkb := kn_blk S10.out ex2
        rw [show (hkNew ii y.f0 y.f1 y.f2).k.id = ii from rfl, hadi] at hkb
        have hk5 : w8.cell? ⟨gk, 5, none⟩ = some (.pointer none) := (blk_cell hkb 5).trans rfl
        have hk5f := blk_frozen hkb 5
        have S11 := kn_setPar S10.out ex2 (some p)
        rw [set_last, show (hkNew ii y.f0 y.f1 y.f2).k.id = ii from rfl, hadi, show pp (adPut ad ii gk) (some p) = .pointer (some ⟨b, 0, none⟩) from epk] at S11
        obtain ⟨A5, c5, ev5, _⟩ := own_form (kn_row S10.out ep2)
        have HP := Aside0.mk (⟨ep, hpi, hpr, hpd, ljp, had, hadi, epk, epi, ev5⟩ : _ ∧ _ ∧ _ ∧ _ ∧ _ ∧ _ ∧ _ ∧ _ ∧ _ ∧ _)
        replace S11 := Aside0.mk S11.drew
        have hmix : Try.prog.follows .mixedOrders = true := by kernel_rfl
        clear hkb ex2 ep2 ep hpi hpr hpd ljp had hadi epk epi ev5 hpp hpm hb eP S10
        go_region_o
        go_wp2
        obtain ⟨ep, hpi, hpr, hpd, ljp, had, hadi, epk, epi, ev5⟩ := HP.out
        obtain ⟨wb, hwb⟩ : ∃ wb, (w8.setCell ⟨gk, 5, none⟩ (.pointer (some ⟨b, 0, none⟩))).drew = wb := ⟨_, rfl⟩
        rw [hwb] at S11 ⊢
        clear hwb hb8 hg8 l8 hk5 hk5f cP
        have ep3 : (g ++ [(⟨(hkNew ii y.f0 y.f1 y.f2).k.wPar (some p), (hkNew ii y.f0 y.f1 y.f2).v⟩ : Hk)])[jp]? = some hp := by rw [List.getElem?_append_left ljp]; exact ep
        have ex3 : (g ++ [(⟨(hkNew ii y.f0 y.f1 y.f2).k.wPar (some p), (hkNew ii y.f0 y.f1 y.f2).v⟩ : Hk)])[g.length]? = some ⟨(hkNew ii y.f0 y.f1 y.f2).k.wPar (some p), (hkNew ii y.f0 y.f1 y.f2).v⟩ := by simp
        have hkb := kn_blk S11.out ex3
        rw [show ((⟨(hkNew ii y.f0 y.f1 y.f2).k.wPar (some p), (hkNew ii y.f0 y.f1 y.f2).v⟩ : Hk).k.id) = ii from rfl, hadi] at hkb
        have hk5 : wb.cell? ⟨gk, 5, none⟩ = some (.pointer (some ⟨b, 0, none⟩)) := (blk_cell hkb 5).trans (by show some (pp _ (some p)) = _; rw [← epk]; rfl)
        have hpb := kn_blk S11.out ep3
        rw [hpi, had] at hpb
        have hb6 : wb.cell? ⟨b, 6, none⟩ = some (.slice A5 hp.k.kids.length c5) := (blk_cell hpb 6).trans (by show some hp.v = _; rw [ev5])
        have hb6f := blk_frozen hpb 6
        have hlb : b < wb.heap.size := World.block_lt_of_cell? wb _ hb6
        have hlk : gk < wb.heap.size := World.block_lt_of_cell? wb _ hk5
        have hk5a := (World.cell?_alloc_lt (w := wb) (.cells #[.pointer (some ⟨gk, 0, none⟩)] 58) ⟨gk, 5, none⟩ hlk).trans hk5
        have hb6a := (World.cell?_alloc_lt (w := wb) (.cells #[.pointer (some ⟨gk, 0, none⟩)] 58) ⟨b, 6, none⟩ hlb).trans hb6
        have S12 : Stt w0 Z4 (GL (blk wb.heap.size 58 #[.pointer (some ⟨gk, 0, none⟩)] :: [blk gb 61 #[.map (some bm)], mpK bm (i + 1) (adPut ad ii gk) (ids ++ [ii])]) (adPut ad ii gk) (g ++ [⟨(hkNew ii y.f0 y.f1 y.f2).k.wPar (some p), (hkNew ii y.f0 y.f1 y.f2).v⟩]) (blk gp 71 #[.slice (some ad24) nN cn, .slice ap s.P.length cp, .slice az s.Z.length cz, .slice ak s.K.length ck] :: blk g1 24 #[.int .i64 x.f0, .string x.f1, .string x.f2, .slice A x.f3.length c] :: l)) _ (wb.drew.alloc (.cells #[.pointer (some ⟨gk, 0, none⟩)] 58)) := (S11.out.drew).box rfl (heap_alloc_new wb.drew _) (below_alloc (Below.refl _ _) _)
        have hrow := S12.rowAt _ (GL_row ep3)
        rw [ev5] at hrow
        have hlit := lit_own (S12.at_blk 0 rfl)
        have hkl : hp.k.kids.length ≤ 1000000 := by
          have I := groveP_inv (N := s.N) (n := nN) hB.out.2.2.1 hB.out.1 i h0.out (Nat.le_of_lt HN.out.2.2.2.2)
          have h1 := I.kids_len (k := hp.k) (by rw [← hg.out.1]; exact kns_mem ep)
          have h2 : (groveP s.N s.P i).length = i := by have := congrArg List.length (groveP_ids s.N s.P i); simpa using this
          have := hB.out.2.2.1; have := HN.out.2.2.2.2; omega
        have HR := Aside0.mk (⟨hrow, hlit, S12, ep3, hkl, hpi, had, epi, ex3⟩ : _ ∧ _ ∧ _ ∧ _ ∧ _ ∧ _ ∧ _ ∧ _ ∧ _)
        clear hkb hpb hrow hlit S12 ep3 hkl ep ex3 hpi hpr hpd ljp had hadi epk epi ev5
        go_region_law (refine app_step (by rfl) (.tmp 60) (.tmp 62) 78 58 (.pointer none) 1 8 (by rfl) Try.underlying78 info58 rfl (by decide) (by decide) (.slice A5 hp.k.kids.length c5) (.slice (some ⟨wb.heap.size, 0, none⟩) 1 1) hp.k.kids.length (hp.k.kids.map (pk (adPut ad ii gk))) [.pointer (some ⟨gk, 0, none⟩)] (by simp [Act.eval, Act.put]) (by simp [Act.eval, Act.put]) (fun u hu => by rw [List.mem_singleton.1 hu]; rfl) HR.out.1 HR.out.2.1 (by have := HR.out.2.2.2.2.1; omega) ?_; intro v1 w12 ho1 hg1 hat1; obtain ⟨A6, c6, e6, _⟩ := own_form ho1; subst e6; have S13 := HR.out.2.2.1.updRow _ (v' := .slice A6 (hp.k.kids.length + 1) c6) (n' := (hp.k.kids ++ [ii]).length) (xs' := (hp.k.kids ++ [ii]).map (pk (adPut ad ii gk))) (GL_row HR.out.2.2.2.1) (by rw [List.length_append, List.map_append]; show w12.ownsRow 0 58 1 _ _ (_ ++ [pk _ ii]); rw [HR.out.2.2.2.2.2.2.2.1]; exact ho1) (by rw [HP.out.2.2.2.2.2.2.2.2.2]; exact hg1) (by rw [HP.out.2.2.2.2.2.2.2.2.2]; exact hat1); have hk13 := S13.at_blk (3 + 2 * g.length) ((List.getElem?_set_ne (show 3 + (2 * jp + 1) ≠ 3 + 2 * g.length by have := HP.out.2.2.2.2.1; omega)).trans (GL_blk HR.out.2.2.2.2.2.2.2.2)); have hk5d := kn_cell5 (k := (hkNew ii y.f0 y.f1 y.f2).k.wPar (some p)) hk13 HP.out.2.2.2.2.2.2.1 HP.out.2.2.2.2.2.2.2.1; clear hk13; obtain ⟨S14, q6, q6f⟩ := kn_setKids HR.out.2.2.2.1 S13; rw [HR.out.2.2.2.2.2.1, HR.out.2.2.2.2.2.2.1] at S14 q6 q6f; replace S14 := Aside0.mk S14; clear ho1 hg1 hat1 S13)
        all_goals (
          go_wp2
          go_roundg (nN - i)
          case rel => exact grove_rel hi.out HN.out.2.2.2.2 hB.out.2.2.1 hg.out h0.out hyg.out HP.out.2.2.2.1 HP.out.1 HP.out.2.1 S14.out
          case measure => have := hi.out; have := HN.out.2.2.2.2; omega)
      · have c9 : decide (0 < ii) = false := decide_eq_false (by rw [hi.out.1]; omega)
        have hi0 : i = 0 := by omega
        replace h0 := Aside0.mk hi0
        clear hi0
        go_wp2_with (first | ((with_reducible refine gate_dst (N := 6) rfl ?_); have S := SW.out; refine box_event ?hg (N := 6) ?hd (cs := #[.int .i64 0, .string (⟨#[]⟩ : ByteArray), .string (⟨#[]⟩ : ByteArray), .slice none 0 0]) (t := 24) ?hr ?_; (case hd => rfl); (case hg => rfl); (case hr => first | (go_simp; done) | (go_simp; rfl)); intro g6 hg_ w6 hbox hb; replace S := S.box hg_ hbox hb; clear hbox hb hg_; obtain ⟨⟨n0, n1, n2, n3⟩, n4, n5, n6, n7⟩ := box4 (S.at_blk 0 rfl)) | ((with_reducible refine gate_dst (N := 24) rfl ?_); replace S := S.set4 (.int .i64 y.f0) (.string y.f1) (.string y.f2) (.slice A3 y.f3.length c3); clear n0 n1 n2 n3 n4 n5 n6 n7; refine box_event ?hg (N := 24) ?hd (cs := #[.int .i64 ii, .int .i64 y.f0, .string y.f1, .string y.f2, .slice A3 y.f3.length c3, .pointer none, .slice none 0 0]) (t := 80) ?hr ?_; (case hd => rfl); (case hg => rfl); (case hr => first | (go_simp; done) | (go_simp; rfl)); intro gk hg_ w7 hbox hb; replace S := S.box hg_ hbox hb; clear hbox hb hg_; have k4 : w7.cell? ⟨gk, 4, none⟩ = some (.slice A3 y.f3.length c3) := (blk_cell (S.at_blk 0 rfl) 4).trans rfl; have k4f := blk_frozen (S.at_blk 0 rfl) 4; have hb0 : w7.cell? ⟨gb, 0, none⟩ = some (.map (some bm)) := (blk_cell (S.at_blk 2 rfl) 0).trans rfl; have hne1 := blk_ne S (i := 0) (j := 2) rfl rfl (by decide); have hne2 := Ne.symm hne1) | (have S8 := S.of (S.st.set (i := 0) rfl 4 (.slice none 0 0)); have S9 := kn_push (pre := [blk gb 61 #[.map (some bm)], mpK bm i ad ids]) ii y.f0 y.f1 y.f2 (S8.perm (List.Perm.swap _ _ _)).drop HN.out.1; obtain ⟨w8, hr8, S10, _⟩ := map_put S9 1 rfl HN.out.2.2.1 HN.out.2.1 HN.out.2.2.2.1 gk; refine wpl_mapput rfl 59 _ _ _ rfl _ _ _ (by rfl) (by rfl) (by rfl) hr8 ?_; have S10b : Stt w0 Z4 (GL [blk gb 61 #[.map (some bm)], mpK bm (i + 1) (adPut ad ii gk) (ids ++ [ii])] (adPut ad ii gk) (g ++ [hkNew ii y.f0 y.f1 y.f2]) (blk gp 71 #[.slice (some ad24) nN cn, .slice ap s.P.length cp, .slice az s.Z.length cz, .slice ak s.K.length ck] :: blk g1 24 #[.int .i64 x.f0, .string x.f1, .string x.f2, .slice A x.f3.length c] :: l)) _ w8 := S10; clear S10; have S10 := Aside0.mk S10b; clear S10b S8 S9 S k4 k4f hb0 hne1 hne2 hr8))
        go_roundg (nN - i)
        case rel => exact grove_rel0 hi.out HN.out.2.2.2.2 hg.out h0.out hyg.out S10.out
        case measure => have := hi.out; have := HN.out.2.2.2.2; omega
    · have hik : i = nN := by have := hi.out.2.1; omega
      have c1 : decide (ii < (nN : Int)) = false := decide_eq_false (by rw [hi.out.1]; omega)
      replace hik := Aside0.mk hik
      clear hlt2 hBP hBl hB6 hBN
      go_wp2
      go_ret
      refine ⟨gb, bm, Z4, ad, rfl, hZ4.out, g, ids, i, by rw [hg.out.1, hik.out], by rw [hik.out]; exact Nat.le_refl _, fun y => ?_, ?_⟩
      · rw [hg.out.2 y, ← hik.out]; exact (mem_groveP).symm
      · have S20 := stt_lessF SW.out (F' := F) (fun a ha => List.mem_append_right _ ha)
        have S21 := S20.perm (l' := blk gp 71 #[.slice an nN cn, .slice ap s.P.length cp, .slice az s.Z.length cz, .slice ak s.K.length ck] :: blk g1 24 #[.int .i64 x.f0, .string x.f1, .string x.f2, .slice A x.f3.length c] :: GL [blk gb 61 #[.map (some bm)], mpK bm i ad ids] ad g l) (by
          unfold GL
          have h1 : ∀ (u v : Asr) (p q r : List Asr), (p ++ (q ++ (u :: v :: r))).Perm (u :: v :: (p ++ (q ++ r))) := fun u v p q r => by
            have := (List.perm_append_comm (l₁ := p ++ q) (l₂ := [u, v])).append_right r
            simpa using this
          exact h1 _ _ _ _ _)
        exact S21.drop.drop
end Go.Proofs.Ytfmlpkeaiohknaa.Q
/-! script.Apply. -/
set_option linter.unusedVariables false
set_option linter.unusedSimpArgs false
namespace Go.Proofs.Ytfmlpkeaiohknaa.Q
open Go Go.RowKit Go.Lib Go.Sort Go.Proofs.YtfmlpkeaiohknaaW.PrintWords Go.Proofs.YtfmlpkeaiohknaaW.PrintLast Go.Proofs.YtfmlpkeaiohknaaW.PrintMore Go.Proofs.YtfmlpkeaiohknaaW.SL
attribute [local go_sem] max2_int min2_int max_two min_two max_three min_three max_four min_four
/-- What holds of a tree's plan. -/
structure PlanOk (x : S24) : Prop where
  sz : nsz x ≤ 1000
  len : (ofP x).N.length = nsz x
  plen : (ofP x).P.length = (ofP x).N.length
  up : ∀ j, 0 < j → j < (ofP x).N.length → 0 ≤ (ofP x).P.getD j 0 ∧ (ofP x).P.getD j 0 < (j : Int)
  pos : 0 < nsz x
def groveX (x : S24) : List Kn := groveP (ofP x).N (ofP x).P (ofP x).N.length
theorem groveX_inv {x : S24} (h : PlanOk x) : Inv (groveX x) := groveP_inv (n := (ofP x).N.length) (by have := h.sz; have := h.len; omega) h.up _ (by have := h.len; have := h.pos; omega) (Nat.le_refl _)
theorem groveX_len (x : S24) : (groveX x).length = (ofP x).N.length := by
  have := congrArg List.length (groveP_ids (ofP x).N (ofP x).P (ofP x).N.length)
  simpa [groveX] using this
theorem groveX_zero {x : S24} (h : PlanOk x) : (0 : Int) ∈ (groveX x).map (·.id) := mem_groveP.2 ⟨Int.le_refl _, by have := h.len; have := h.pos; omega⟩
theorem doK_root {g g' : List Kn} {x : Ed} (I : Inv g) (h : doK g x = some g') (h0 : (0 : Int) ∈ g.map (·.id)) : (0 : Int) ∈ g'.map (·.id) := by
  unfold doK at h
  split at h
  · split at h
    · injection h with h; subst h; rw [newK_ids]; exact List.mem_append_left _ h0
    · cases h
  split at h
  · split at h
    · cases h
    · rename_i k hk
      split at h
      · cases h
      · rename_i q hq
        split at h
        · injection h with h; subst h
          rw [goneK_ids, List.mem_filter]
          refine ⟨h0, ?_⟩
          simp only [decide_eq_true_eq]
          intro e
          obtain ⟨hkm, hki⟩ := gAt_mem hk
          have := (I.root k hkm).2 (by rw [hki, ← e])
          rw [this] at hq; cases hq
        · cases h
  split at h
  · split at h
    · cases h
    · injection h with h; subst h; rw [textK_ids]; exact h0
  split at h
  · split at h
    · cases h
    · split at h
      · cases h
      · split at h
        · injection h with h; subst h; rw [movedK_ids]; exact h0
        · cases h
  · cases h
/-- What Apply answers. -/
def ApplyPost (w : World) (nE : Nat) (R : Nat ⊕ List Kn) (e : Ending) (w' : World) : Prop := match R with
  | .inl i => e = .returned (.tuple #[.agg #[.int .i64 0, .string (⟨#[]⟩ : ByteArray), .string (⟨#[]⟩ : ByteArray), .slice none 0 0], .int .i64 (i : Int), .int .i64 10])
  | .inr ks => ∃ v3, e = .returned (.tuple #[.agg #[.int .i64 (treeOf ks 0).f0, .string (treeOf ks 0).f1, .string (treeOf ks 0).f2, v3], .int .i64 (nE : Int), .int .i64 0]) ∧ Kd.R k24 24 w' w.heap.size (fun _ => True) v3 (treeOf ks 0).f3
theorem do_calls54 {w0 w : World} {Z : Nat → Prop} {F : List FA} {gb bm N : Nat} {pre X : List Asr} {ad : Int → Nat} {ks : List Kn} (H : Grove w0 Z F gb bm pre X N ad ks w) (I : Inv ks) (hN : N < maxLen) (hl : ks.length ≤ 1000000) (y : S54) (h1 : in64 y.f1) (h2 : in64 y.f2) :
    Calls Try.prog 21 #[.pointer (some ⟨gb, 0, none⟩), .agg #[.int .i64 y.f0, .int .i64 y.f1, .int .i64 y.f2, .int .i64 y.f3, .int .i64 y.f4, .string y.f5, .string y.f6]] w fun e w' => e = .returned (.bool (doK ks (edOf y)).isSome) ∧ ∃ ad', (∀ k ∈ ks, ad' k.id = ad k.id) ∧ Grove w0 Z F gb bm pre X (N + 1) ad' ((doK ks (edOf y)).getD ks) w' :=
  do_calls H I hN hl (edOf y) h1 h2
set_option maxHeartbeats 16000000 in
set_option maxRecDepth 100000 in
theorem apply_calls (x : S24) {A B : Option Addr} {c d : Nat} (es : List S54) (w : World) (hr : Kd.C k24 w A x.f3.length x.f3) (hc : x.f3.length ≤ c) (he : Kd.C k54 w B es.length es) (hd : es.length ≤ d) (hp : PlanOk x) (hel : es.length ≤ 100000) (hin : ∀ e ∈ es, in64 e.f1 ∧ in64 e.f2) :
    Calls Try.prog 10 #[nodeV x A c, .slice B es.length d] w fun e w' => Below w.heap.size w w' ∧ ApplyPost w es.length (runK (groveX x) es 0) e w' := by
  have S : Stt w (fun k => k < w.heap.size) [] [rdV k24 A c x.f3, rdV k54 B d es] w := Stt.start w (by intro a ha; simp only [List.mem_cons, List.not_mem_nil, or_false] at ha; rcases ha with rfl | rfl; exact ⟨hc, Kd.C_F k24_heap hr⟩; exact ⟨hd, Kd.C_F k54_heap he⟩)
  obtain ⟨nE, hnE⟩ : ∃ nE, es.length = nE := ⟨_, rfl⟩
  have HG : ∀ (l : List Asr) W, Stt w (fun k => k < w.heap.size) l [rdV k24 A c x.f3, rdV k54 B d es] W → Calls Try.prog 20 #[.agg #[.int .i64 x.f0, .string x.f1, .string x.f2, .slice A x.f3.length c]] W fun e w' => ∃ (gb bm : Nat) (Z' : Nat → Prop) (ad : Int → Nat), e = .returned (.pointer (some ⟨gb, 0, none⟩)) ∧ Grove w Z' [rdV k24 A c x.f3, rdV k54 B d es] gb bm [] l (nsz x) ad (groveX x) w' := fun l W SW =>
    (grove_calls SW x (by have := hp.sz; omega) 0 rfl hp.up hp.plen (by have := hp.len; have := hp.sz; omega)).mono (by rintro e w' ⟨gb, bm, Z', ad, rfl, _, H⟩; exact ⟨gb, bm, Z', ad, rfl, by rw [← hp.len]; exact H⟩)
  rw [hnE] at hel ⊢
  replace HG := Aside0.mk HG
  have hB := Aside0.mk (⟨hp, hel, hin, hnE⟩ : _ ∧ _ ∧ _ ∧ _)
  obtain ⟨R, hR⟩ : ∃ R, runK (groveX x) es 0 = R := ⟨_, rfl⟩
  rw [hR]
  replace hR := Aside0.mk hR
  clear hp hel hin hr he hc hd hnE
  unfold nodeV
  have hu24 := Try.underlying24
  have hu54 := Try.underlying54
  go_enter Try.func10, Try.ntmps10
  go_wp2_with (first | ((with_reducible refine gate_dst (N := 2) rfl ?_); refine box_event ?hg (N := 2) ?hd (cs := #[.int .i64 x.f0, .string x.f1, .string x.f2, .slice A x.f3.length c]) (t := 24) ?hr ?_; (case hd => rfl); (case hg => rfl); (case hr => first | (go_simp; done) | (go_simp; rfl)); intro g2 hg_ w1 hbox hb; replace S := S.box hg_ hbox hb; clear hbox hb hg_; obtain ⟨⟨t0, t1, t2, t3⟩, t4, t5, t6, t7⟩ := box4 (S.at_blk 0 rfl)) | ((with_reducible refine gate_dst (N := 4) rfl ?_); refine box_event ?hg (N := 4) ?hd (cs := #[.int .i64 0, .string (⟨#[]⟩ : ByteArray), .string (⟨#[]⟩ : ByteArray), .slice none 0 0]) (t := 24) ?hr ?_; (case hd => rfl); (case hg => rfl); (case hr => first | (go_simp; done) | (go_simp; rfl)); intro g4 hg_ w2 hbox hb; replace S := S.box hg_ hbox hb; clear hbox hb hg_; clear t0 t1 t2 t3 t4 t5 t6 t7; obtain ⟨⟨t0, t1, t2, t3⟩, t4, t5, t6, t7⟩ := box4 (S.at_blk 1 rfl)) | (go_at_call 20; refine (HG.out _ _ S).mono ?_; clear S; rintro e_ w3 ⟨gb, bm, Z4, ad0, rfl, H⟩; clear t0 t1 t2 t3 t4 t5 t6 t7; have hgb := H.gbCell; have l0 := H.at_ (x := 0) (by unfold in64; omega) (groveX_zero hB.out.1); obtain ⟨r0, hr0⟩ : ∃ r0, ad0 0 = r0 := ⟨_, rfl⟩; rw [hr0] at l0; replace hr0 := Aside0.mk hr0; replace H := Aside0.mk H))
  go_loopg [20] (nE + 1) (fun kq v20 W => ∃ (ii : Int) (i : Nat) (ad : Int → Nat) (ks : List Kn), v20 = .int .i64 ii ∧ Aside0 (ii = (i : Int) ∧ i ≤ nE ∧ kq = nE - i + 1) ∧ Aside0 (runK ks (es.drop i) i = R ∧ Inv ks ∧ ks.length ≤ 1000 + i ∧ (0 : Int) ∈ ks.map (·.id) ∧ ad 0 = r0) ∧ Aside0 (Grove w Z4 [rdV k24 A c x.f3, rdV k54 B d es] gb bm [] [blk g4 24 #[.int .i64 0, .string (⟨#[]⟩ : ByteArray), .string (⟨#[]⟩ : ByteArray), .slice none 0 0], blk g2 24 #[.int .i64 x.f0, .string x.f1, .string x.f2, .slice A x.f3.length c]] (1000 + i) ad ks W))
  case atStart => exact ⟨0, 0, ad0, groveX x, rfl, ⟨rfl, Nat.zero_le _, rfl⟩, ⟨hR.out, groveX_inv hB.out.1, by rw [groveX_len, hB.out.1.len]; have := hB.out.1.sz; omega, groveX_zero hB.out.1, hr0.out⟩, ⟨H.out.up (by have := hB.out.1.sz; omega)⟩⟩
  case round =>
    clear H hgb l0 hR
    obtain ⟨ii, i, ad, ks, rfl, hi, hk, H⟩ := hrel
    have hgb := H.out.gbCell
    by_cases hlt2 : i < nE
    · have c1 : decide (ii < (nE : Int)) = true := decide_eq_true (by rw [hi.out.1]; omega)
      have c2 : decide (0 ≤ ii) = true := decide_eq_true (by rw [hi.out.1]; omega)
      have c3_ : 0 ≤ ii := of_decide_eq_true c2
      have c4_ : ii < (nE : Int) := of_decide_eq_true c1
      obtain ⟨ad54, rfl, y0, y1, y2, y3, y4, y5, y6⟩ := at_T54 (H.out.facts fun L S => S.rdC 1 rfl) ii c3_ (by rw [hB.out.2.2.2]; exact c4_)
      obtain ⟨y, hy⟩ : ∃ y, rd_T54 es ii = y := ⟨_, rfl⟩
      rw [hy] at y0 y1 y2 y3 y4 y5 y6
      have hyi : es[i]? = some y := by
        have hl : i < es.length := by rw [hB.out.2.2.2]; exact hlt2
        rw [← hy, hi.out.1]
        unfold rd_T54
        simp [List.getD_eq_getElem?_getD, List.getElem?_eq_getElem hl]
      have hdr : es.drop i = y :: es.drop (i + 1) := by
        obtain ⟨hl, he⟩ := List.getElem?_eq_some_iff.1 hyi
        rw [← he]; exact List.drop_eq_getElem_cons hl
      obtain ⟨h641, h642⟩ := hB.out.2.2.1 y (List.mem_of_getElem? hyi)
      have hrun := hk.out.1
      rw [hdr, runK] at hrun
      obtain ⟨r, hdo⟩ : ∃ r, doK ks (edOf y) = r := ⟨_, rfl⟩
      have HD : ∀ (X : List Asr) W, Grove w Z4 [rdV k24 A c x.f3, rdV k54 (some ad54) d es] gb bm [] X (1000 + i) ad ks W → Calls Try.prog 21 #[.pointer (some ⟨gb, 0, none⟩), .agg #[.int .i64 y.f0, .int .i64 y.f1, .int .i64 y.f2, .int .i64 y.f3, .int .i64 y.f4, .string y.f5, .string y.f6]] W fun e w' => e = .returned (.bool r.isSome) ∧ ∃ ad', (∀ k ∈ ks, ad' k.id = ad k.id) ∧ Grove w Z4 [rdV k24 A c x.f3, rdV k54 (some ad54) d es] gb bm [] X (1000 + i + 1) ad' (r.getD ks) w' := fun X W HW => by
        have h9 := do_calls54 HW hk.out.2.1 (by have := hB.out.2.1; simp only [maxLen]; omega) (by have := hk.out.2.2.1; have := hB.out.2.1; omega) y h641 h642
        rw [hdo] at h9
        exact h9
      replace HD := Aside0.mk HD
      have HN := Aside0.mk (⟨hlt2, hdo, h641, hrun⟩ : _ ∧ _ ∧ _ ∧ _)
      clear hlt2 hy hyi hdr hdo hrun h641 h642
      cases r with
      | none =>
        go_wp2_with (first | ((with_reducible refine gate_dst (N := 10) rfl ?_); refine box_event ?hg (N := 10) ?hd (cs := #[.int .i64 0, .int .i64 0, .int .i64 0, .int .i64 0, .int .i64 0, .string (⟨#[]⟩ : ByteArray), .string (⟨#[]⟩ : ByteArray)]) (t := 54) ?hr ?_; (case hd => rfl); (case hg => rfl); (case hr => first | (go_simp; done) | (go_simp; rfl)); intro g10 hg_ w5 hbox hb; have H := H.out.box hg_ hbox hb; clear hbox hb hg_; obtain ⟨⟨e0, e1, e2, e3, e4, e5, e6⟩, f0, f1, f2, f3, f4, f5, f6⟩ := box7 (H.blkAt (k := 0) rfl)) | (go_at_call 21; refine (HD.out _ _ (H.set7 (.int .i64 y.f0) (.int .i64 y.f1) (.int .i64 y.f2) (.int .i64 y.f3) (.int .i64 y.f4) (.string y.f5) (.string y.f6))).mono ?_; rintro e_ w6 ⟨rfl, ad', had, H6⟩; obtain ⟨⟨q0, q1, q2, q3⟩, q4, q5, q6, q7⟩ := box4 (H6.blkAt (k := 1) rfl)))
        have H7 := H6.set4X 1 rfl (.int .i64 0) (.string (⟨#[]⟩ : ByteArray)) (.string (⟨#[]⟩ : ByteArray)) (.slice none 0 0)
        have hrun := HN.out.2.2.2
        rw [HN.out.2.1] at hrun
        refine bodyPost_ret (results_ctt rfl _ _ g4 24 #[.int .i64 0, .string (⟨#[]⟩ : ByteArray), .string (⟨#[]⟩ : ByteArray), .slice none 0 0] (0, 0) _ rfl (H7.blkAt (k := 1) rfl) Try.underlying24 rfl (by kernel_rfl)) rfl ?_
        refine ⟨H7.below, ?_⟩
        rw [← hrun, hi.out.1]
        rfl
      | some ks' =>
        go_wp2_with (first | ((with_reducible refine gate_dst (N := 10) rfl ?_); refine box_event ?hg (N := 10) ?hd (cs := #[.int .i64 0, .int .i64 0, .int .i64 0, .int .i64 0, .int .i64 0, .string (⟨#[]⟩ : ByteArray), .string (⟨#[]⟩ : ByteArray)]) (t := 54) ?hr ?_; (case hd => rfl); (case hg => rfl); (case hr => first | (go_simp; done) | (go_simp; rfl)); intro g10 hg_ w5 hbox hb; have H := H.out.box hg_ hbox hb; clear hbox hb hg_; obtain ⟨⟨e0, e1, e2, e3, e4, e5, e6⟩, f0, f1, f2, f3, f4, f5, f6⟩ := box7 (H.blkAt (k := 0) rfl)) | (go_at_call 21; refine (HD.out _ _ (H.set7 (.int .i64 y.f0) (.int .i64 y.f1) (.int .i64 y.f2) (.int .i64 y.f3) (.int .i64 y.f4) (.string y.f5) (.string y.f6))).mono ?_; rintro e_ w6 ⟨rfl, ad', had, H6⟩))
        have hrun := HN.out.2.2.2
        rw [HN.out.2.1] at hrun
        have h0m := hk.out.2.2.2.1
        obtain ⟨k0, hk0, e0'⟩ := List.mem_map.1 h0m
        have hadr : ad' 0 = r0 := by have := had k0 hk0; rw [e0'] at this; rw [this]; exact hk.out.2.2.2.2
        go_roundg (nE - i)
        case rel => exact ⟨((i + 1 : Nat) : Int), i + 1, ad', ks', by rw [hi.out.1]; congr 1; have := hB.out.2.1; have := HN.out.1; unfold wrap64; omega, ⟨rfl, by have := HN.out.1; omega, by have := HN.out.1; omega⟩, ⟨hrun, doK_inv hk.out.2.1 HN.out.2.2.1 HN.out.2.1, by have := doK_len HN.out.2.1; have := hk.out.2.2.1; omega, doK_root hk.out.2.1 HN.out.2.1 h0m, hadr⟩, ⟨H6.drop⟩⟩
        case measure => have := hi.out; have := HN.out.1; omega
    · have hik : i = nE := by have := hi.out.2.1; omega
      have c1 : decide (ii < (nE : Int)) = false := decide_eq_false (by rw [hi.out.1]; omega)
      have hrun := hk.out.1
      rw [List.drop_of_length_le (by rw [hB.out.2.2.2, hik]; exact Nat.le_refl _), runK] at hrun
      obtain ⟨k0, hk0, ek0⟩ := List.mem_map.1 hk.out.2.2.2.1
      have HT := H.out.nodeT hk.out.2.1 (by have := hk.out.2.2.1; have := hB.out.2.1; omega) hk0
      rw [ek0] at HT
      unfold pk at HT
      rw [hk.out.2.2.2.2] at HT
      obtain ⟨⟨t0, t1, t2, t3⟩, ht⟩ : ∃ t, treeOf ks 0 = t := ⟨_, rfl⟩
      rw [ht] at HT
      dsimp only at HT
      obtain ⟨⟨q0, q1, q2, q3⟩, q4, q5, q6, q7⟩ := box4 (H.out.blkAt (k := 0) rfl)
      replace HT := Aside0.mk HT
      replace hik := Aside0.mk hik
      replace hrun := Aside0.mk hrun
      replace ht := Aside0.mk ht
      clear hlt2 hk0 ek0
      go_wp2_with (go_at_call 22; refine HT.out.mono ?_; rintro e_ w6 ⟨v3, rfl, hR3, hb⟩; obtain ⟨Av, cv, ev⟩ := Kd.R_slice hR3; subst ev; have H6 := H.out.keep hb; obtain ⟨⟨p0, p1, p2, p3⟩, p4, p5, p6, p7⟩ := box4 (H6.blkAt (k := 0) rfl); replace hR3 := Aside0.mk (And.intro hR3 H6); clear hb H6)
      have H7 := hR3.out.2.set4X 0 rfl (.int .i64 t0) (.string t1) (.string t2) (.slice Av t3.length cv)
      refine bodyPost_ret (results_ctt rfl _ _ g4 24 #[.int .i64 t0, .string t1, .string t2, .slice Av t3.length cv] (0, 0) _ rfl (H7.blkAt (k := 0) rfl) Try.underlying24 rfl (by kernel_rfl)) rfl ?_
      refine ⟨H7.below, ?_⟩
      rw [← hrun.out]
      unfold ApplyPost
      dsimp only
      rw [ht.out]
      refine ⟨_, rfl, ?_⟩
      have hg4 : g4 < wr.heap.size := blk_lt (H.out.blkAt (k := 0) rfl)
      have h1 := Kd.R_mono (Kd.R_bound hR3.out.1) (ok' := fun k => wr.heap.size ≤ k) (fun k hk => hk.2.1)
      have hf : ∀ k, wr.heap.size ≤ k → k ≠ g4 := fun k hk => by omega
      exact Kd.R_mono (Kd.R_lower (Kd.R_far (p := ⟨g4, 3, none⟩) (Kd.R_far (p := ⟨g4, 2, none⟩) (Kd.R_far (p := ⟨g4, 1, none⟩) (Kd.R_far (p := ⟨g4, 0, none⟩) h1 hf _) hf _) hf _) hf _) H.out.below.size) (fun _ _ => trivial)
end Go.Proofs.Ytfmlpkeaiohknaa.Q
/-! script.Of's do. -/
set_option linter.unusedVariables false
set_option linter.unusedSimpArgs false
namespace Go.Proofs.Ytfmlpkeaiohknaa.Q
open Go Go.RowKit Go.Lib Go.Sort Go.Proofs.YtfmlpkeaiohknaaW.PrintWords Go.Proofs.YtfmlpkeaiohknaaW.PrintLast Go.Proofs.YtfmlpkeaiohknaaW.PrintMore Go.Proofs.YtfmlpkeaiohknaaW.SL
attribute [local go_sem] max2_int min2_int max_two min_two max_three min_three max_four min_four
section
variable {w0 w w' : World} {Z : Nat → Prop} {l L X : List Asr} {F : List FA} {α : Type} {d : Kd α} {e B i gb bm N : Nat} {v : Value} {xs : List α} {ad : Int → Nat} {ks : List Kn} {pre : List Asr}
/-- An append of an element that holds no rows. -/
theorem rowOf_app0 (S : Stt w0 Z (rowOf d e B v xs :: L) F w) :
    ∃ ok : Nat → Prop, (∀ k, w.heap.size ≤ k → ok k) ∧ d.R e w B ok v xs ∧ ∀ (v1 : Value) (w1 : World) (xs1 : List α), d.R e w1 B ok v1 xs1 → w.grownBy w1 v.ownBlock → Stt w0 Z (rowOf d e B v1 xs1 :: L) F w1 := by
  obtain ⟨f, ⟨f1, f3, he2, hd2, hb, hr⟩, hz⟩ := S.st.hs
  refine ⟨fun k => f1 k ∨ w.heap.size ≤ k, fun k hk => .inr hk, Kd.R_mono hb.2 (fun k hk => .inl hk), fun v1 w1 xs1 h1 hg => ?_⟩
  have hle := S.below.size
  have hv : ∀ k, v.ownBlock = some k → w0.heap.size ≤ k ∧ ¬ Z k := fun k hk => hz k ((he2 k).2 (.inl (hb.2.1 k hk)))
  have hkeep : ∀ k, k < w.heap.size → v.ownBlock ≠ some k → w1.heap[k]? = w.heap[k]? := fun k hk hn => hg.block k hk (fun e => hn e.symm)
  refine ⟨⟨S.below.trans ⟨hg.os, hg.tape, hg.output, hg.size, fun k hk => hkeep k (by omega) (fun e => by have := (hv k e).1; omega)⟩, fun k hk => Nat.lt_of_lt_of_le (S.st.zlt k hk) hg.size, fun k => ((f1 k ∨ w.heap.size ≤ k) ∧ k < w1.heap.size) ∨ f3 k, ⟨_, f3, fun k => Iff.rfl, fun k h1 h3 => ?_, ⟨fun k hk => hk.2, Kd.R_mono (Kd.R_bound h1) (fun k hk => ⟨hk.1, hk.2.2.1⟩)⟩, hr.loc (fun k hk => hkeep k (hr.lt k hk) (fun e => hd2 k (hb.2.1 k e) hk))⟩, fun k hk => ?_⟩, fun a ha' => a.step (S.fr a ha') (fun k hk hl => hkeep k hl (fun e => (hv k e).2 hk)) (fun _ h => h), S.old⟩
  · rcases h1.1 with h | h
    · exact hd2 k h h3
    · have := hr.lt k h3; omega
  · rcases hk with ⟨h | h, _⟩ | h
    · exact hz k ((he2 k).2 (.inl h))
    · exact ⟨by omega, fun hz' => by have := S.st.zlt k hz'; omega⟩
    · exact hz k ((he2 k).2 (.inr h))
theorem Grove.app0 (H : Grove w0 Z F gb bm pre (rowOf d e B v xs :: X) N ad ks w) :
    ∃ ok : Nat → Prop, (∀ k, w.heap.size ≤ k → ok k) ∧ d.R e w B ok v xs ∧ ∀ (v1 : Value) (w1 : World) (xs1 : List α), d.R e w1 B ok v1 xs1 → w.grownBy w1 v.ownBlock → Grove w0 Z F gb bm pre (rowOf d e B v1 xs1 :: X) N ad ks w1 := by
  obtain ⟨g, ids, m, h1, hm, hi, S⟩ := H
  unfold GL at S
  rw [← List.append_assoc] at S
  obtain ⟨ok, a1, a2, a3⟩ := rowOf_app0 (S.perm (perm_in _ X _).symm)
  refine ⟨ok, a1, a2, fun v1 w1 xs1 b1 b2 => ⟨g, ids, m, h1, hm, hi, ?_⟩⟩
  unfold GL
  rw [← List.append_assoc]
  exact (a3 v1 w1 xs1 b1 b2).perm (perm_in _ X _)
theorem Grove.rowOf_get (H : Grove w0 Z F gb bm pre X N ad ks w) {k : Nat} (h : X[k]? = some (rowOf d e B v xs)) : ∃ f : Nat → Prop, (∀ k, f k → w0.heap.size ≤ k ∧ ¬ Z k ∧ k < w.heap.size) ∧ d.R e w B f v xs :=
  H.getX fun L S => S.rowOf_at (i := L.length + k) (by rw [List.getElem?_append_right (by omega), Nat.add_sub_cancel_left]; exact h)
end
/-- The variables that do has: the edits' row, l, g. -/
def ofX (B g10 g11 gg : Nat) (v : Value) (es : List S54) (X : List Asr) : List Asr := rowOf k54 54 B v es :: blk g11 29 #[v] :: blk g10 56 #[.pointer (some ⟨gg, 0, none⟩)] :: X
set_option maxHeartbeats 8000000 in
set_option maxRecDepth 100000 in
theorem dof_calls {w0 w : World} {Z : Nat → Prop} {F : List FA} {gg bm N g10 g11 : Nat} {X : List Asr} {ad : Int → Nat} {ks : List Kn} {v : Value} {es : List S54} (H : Grove w0 Z F gg bm [] (ofX w0.heap.size g10 g11 gg v es X) N ad ks w) (I : Inv ks) (hN : N < maxLen) (hl : ks.length ≤ 1000000) (hes : es.length ≤ 100000) (x : S54) (h1 : in64 x.f1) (h2 : in64 x.f2) :
    Calls Try.prog 28 #[.agg #[.int .i64 x.f0, .int .i64 x.f1, .int .i64 x.f2, .int .i64 x.f3, .int .i64 x.f4, .string x.f5, .string x.f6], .pointer (some ⟨g10, 0, none⟩), .pointer (some ⟨g11, 0, none⟩)] w fun e w' => e = .returned (.tuple #[]) ∧ ∃ ad' v', (∀ k ∈ ks, ad' k.id = ad k.id) ∧ Grove w0 Z F gg bm [] (ofX w0.heap.size g10 g11 gg v' (es ++ [x]) X) (N + 1) ad' ((doK ks (edOf x)).getD ks) w' := by
  have HD : ∀ (X : List Asr) W, Grove w0 Z F gg bm [] X N ad ks W → Calls Try.prog 21 #[.pointer (some ⟨gg, 0, none⟩), .agg #[.int .i64 x.f0, .int .i64 x.f1, .int .i64 x.f2, .int .i64 x.f3, .int .i64 x.f4, .string x.f5, .string x.f6]] W fun e w' => e = .returned (.bool (doK ks (edOf x)).isSome) ∧ ∃ ad', (∀ k ∈ ks, ad' k.id = ad k.id) ∧ Grove w0 Z F gg bm [] X (N + 1) ad' ((doK ks (edOf x)).getD ks) w' := fun X W HW => do_calls54 HW I hN hl x h1 h2
  generalize (doK ks (edOf x)).isSome = r at HD
  generalize (doK ks (edOf x)).getD ks = ks' at HD ⊢
  unfold ofX at H ⊢
  obtain ⟨f0, hf0, hR0⟩ := H.rowOf_get (k := 0) rfl
  obtain ⟨Av, cv, ev⟩ := Kd.R_slice hR0
  subst ev
  clear hR0 hf0 f0
  replace HD := Aside0.mk HD
  have hb := Aside0.mk (⟨hes, trivial⟩ : _ ∧ True)
  clear I hN hl hes h1 h2
  have hu54 := Try.underlying54
  go_enter Try.func28, Try.ntmps28
  go_wp2_with (first | ((with_reducible refine gate_dst (N := 3) rfl ?_); refine box_event ?hg (N := 3) ?hd (cs := #[.int .i64 x.f0, .int .i64 x.f1, .int .i64 x.f2, .int .i64 x.f3, .int .i64 x.f4, .string x.f5, .string x.f6]) (t := 54) ?hr ?_; (case hd => rfl); (case hg => rfl); (case hr => first | (go_simp; done) | (go_simp; rfl)); intro g3 hg_ w1 hbox hb; replace H := H.box hg_ hbox hb; clear hbox hb hg_; obtain ⟨⟨e0, e1, e2, e3, e4, e5, e6⟩, _⟩ := box7 (H.blkAt (k := 0) rfl); have hg0 : w1.cell? ⟨g10, 0, none⟩ = some (.pointer (some ⟨gg, 0, none⟩)) := (blk_cell (H.blkAt (k := 3) rfl) 0).trans rfl) | (go_at_call 21; refine (HD.out _ _ H).mono ?_; clear H; rintro e_ w2 ⟨rfl, ad', had, H⟩; obtain ⟨⟨q0, q1, q2, q3, q4, q5, q6⟩, _⟩ := box7 (H.blkAt (k := 0) rfl); have hl0 : w2.cell? ⟨g11, 0, none⟩ = some (.slice Av es.length cv) := (blk_cell (H.blkAt (k := 2) rfl) 0).trans rfl; replace H := H.permX (List.Perm.swap _ _ _)) | ((with_reducible refine gate_builtin (b := .append) (xs := #[.tmp 7, .tmp 9]) rfl ?_); at_builtin; obtain ⟨ok, a1, a2, a3⟩ := H.app0; refine Kd.R_append k54 (w0 := w0) w0.heap.size rfl (.tmp 7) (.tmp 9) 29 54 (.agg #[(.int .i64 0), (.int .i64 0), (.int .i64 0), (.int .i64 0), (.int .i64 0), (.string ⟨#[]⟩), (.string ⟨#[]⟩)]) 72 rfl Try.underlying29 info54 rfl (by decide) (by omega) (.slice Av es.length cv) es x [.int .i64 x.f0, .int .i64 x.f1, .int .i64 x.f2, .int .i64 x.f3, .int .i64 x.f4, .string x.f5, .string x.f6] ok (fun _ => False) rfl rfl (k54_mkM _ _ _ x) (fun _ h => h.elim) a1 a2 H.below H.below.size (by have := hb.out.1; omega) ?_; intro v5 w5 hR5 _ hg5 _; have H5 := a3 _ _ _ hR5 hg5; obtain ⟨A5, c5, e5⟩ := Kd.R_slice hR5; rw [show (es ++ [x]).length = es.length + 1 from List.length_append] at e5; subst e5; obtain hl5 : w5.cell? ⟨g11, 0, none⟩ = some (.slice Av es.length cv) := (blk_cell (H5.blkAt (k := 2) rfl) 0).trans rfl; have hf5 := blk_frozen (H5.blkAt (k := 2) rfl) 0; replace H5 := Aside0.mk H5; clear a1 a2 a3 hR5 hg5))
  refine bodyPost_end (results_none rfl _ _ _) rfl ?_
  have H6 := H5.out.setAt (k := 2) rfl 0 (.slice A5 (es.length + 1) c5)
  have H7 : Grove w0 Z F gg bm [] (blk g3 54 #[.int .i64 x.f0, .int .i64 x.f1, .int .i64 x.f2, .int .i64 x.f3, .int .i64 x.f4, .string x.f5, .string x.f6] :: rowOf k54 54 w0.heap.size (.slice A5 (es.length + 1) c5) (es ++ [x]) :: blk g11 29 #[.slice A5 (es.length + 1) c5] :: blk g10 56 #[.pointer (some ⟨gg, 0, none⟩)] :: X) (N + 1) ad' ks' _ := H6.permX (List.Perm.swap _ _ _)
  exact ⟨rfl, ad', _, had, H7.drop⟩
end Go.Proofs.Ytfmlpkeaiohknaa.Q
/-! script.rising in plain Lean. -/
set_option linter.unusedVariables false
set_option linter.unusedSimpArgs false
namespace Go.Proofs.Ytfmlpkeaiohknaa.Q
/-- The row that ends at i, held against the first k places: how long, and behind which. -/
def riseIn (l lo : List Int) (i : Nat) : Nat → Int × Int
  | 0 => (1, -1)
  | k + 1 =>
    let p := riseIn l lo i k
    if l.getD k 0 < l.getD i 0 ∧ lo.getD k 0 + 1 > p.1 then (lo.getD k 0 + 1, (k : Int)) else p
structure Ri where
  lo : List Int
  ba : List Int
  be : Int
def rise (l : List Int) : Nat → Ri
  | 0 => ⟨List.replicate l.length 0, List.replicate l.length 0, -1⟩
  | i + 1 =>
    let s := rise l i
    let p := riseIn l s.lo i i
    ⟨s.lo.set i p.1, s.ba.set i p.2, if s.be < 0 ∨ p.1 > (s.lo.set i p.1).getD s.be.toNat 0 then (i : Int) else s.be⟩
def chainK (ba : List Int) : Nat → Int → List Int
  | 0, _ => []
  | n + 1, i => if i < 0 then [] else i :: chainK ba n (ba.getD i.toNat 0)
def risingK (l : List Int) : List Int := let s := rise l l.length; chainK s.ba (l.length + 1) s.be
theorem riseIn_le {l lo : List Int} {i : Nat} (h : ∀ k, k < i → 1 ≤ lo.getD k 0 ∧ lo.getD k 0 ≤ (k : Int) + 1) : ∀ k, k ≤ i → 1 ≤ (riseIn l lo i k).1 ∧ (riseIn l lo i k).1 ≤ (k : Int) + 1 ∧ -1 ≤ (riseIn l lo i k).2 ∧ (riseIn l lo i k).2 < (k : Int)
  | 0, _ => by simp [riseIn]
  | k + 1, hk => by
    have ih := riseIn_le (l := l) h k (by omega)
    have h2 := h k (by omega)
    rw [riseIn]
    split
    · refine ⟨by show 1 ≤ lo.getD k 0 + 1; omega, by show lo.getD k 0 + 1 ≤ _; omega, by show (-1 : Int) ≤ (k : Int); omega, by show (k : Int) < ((k + 1 : Nat) : Int); omega⟩
    · omega
structure RiOk (l : List Int) (i : Nat) (s : Ri) : Prop where
  llen : s.lo.length = l.length
  blen : s.ba.length = l.length
  lo : ∀ k, k < i → 1 ≤ s.lo.getD k 0 ∧ s.lo.getD k 0 ≤ (k : Int) + 1
  ba : ∀ k, k < i → -1 ≤ s.ba.getD k 0 ∧ s.ba.getD k 0 < (k : Int)
  be : -1 ≤ s.be ∧ s.be < (i : Int)
theorem getD_set {l : List Int} {i k : Nat} {v : Int} : (l.set i v).getD k 0 = if i = k then (if k < l.length then v else 0) else l.getD k 0 := by
  simp only [List.getD_eq_getElem?_getD, List.getElem?_set]
  by_cases e : i = k
  · subst e
    rw [if_pos rfl, if_pos rfl]
    by_cases h : i < l.length
    · rw [if_pos h, if_pos h]; rfl
    · rw [if_neg h, if_neg h]; rfl
  · rw [if_neg e, if_neg e]
theorem rise_ok (l : List Int) : ∀ i, i ≤ l.length → RiOk l i (rise l i)
  | 0, _ => ⟨by simp [rise], by simp [rise], fun k hk => absurd hk (by omega), fun k hk => absurd hk (by omega), by simp [rise]⟩
  | i + 1, hi => by
    have ih := rise_ok l i (by omega)
    have hp := riseIn_le (l := l) ih.lo i (Nat.le_refl _)
    rw [rise]
    refine ⟨by rw [List.length_set]; exact ih.llen, by rw [List.length_set]; exact ih.blen, fun k hk => ?_, fun k hk => ?_, ?_⟩
    · dsimp only
      rw [getD_set]
      by_cases e : i = k
      · rw [if_pos e, if_pos (by rw [ih.llen]; omega)]; omega
      · rw [if_neg e]; exact ih.lo k (by omega)
    · dsimp only
      rw [getD_set]
      by_cases e : i = k
      · rw [if_pos e, if_pos (by rw [ih.blen]; omega)]; omega
      · rw [if_neg e]; exact ih.ba k (by omega)
    · have := ih.be
      dsimp only
      split <;> omega
end Go.Proofs.Ytfmlpkeaiohknaa.Q
/-! script.rising. -/
set_option linter.unusedVariables false
set_option linter.unusedSimpArgs false
namespace Go.Proofs.Ytfmlpkeaiohknaa.Q
open Go Go.RowKit Go.Lib Go.Sort Go.Proofs.YtfmlpkeaiohknaaW.PrintWords Go.Proofs.YtfmlpkeaiohknaaW.PrintLast Go.Proofs.YtfmlpkeaiohknaaW.PrintMore Go.Proofs.YtfmlpkeaiohknaaW.SL
attribute [local go_sem] max2_int min2_int max_two min_two max_three min_three max_four min_four
def iA (l : List Int) : Array Value := (l.map (Value.int .i64)).toArray
theorem iA_set (l : List Int) (i : Nat) (v : Int) : (iA l).setIfInBounds i (.int .i64 v) = iA (l.set i v) := by
  unfold iA
  rw [List.map_set, List.setIfInBounds_toArray]
theorem iA_get {l : List Int} {i : Nat} (h : i < l.length) : (iA l)[i]? = some (.int .i64 (l.getD i 0)) := by
  unfold iA
  simp [List.getD_eq_getElem?_getD, List.getElem?_eq_getElem h]
theorem set_step {K : Int → Bool} {x a : Int} {l : List Int} : (K x = true ∨ x ∈ a :: l) ↔ ((K x || decide (x = a)) = true ∨ x ∈ l) := by
  rw [List.mem_cons, ← or_assoc, Bool.or_eq_true, decide_eq_true_eq]
theorem make_ints (n : Nat) (hn : n ≤ 1000000) (W : World) : (Instr.makeSlice 36 (.int .i64 (n : Int)) (.int .i64 (n : Int))).run Try.prog W = .ok (.slice (some ⟨W.heap.size, 0, none⟩) n n) (W.alloc (.cells (iA (List.replicate n 0)) 3)) := by
  obtain ⟨i0, hi, hzz⟩ := Option.map_eq_some_iff.1 info3
  simp only [Prod.mk.injEq] at hzz
  obtain ⟨hz0, hz1, hz2⟩ := hzz
  have h := run_make (P := Try.prog) W 36 3 i0 (.int .i64 0) Try.underlying36 hi hz0 .i64 .i64 (n : Int) (n : Int) (by omega) (Int.le_refl _) (by rw [hz2]; omega) (by omega)
  rw [h, hz1]
  simp only [Int.toNat_natCast, Nat.mul_one]
  have e : madeCells (Value.int .i64 0).cells n = iA (List.replicate n 0) := by
    apply Array.ext'
    have h2 := toList_madeCells_one (.int .i64 0) n
    rw [show (Value.int .i64 0).cells = #[Value.int .i64 0] from rfl, h2]
    unfold iA
    simp
  rw [e]
set_option maxHeartbeats 4000000 in
set_option maxRecDepth 100000 in
theorem rising_calls {w0 w : World} {Z : Nat → Prop} {L : List Asr} {F : List FA} (S : Stt w0 Z L F w) (l : List Int) (hn6 : l.length ≤ 100000) {A : Option Addr} {c : Nat} (hF : ∀ (a b : Asr) (W : World), Stt w0 Z (a :: b :: L) F W → Kd.C (Kd.int .i64) W A l.length l) :
    Calls Try.prog 30 #[.slice A l.length c] w fun e w' => ∃ b m, e = .returned (.map (some b)) ∧ m ≤ l.length + 1 ∧ Stt w0 Z (mpS b m (fun x => decide (x ∈ risingK l)) :: L) F w' := by
  obtain ⟨n, hn⟩ : ∃ n, l.length = n := ⟨_, rfl⟩
  rw [hn] at hn6 ⊢
  have hmk := make_ints n (by omega)
  have hmm := @run_makeMap Try.prog
  have hmix : Try.prog.follows .mixedOrders = true := by kernel_rfl
  replace S := Aside0.mk S
  have HN := Aside0.mk (⟨hn, hn6, hF⟩ : _ ∧ _ ∧ _)
  clear hn hn6 hF
  go_enter Try.func30, Try.ntmps30
  go_upto_region 1 with fail
  go_cut [3, 4] (fun v3 v4 W => ∃ g3 g4, v3 = .slice (some ⟨g3, 0, none⟩) n n ∧ v4 = .slice (some ⟨g4, 0, none⟩) n n ∧ Aside0 (Stt w0 Z (blk g3 3 (iA (List.replicate n 0)) :: blk g4 3 (iA (List.replicate n 0)) :: L) F W))
  case first =>
    have T : Stt w0 Z (blk (w.heap.size + 1) 3 (iA (List.replicate n 0)) :: blk w.heap.size 3 (iA (List.replicate n 0)) :: L) F ((w.alloc (.cells (iA (List.replicate n 0)) 3)).alloc (.cells (iA (List.replicate n 0)) 3)).drew := by
      have e : (w.alloc (.cells (iA (List.replicate n 0)) 3)).heap.size = w.heap.size + 1 := by simp
      have T := ((S.out.box rfl (heap_alloc_new w (.cells (iA (List.replicate n 0)) 3)) (below_alloc (Below.refl _ _) _)).box rfl (heap_alloc_new (w.alloc (.cells (iA (List.replicate n 0)) 3)) (.cells (iA (List.replicate n 0)) 3)) (below_alloc (Below.refl _ _) _)).drew
      rw [e] at T
      exact T
    replace T := Aside0.mk T
    go_region_o
    all_goals (go_wp2_with fail; go_meet; first | exact ⟨_, _, rfl, rfl, ⟨T.out.perm (List.Perm.swap _ _ _)⟩⟩ | exact ⟨_, _, rfl, rfl, T⟩)
  case rest =>
    obtain ⟨g3, g4, rfl, rfl, S2⟩ := hcut
    clear S hmk
    go_wp2
    go_loopg [5, 18] (n + 1) (fun kq v5 v18 W => ∃ (i : Nat), v18 = .int .i64 (i : Int) ∧ v5 = .int .i64 (rise l i).be ∧ Aside0 (i ≤ n ∧ kq = n - i + 1) ∧ Aside0 (Stt w0 Z (blk g3 3 (iA (rise l i).lo) :: blk g4 3 (iA (rise l i).ba) :: L) F W))
    case atStart => exact ⟨0, rfl, rfl, ⟨Nat.zero_le _, rfl⟩, ⟨by have e := S2.out; rw [← HN.out.1] at e; exact e⟩⟩
    case round =>
      clear S2
      obtain ⟨i, rfl, rfl, hi, SW⟩ := hrel
      have hok := rise_ok l i (by rw [HN.out.1]; exact hi.out.1)
      obtain ⟨⟨lo, ba, be⟩, hs⟩ : ∃ s, rise l i = s := ⟨_, rfl⟩
      rw [hs] at SW hok ⊢
      dsimp only at SW hok ⊢
      replace hs := Aside0.mk hs
      have hne := blk_ne SW.out (i := 0) (j := 1) rfl rfl (by decide)
      have hne2 := Ne.symm hne
      have hll := hok.llen.trans HN.out.1
      have hbl := hok.blen.trans HN.out.1
      dsimp only at hll hbl
      by_cases hlt2 : i < n
      · have i1 : decide ((i : Int) < (n : Int)) = true := decide_eq_true (by omega)
        have i2 : (0 : Int) ≤ (i : Int) := by omega
        have i3 : (i : Int) < (n : Int) := by omega
        have f3 := blk_frozen (SW.out.at_blk 0 rfl) i
        have f4 := blk_frozen (SW.out.at_blk 1 rfl) i
        have e3 := (blk_cell (SW.out.at_blk 0 rfl) i).trans (iA_get (by omega))
        have e4 := (blk_cell (SW.out.at_blk 1 rfl) i).trans (iA_get (by omega))
        have S5 := (SW.out.of (SW.out.st.set (i := 0) rfl i (.int .i64 1)))
        have S6 := Aside0.mk (S5.of (S5.st.set (i := 1) rfl i (.int .i64 (-1))))
        clear S5
        replace hll := Aside0.mk hll
        replace hbl := Aside0.mk hbl
        replace hlt2 := Aside0.mk hlt2
        replace hok := Aside0.mk hok
        go_wp2
        obtain ⟨wq, hwq⟩ : ∃ wq, ((wr.setCell ⟨g3, i, none⟩ (.int .i64 1)).setCell ⟨g4, i, none⟩ (.int .i64 (-1))) = wq := ⟨_, rfl⟩
        rw [hwq] at S6 ⊢
        clear hwq SW f3 f4 e3 e4
        obtain ⟨wb, rfl⟩ : ∃ x, x = wr := ⟨_, rfl⟩
        clear i1
        go_loopg [28] (i + 1) (fun kq v28 W => ∃ (k : Nat), v28 = .int .i64 (k : Int) ∧ Aside0 (k ≤ i ∧ kq = i - k + 1) ∧ Aside0 (Stt w0 Z (blk g3 3 (iA (lo.set i (riseIn l lo i k).1)) :: blk g4 3 (iA (ba.set i (riseIn l lo i k).2)) :: L) F W))
        case atStart => exact ⟨0, rfl, ⟨Nat.zero_le _, rfl⟩, ⟨by have e := S6.out; simp only [List.set_cons_zero, List.set_cons_succ, iA_set] at e; exact e⟩⟩
        case round =>
          clear S6
          obtain ⟨k, rfl, hk, SW⟩ := hrel
          have hp := riseIn_le (l := l) hok.out.lo k hk.out.1
          obtain ⟨⟨p1, p2⟩, hpq⟩ : ∃ q, riseIn l lo i k = q := ⟨_, rfl⟩
          rw [hpq] at SW hp
          dsimp only at SW hp
          replace hpq := Aside0.mk hpq
          by_cases hlk : k < i
          · have k1 : decide ((k : Int) < (i : Int)) = true := decide_eq_true (by omega)
            have k2 : (0 : Int) ≤ (k : Int) := by omega
            have k4 : (k : Int) < (i : Int) := by omega
            have k5 : decide (k < i) = true := decide_eq_true hlk
            have k3 : (k : Int) < (n : Int) := by omega
            obtain ⟨adA, rfl, lK⟩ := Kd.at_int (HN.out.2.2 _ _ _ SW.out) (k : Int) k2 (by rw [HN.out.1]; exact k3)
            obtain ⟨adA', eA, lI⟩ := Kd.at_int (HN.out.2.2 _ _ _ SW.out) (i : Int) i2 (by rw [HN.out.1]; exact i3)
            obtain rfl := Option.some.inj eA
            simp only [Int.toNat_natCast] at lK lI
            rw [show rd l (k : Int) = l.getD k 0 from rfl] at lK
            rw [show rd l (i : Int) = l.getD i 0 from rfl] at lI
            have hkl := hok.out.lo k hlk
            have r3i : wr.cell? ⟨g3, i, none⟩ = some (.int .i64 p1) := (blk_cell (SW.out.at_blk 0 rfl) i).trans (by rw [iA_get (by rw [List.length_set, hll.out]; exact hlt2.out), getD_set, if_pos rfl, if_pos (by rw [hll.out]; exact hlt2.out)])
            have r3k : wr.cell? ⟨g3, k, none⟩ = some (.int .i64 (lo.getD k 0)) := (blk_cell (SW.out.at_blk 0 rfl) k).trans (by rw [iA_get (by rw [List.length_set, hll.out]; have := hlt2.out; omega), getD_set, if_neg (by omega)])
            have r4i : wr.cell? ⟨g4, i, none⟩ = some (.int .i64 p2) := (blk_cell (SW.out.at_blk 1 rfl) i).trans (by rw [iA_get (by rw [List.length_set, hbl.out]; exact hlt2.out), getD_set, if_pos rfl, if_pos (by rw [hbl.out]; exact hlt2.out)])
            have f3 := blk_frozen (SW.out.at_blk 0 rfl) i
            have f4 := blk_frozen (SW.out.at_blk 1 rfl) i
            have hnx : riseIn l lo i (k + 1) = if l.getD k 0 < l.getD i 0 ∧ lo.getD k 0 + 1 > p1 then (lo.getD k 0 + 1, (k : Int)) else (p1, p2) := by rw [riseIn, hpq.out]
            obtain ⟨lk, hlk1⟩ : ∃ x, l.getD k 0 = x := ⟨_, rfl⟩
            obtain ⟨li, hli1⟩ : ∃ x, l.getD i 0 = x := ⟨_, rfl⟩
            obtain ⟨lok, hlok1⟩ : ∃ x, lo.getD k 0 = x := ⟨_, rfl⟩
            rw [hlk1] at lK hnx
            rw [hli1] at lI hnx
            rw [hlok1] at r3k hkl hnx
            have hn9 := HN.out.2.1
            have hi9 := hi.out.1
            have hw1 : wrap64 (lok + 1) = lok + 1 := by unfold wrap64; omega
            have hwk : wrap64 ((k : Int) + 1) = ((k + 1 : Nat) : Int) := by clear hw1; unfold wrap64; omega
            have HW := Aside0.mk (⟨hw1, hwk, hkl, hlk, hp⟩ : _ ∧ _ ∧ _ ∧ _ ∧ _)
            have hki : k ≠ i := Nat.ne_of_lt HW.out.2.2.2.1
            replace hnx := Aside0.mk hnx
            clear hlk1 hli1 hlok1 hkl hp hlk hwk hn9 hi9
            by_cases c1 : lk < li
            · have d1 : decide (lk < li) = true := decide_eq_true c1
              by_cases c2 : p1 < lok + 1
              · have d2 : decide (p1 < lok + 1) = true := decide_eq_true c2
                replace hnx := Aside0.mk (hnx.out.trans (if_pos ⟨c1, c2⟩))
                clear c1 c2
                go_wp2
                go_region_o
                go_wp2
                have S8 := SW.out.of (SW.out.st.set (i := 0) rfl i (.int .i64 (lok + 1)))
                have S9 := S8.of (S8.st.set (i := 1) rfl i (.int .i64 (k : Int)))
                simp only [List.set_cons_zero, List.set_cons_succ, iA_set, List.set_set] at S9
                go_roundg (i - k)
                case rel => exact ⟨k + 1, by rw [HW.out.2.1], ⟨by have := HW.out.2.2.2.1; omega, by have := HW.out.2.2.2.1; omega⟩, ⟨by rw [hnx.out]; exact S9.drew⟩⟩
                case measure => have := hk.out; have := HW.out.2.2.2.1; omega
              · have d2 : decide (p1 < lok + 1) = false := decide_eq_false c2
                have hnx2 : riseIn l lo i (k + 1) = (p1, p2) := hnx.out.trans (if_neg (fun h => c2 h.2))
                clear hnx
                have hnx := Aside0.mk hnx2
                clear hnx2
                clear c1 c2
                go_wp2
                go_region_o
                go_wp2
                go_roundg (i - k)
                case rel => exact ⟨k + 1, by rw [HW.out.2.1], ⟨by have := HW.out.2.2.2.1; omega, by have := HW.out.2.2.2.1; omega⟩, ⟨by rw [hnx.out]; exact SW.out.drew⟩⟩
                case measure => have := hk.out; have := HW.out.2.2.2.1; omega
            · have d1 : decide (lk < li) = false := decide_eq_false c1
              have hnx2 : riseIn l lo i (k + 1) = (p1, p2) := hnx.out.trans (if_neg (fun h => c1 h.1))
              clear hnx
              have hnx := Aside0.mk hnx2
              clear hnx2
              clear c1
              go_wp2
              go_quiet (fail)
              go_wp2
              go_roundg (i - k)
              case rel => exact ⟨k + 1, by rw [HW.out.2.1], ⟨by have := HW.out.2.2.2.1; omega, by have := HW.out.2.2.2.1; omega⟩, ⟨by rw [hnx.out]; exact SW.out.keep ⟨rfl, rfl, rfl, Nat.le_refl _, fun _ _ => rfl⟩⟩⟩
              case measure => have := hk.out; have := HW.out.2.2.2.1; omega
          · have hik : k = i := by have := hk.out.1; omega
            subst hik
            have k1 : decide ((k : Int) < (k : Int)) = false := by simp
            have hnx : rise l (k + 1) = ⟨lo.set k p1, ba.set k p2, if be < 0 ∨ p1 > (lo.set k p1).getD be.toNat 0 then (k : Int) else be⟩ := by rw [rise, hs.out]; dsimp only; rw [hpq.out]
            have r3i : wr.cell? ⟨g3, k, none⟩ = some (.int .i64 p1) := (blk_cell (SW.out.at_blk 0 rfl) k).trans (by rw [iA_get (by rw [List.length_set, hll.out]; exact hlt2.out), getD_set, if_pos rfl, if_pos (by rw [hll.out]; exact hlt2.out)])
            have hbe := hok.out.be
            dsimp only at hbe
            have hwk : wrap64 ((k : Int) + 1) = ((k + 1 : Nat) : Int) := by have := HN.out.2.1; have := hlt2.out; clear hp hbe; unfold wrap64; omega
            replace hwk := Aside0.mk hwk
            replace hnx := Aside0.mk hnx
            clear hlk hp
            by_cases c1 : be < 0
            · have d1 : decide (be < 0) = true := decide_eq_true c1
              replace hnx := Aside0.mk (hnx.out.trans (by rw [if_pos (.inl c1)]))
              clear c1 hbe
              go_wp2
              go_region_o
              go_wp2
              go_roundg (n - k)
              case rel => exact ⟨k + 1, by rw [hwk.out], by rw [hnx.out], ⟨by have := hlt2.out; omega, by have := hlt2.out; omega⟩, ⟨by rw [hnx.out]; exact SW.out.drew⟩⟩
              case measure => have := hi.out; have := hlt2.out; omega
            · have d1 : decide (be < 0) = false := decide_eq_false c1
              obtain ⟨b, rfl⟩ : ∃ b : Nat, be = (b : Int) := ⟨be.toNat, by omega⟩
              have b2 : (0 : Int) ≤ (b : Int) := by omega
              have hbk : b < k := by omega
              have b3 : (b : Int) < (n : Int) := by have := hlt2.out; omega
              have r3b : wr.cell? ⟨g3, b, none⟩ = some (.int .i64 (lo.getD b 0)) := (blk_cell (SW.out.at_blk 0 rfl) b).trans (by rw [iA_get (by rw [List.length_set, hll.out]; have := hlt2.out; omega), getD_set, if_neg (by omega)])
              replace hnx := Aside0.mk (hnx.out.trans (by rw [Int.toNat_natCast, getD_set, if_neg (by omega : ¬ k = b)]))
              obtain ⟨lb, hlb⟩ : ∃ x, lo.getD b 0 = x := ⟨_, rfl⟩
              rw [hlb] at r3b hnx
              replace hbk := Aside0.mk hbk
              clear hlb hbe
              by_cases c2 : lb < p1
              · have d2 : decide (lb < p1) = true := decide_eq_true c2
                replace hnx := Aside0.mk (hnx.out.trans (by rw [if_pos (.inr c2)]))
                clear c1 c2
                go_wp2
                go_region_o
                go_wp2
                go_roundg (n - k)
                case rel => exact ⟨k + 1, by rw [hwk.out], by rw [hnx.out], ⟨by have := hlt2.out; omega, by have := hlt2.out; omega⟩, ⟨by rw [hnx.out]; exact SW.out.drew⟩⟩
                case measure => have := hi.out; have := hlt2.out; omega
              · have d2 : decide (lb < p1) = false := decide_eq_false c2
                replace hnx := Aside0.mk (hnx.out.trans (by rw [if_neg (fun h => h.elim c1 c2)]))
                clear c1 c2
                go_wp2
                go_region_o
                go_wp2
                go_roundg (n - k)
                case rel => exact ⟨k + 1, by rw [hwk.out], by rw [hnx.out], ⟨by have := hlt2.out; omega, by have := hlt2.out; omega⟩, ⟨by rw [hnx.out]; exact SW.out.drew⟩⟩
                case measure => have := hi.out; have := hlt2.out; omega
      · have hin : i = n := by have := hi.out.1; omega
        have i1 : decide ((i : Int) < (n : Int)) = false := decide_eq_false (by omega)
        have i1b : decide (i < n) = false := decide_eq_false (by omega)
        have i1c : ¬ (i : Int) < (n : Int) := by omega
        have hrk : risingK l = chainK ba (n + 1) be := by unfold risingK; rw [HN.out.1, ← hin, hs.out]
        replace hok := Aside0.mk hok
        replace hll := Aside0.mk hll
        replace hbl := Aside0.mk hbl
        replace hin := Aside0.mk hin
        replace hrk := Aside0.mk hrk
        clear hlt2 hne hne2
        go_wp2
        have S9 := set_new SW.out
        obtain ⟨b, hb⟩ : ∃ b, wr.heap.size = b := ⟨_, rfl⟩
        rw [hb] at S9 ⊢
        obtain ⟨wq, hwq⟩ : ∃ wq, wr.alloc (.map #[] 0) = wq := ⟨_, rfl⟩
        rw [hwq] at S9 ⊢
        clear hwq hb SW i1 i1b i1c
        obtain ⟨wb, rfl⟩ : ∃ x, x = wr := ⟨_, rfl⟩
        replace S9 := Aside0.mk S9
        go_loopg [9] (n + 1) (fun kq v9 W => ∃ (j : Int) (m : Nat) (K : Int → Bool), v9 = .int .i64 j ∧ Aside0 (-1 ≤ j ∧ j < (kq : Int) ∧ j < (n : Int) ∧ m + kq ≤ n + 1 ∧ ∀ x, x ∈ risingK l ↔ K x = true ∨ x ∈ chainK ba kq j) ∧ Aside0 (Stt w0 Z (mpS b m K :: blk g3 3 (iA lo) :: blk g4 3 (iA ba) :: L) F W))
        case atStart => exact ⟨be, 0, fun _ => false, rfl, ⟨hok.out.be.1, by have := hok.out.be.2; have := hin.out; dsimp only at *; omega, by have := hok.out.be.2; have := hin.out; dsimp only at *; omega, by omega, fun x => by rw [hrk.out]; simp⟩, S9⟩
        case round =>
          clear S9
          obtain ⟨j, m, K, rfl, hj, SW⟩ := hrel
          by_cases c1 : 0 ≤ j
          · have d1 : decide (0 ≤ j) = true := decide_eq_true c1
            obtain ⟨a, rfl⟩ : ∃ a : Nat, j = (a : Int) := ⟨j.toNat, by omega⟩
            obtain ⟨q, rfl⟩ : ∃ q, gk = q + 1 := ⟨gk - 1, by have := hj.out.2.1; omega⟩
            have han : a < n := by have := hj.out.2.2.1; omega
            have a2 : (a : Int) < (n : Int) := by omega
            have hba := hok.out.ba a (by have := hin.out; omega)
            dsimp only at hba
            have h64 : in64 (a : Int) := in64_nat (by have := HN.out.2.1; omega)
            obtain ⟨w8, hr8, S10, _⟩ := set_put SW.out 0 rfl h64 (by have := hj.out.2.2.2.1; have := HN.out.2.1; simp only [maxLen]; omega)
            have r4 : w8.cell? ⟨g4, a, none⟩ = some (.int .i64 (ba.getD a 0)) := (blk_cell (S10.at_blk 2 rfl) a).trans (iA_get (by rw [hbl.out]; exact han))
            have hch : chainK ba (q + 1) (a : Int) = (a : Int) :: chainK ba q (ba.getD a 0) := by rw [chainK, if_neg (by omega), Int.toNat_natCast]
            obtain ⟨nx, hnx⟩ : ∃ x, ba.getD a 0 = x := ⟨_, rfl⟩
            rw [hnx] at r4 hch hba
            replace hr8 := Aside0.mk hr8
            have HW := Aside0.mk (⟨hch, hba, han⟩ : _ ∧ _ ∧ _)
            replace S10 := Aside0.mk S10
            clear hnx hch hba han h64
            go_wp2_with (refine wpl_mapput rfl 74 _ _ _ rfl _ _ _ (by rfl) (by rfl) (by rfl) hr8.out ?_)
            go_roundg q
            case rel => exact ⟨nx, m + 1, _, rfl, ⟨HW.out.2.1.1, by have := HW.out.2.1; have := hj.out; omega, by have := HW.out.2.1; have := HW.out.2.2; omega, by have := hj.out; omega, fun x => by rw [hj.out.2.2.2.2 x, HW.out.1]; exact set_step⟩, S10⟩
            case measure => omega
          · have d1 : decide (0 ≤ j) = false := decide_eq_false c1
            have hnil : chainK ba gk j = [] := by
              cases gk with
              | zero => rfl
              | succ q => rw [chainK, if_pos (by omega)]
            replace hnil := Aside0.mk hnil
            go_wp2
            go_ret
            refine ⟨b, rfl, m, by have := hj.out.2.2.2.1; omega, ?_⟩
            have hK : (fun x => decide (x ∈ risingK l)) = K := by
              funext x
              have := hj.out.2.2.2.2 x
              rw [hnil.out] at this
              cases h : K x with
              | true => rw [h] at this; exact decide_eq_true (this.2 (.inl rfl))
              | false => rw [h] at this; exact decide_eq_false (fun h2 => by have := this.1 h2; simp at this)
            rw [hK]
            exact (SW.out.perm (l' := blk g3 3 (iA lo) :: blk g4 3 (iA ba) :: mpS b m K :: L) (by
              have h1 : ∀ (p q r : Asr) (l : List Asr), (p :: q :: r :: l).Perm (q :: r :: p :: l) := fun p q r l => (List.perm_append_comm (l₁ := [p]) (l₂ := [q, r])).append_right l
              exact h1 _ _ _ _)).drop.drop
end Go.Proofs.Ytfmlpkeaiohknaa.Q
/-! script.Of in plain Lean. -/
set_option linter.unusedVariables false
set_option linter.unusedSimpArgs false
namespace Go.Proofs.Ytfmlpkeaiohknaa.Q
/-- What Of has so far: names of b's places, the next new name, the grove, the edits. -/
structure Os where
  nm : List Int
  nx : Int
  ks : List Kn
  ed : List S54
open Classical in
noncomputable def Os.run (s : Os) (e : S54) : Option Os := if s.ed.length < 100000 ∧ in64 e.f1 ∧ in64 e.f2 then some { s with ks := (doK s.ks (edOf e)).getD s.ks, ed := s.ed ++ [e] } else none
open Classical in
noncomputable def st1 (N M : List S24) (s : Os) (x : Int × Int) : Option Os :=
  let s1 : Os := { s with nm := s.nm.set x.2.toNat x.1 }
  let m := N.getD x.1.toNat z24
  let n := M.getD x.2.toNat z24
  if m.f1 = n.f1 ∧ m.f2 = n.f2 then some s1 else s1.run ⟨3, x.1, 0, 0, 0, n.f1, n.f2⟩
noncomputable def ph1 (N M : List S24) : List (Int × Int) → Os → Option Os
  | [], s => some s
  | x :: r, s => (st1 N M s x).bind (ph1 N M r)
open Classical in
noncomputable def kidStep (M : List S24) (i : Nat) (stay : Int → Bool) (s : Os × Int) (k : Int) : Option (Os × Int) :=
  if s.1.nm.getD k.toNat 0 < 0 then
    let n := M.getD k.toNat z24
    ({ s.1 with nm := s.1.nm.set k.toNat s.1.nx, nx := s.1.nx + 1 } : Os).run ⟨1, s.1.nx, (s.1.nm.set k.toNat s.1.nx).getD i 0, s.2, n.f0, n.f1, n.f2⟩ |>.map fun t => (t, s.1.nx)
  else if stay k = true then some (s.1, s.1.nm.getD k.toNat 0)
  else (s.1.run ⟨4, s.1.nm.getD k.toNat 0, s.1.nm.getD i 0, s.2, 0, ⟨#[]⟩, ⟨#[]⟩⟩).map fun t => (t, s.1.nm.getD k.toNat 0)
noncomputable def kidsR (M : List S24) (i : Nat) (stay : Int → Bool) : List Int → Os × Int → Option (Os × Int)
  | [], s => some s
  | k :: r, s => (kidStep M i stay s k).bind (kidsR M i stay r)
/-- Kids of b's that stand here already. -/
def thereK (nm : List Int) (p : Kn) (kids : List Int) : List Int := kids.filter fun k => decide (0 ≤ nm.getD k.toNat 0) && decide (0 ≤ placeOf p.kids (nm.getD k.toNat 0))
def placesK (nm : List Int) (p : Kn) (kids : List Int) : List Int := (thereK nm p kids).map fun k => placeOf p.kids (nm.getD k.toNat 0)
def stayK (nm : List Int) (p : Kn) (kids : List Int) (k : Int) : Bool := (risingK (placesK nm p kids)).any fun at_ => decide ((thereK nm p kids).getD at_.toNat 0 = k)
noncomputable def placeStep (M : List S24) (K : List (List Int)) (s : Os) (i : Nat) : Option Os :=
  match gAt s.ks (s.nm.getD i 0) with
  | none => none
  | some p => (kidsR M i (stayK s.nm p (K.getD i [])) (K.getD i []) (s, -1)).map (·.1)
noncomputable def ph2 (M : List S24) (K : List (List Int)) : Nat → Nat → Os → Option Os
  | 0, _, s => some s
  | n + 1, i, s => (placeStep M K s i).bind (ph2 M K n (i + 1))
noncomputable def ph3 (kept : Int → Bool) : Nat → Os → Option Os
  | 0, s => some s
  | n + 1, s => (if kept (n : Int) = true then some s else s.run ⟨2, (n : Int), 0, 0, 0, ⟨#[]⟩, ⟨#[]⟩⟩).bind (ph3 kept n)
noncomputable def ofK (N : List S24) (P : List Int) (M : List S24) (K : List (List Int)) (prs : List (Int × Int)) : Option Os :=
  (ph1 N M prs ⟨List.replicate M.length (-1), (N.length : Int), groveP N P N.length, []⟩).bind fun s1 => (ph2 M K M.length 0 s1).bind fun s2 => ph3 (fun x => decide (x ∈ prs.map (·.1))) N.length s2
/-- What holds of the state. -/
structure OsOk (m : Nat) (s : Os) : Prop where
  inv : Inv s.ks
  len : s.ks.length ≤ 1000 + s.ed.length
  nm : s.nm.length = m
theorem Os.run_ok {m : Nat} {s t : Os} {e : S54} (h : OsOk m s) (hr : s.run e = some t) : OsOk m t ∧ t.ks = (doK s.ks (edOf e)).getD s.ks ∧ t.ed = s.ed ++ [e] ∧ t.nm = s.nm ∧ t.nx = s.nx ∧ s.ed.length < 100000 ∧ in64 e.f1 ∧ in64 e.f2 := by
  unfold Os.run at hr
  split at hr
  · rename_i hc
    injection hr with hr
    subst hr
    refine ⟨⟨?_, ?_, h.nm⟩, rfl, rfl, rfl, rfl, hc.1, hc.2.1, hc.2.2⟩
    · dsimp only
      cases hd : doK s.ks (edOf e) with
      | none => exact h.inv
      | some ks' => exact doK_inv h.inv hc.2.1 hd
    · dsimp only
      rw [List.length_append]
      have := h.len
      cases hd : doK s.ks (edOf e) with
      | none => show s.ks.length ≤ _; simp; omega
      | some ks' =>
        have := doK_len hd
        show ks'.length ≤ _
        simp; omega
  · cases hr
end Go.Proofs.Ytfmlpkeaiohknaa.Q
/-! More of a grove beside other blocks: rows that are gathered, rising called. -/
set_option linter.unusedVariables false
set_option linter.unusedSimpArgs false
namespace Go.Proofs.Ytfmlpkeaiohknaa.Q
open Go Go.RowKit Go.Lib Go.Sort Go.Proofs.YtfmlpkeaiohknaaW.PrintWords Go.Proofs.YtfmlpkeaiohknaaW.SL
section
variable {w0 w w' : World} {Z : Nat → Prop} {F F' : List FA} {gb bm N k b m : Nat} {pre X : List Asr} {ad : Int → Nat} {ks : List Kn} {K : Int → Bool}
theorem row_C {α : Type} {d : Kd α} {e B : Nat} {A : Option Addr} {c : Nat} {ok : Nat → Prop} {xs : List α} (h : d.R e w B ok (.slice A xs.length c) xs) : xs.length ≤ c ∧ Kd.C d w A xs.length xs := by
  obtain ⟨A2, c2, e2, h1, h2⟩ := Kd.N_V (base' := 0) (Kd.R_N (Kd.R_bound h))
  injection e2 with e3 e4 e5
  subst e3
  subst e5
  exact ⟨h1, Kd.F_now h2⟩
theorem Grove.addF {a : FA} (H : Grove w0 Z F gb bm pre X N ad ks w) (h : ∀ L, Stt w0 Z L F w → a.P w Z) : Grove w0 Z (a :: F) gb bm pre X N ad ks w := H.onX fun L S => S.add (h _ S)
theorem Grove.lessF (H : Grove w0 Z F gb bm pre X N ad ks w) (h : ∀ a ∈ F', a ∈ F) : Grove w0 Z F' gb bm pre X N ad ks w := H.onX fun L S => stt_lessF S h
theorem Grove.rowC {α : Type} {d : Kd α} {e B : Nat} {A : Option Addr} {c n : Nat} {xs : List α} (H : Grove w0 Z F gb bm pre X N ad ks w) (hn : xs.length = n) (hk : X[k]? = some (rowOf d e B (.slice A n c) xs)) : n ≤ c ∧ Kd.C d w A n xs := by
  subst hn
  obtain ⟨f, _, hR⟩ := H.rowOf_get hk
  exact row_C hR
/-- A row of rows that is kept: one of them. -/
theorem rdL_row {L : List Asr} {A : Option Addr} {c j : Nat} {Kr : List (List Int)} (S : Stt w0 Z L F w) (hF : F[j]? = some (rdV (Kd.slice 3 (Kd.int .i64)) A c Kr)) (i : Nat) (hi : i < Kr.length) :
    ∃ a A0 c0, A = some a ∧ w.cell? (a.add i) = some (.slice A0 (Kr.getD i []).length c0) ∧ (rdV (Kd.int .i64) A0 c0 (Kr.getD i [])).P w Z := by
  have h := S.rd j hF
  obtain ⟨al, cs, eA, hcl, hFK, hcc, _⟩ := Kd.F_get h.2 [] (i : Int) (by omega) (by omega)
  rw [Int.toNat_natCast] at hFK hcc
  obtain ⟨A0, c0, rfl, h1, h2⟩ := Kd.FK_slice_open hFK
  have hq := hcc 0 _ rfl
  rw [show (i * (Kd.slice 3 (Kd.int .i64)).sz + 0) = i from by show i * 1 + 0 = i; omega] at hq
  exact ⟨al, A0, c0, eA, hq, h1, h2⟩
/-- script.rising -/
theorem Grove.rising {B : Nat} {A : Option Addr} {c : Nat} {l : List Int} (H : Grove w0 Z F gb bm pre X N ad ks w) (hk : X[k]? = some (rowOf (Kd.int .i64) 3 B (.slice A l.length c) l)) (hl : l.length ≤ 100000) :
    Calls Try.prog 30 #[.slice A l.length c] w fun e w' => ∃ b m, e = .returned (.map (some b)) ∧ m ≤ l.length + 1 ∧ Grove w0 Z F gb bm pre (mpS b m (fun x => decide (x ∈ risingK l)) :: X) N ad ks w' := by
  obtain ⟨g, ids, mm, h1, hm, hids, S⟩ := H
  unfold GL at S
  rw [← List.append_assoc] at S
  refine (rising_calls S l hl (A := A) (c := c) (fun a b W SW => ?_)).mono ?_
  · obtain ⟨f, _, hR⟩ := SW.rowOf_at (i := ((blk gb 61 #[.map (some bm)] :: mpK bm mm ad ids :: pre) ++ gvA ad g).length + k + 2) (d := Kd.int .i64) (e := 3) (B := B) (v := .slice A l.length c) (xs := l) (by
      show (((blk gb 61 #[.map (some bm)] :: mpK bm mm ad ids :: pre) ++ gvA ad g) ++ X)[((blk gb 61 #[.map (some bm)] :: mpK bm mm ad ids :: pre) ++ gvA ad g).length + k]? = _
      rw [List.getElem?_append_right (by omega), Nat.add_sub_cancel_left]
      exact hk)
    exact (row_C hR).2
  · rintro e w' ⟨b, m, rfl, hmb, S'⟩
    refine ⟨b, m, rfl, hmb, g, ids, mm, h1, hm, hids, ?_⟩
    unfold GL
    rw [← List.append_assoc]
    exact S'.perm (perm_in _ X _)
end
end Go.Proofs.Ytfmlpkeaiohknaa.Q
/-! script.Of: pieces for the loop over b's places. -/
set_option linter.unusedVariables false
set_option linter.unusedSimpArgs false
namespace Go.Proofs.Ytfmlpkeaiohknaa.Q
open Go Go.RowKit Go.Lib Go.Sort Go.Proofs.YtfmlpkeaiohknaaW.PrintWords Go.Proofs.YtfmlpkeaiohknaaW.SL
theorem chainK_bound {ba : List Int} {n : Nat} (h : ∀ k, k < n → -1 ≤ ba.getD k 0 ∧ ba.getD k 0 < (k : Int)) : ∀ (f : Nat) (i : Int), i < (n : Int) → ∀ x ∈ chainK ba f i, 0 ≤ x ∧ x < (n : Int)
  | 0, _, _, x, hx => by simp [chainK] at hx
  | f + 1, i, hi, x, hx => by
    rw [chainK] at hx
    split at hx
    · simp at hx
    · rcases List.mem_cons.1 hx with rfl | hx
      · omega
      · refine chainK_bound h f _ ?_ x hx
        have := h i.toNat (by omega)
        omega
theorem risingK_bound {l : List Int} {x : Int} (hx : x ∈ risingK l) : 0 ≤ x ∧ x < (l.length : Int) := by
  have hok := rise_ok l l.length (Nat.le_refl _)
  exact chainK_bound hok.ba _ _ hok.be.2 x hx
theorem at_I {w : World} {A : Option Addr} {n : Nat} {xs : List Int} (h : Kd.C (Kd.int .i64) w A n xs) (i : Int) (h0 : 0 ≤ i) (h1 : i < n) : ∃ ad, A = some ad ∧ w.cell? (ad.add i.toNat) = some (.int .i64 (xs.getD i.toNat 0)) := by
  obtain ⟨ad, c, e, _, hK, hc0⟩ := Kd.C_get h (0 : Int) i h0 h1
  have hc : ∀ j u, c[j]? = some u → w.cell? (ad.add (i.toNat * 1 + j)) = some u := hc0
  have hK2 : c = [.int .i64 (xs.getD i.toNat 0)] := hK
  subst hK2
  exact ⟨ad, e, by have hq := hc 0 _ rfl; rwa [Nat.mul_one, Nat.add_zero] at hq⟩
theorem thereK_in {nm : List Int} {p : Kn} {l : List Int} {k : Int} (h1 : 0 ≤ nm.getD k.toNat 0) (h2 : 0 ≤ placeOf p.kids (nm.getD k.toNat 0)) : thereK nm p (l ++ [k]) = thereK nm p l ++ [k] ∧ placesK nm p (l ++ [k]) = placesK nm p l ++ [placeOf p.kids (nm.getD k.toNat 0)] := by
  have h : thereK nm p (l ++ [k]) = thereK nm p l ++ [k] := by
    unfold thereK
    rw [List.filter_append, List.filter_cons_of_pos (by simp only [Bool.and_eq_true, decide_eq_true_eq]; exact ⟨h1, h2⟩), List.filter_nil]
  refine ⟨h, ?_⟩
  unfold placesK
  rw [h, List.map_append]
  rfl
theorem thereK_out {nm : List Int} {p : Kn} {l : List Int} {k : Int} (h : ¬ (0 ≤ nm.getD k.toNat 0 ∧ 0 ≤ placeOf p.kids (nm.getD k.toNat 0))) : thereK nm p (l ++ [k]) = thereK nm p l ∧ placesK nm p (l ++ [k]) = placesK nm p l := by
  have h : thereK nm p (l ++ [k]) = thereK nm p l := by
    unfold thereK
    rw [List.filter_append, List.filter_cons_of_neg (by simp only [Bool.and_eq_true, decide_eq_true_eq]; exact h), List.filter_nil, List.append_nil]
  refine ⟨h, ?_⟩
  unfold placesK
  rw [h]
theorem thereK_len (nm : List Int) (p : Kn) (l : List Int) : (thereK nm p l).length ≤ l.length := List.length_filter_le _ _
theorem placesK_len (nm : List Int) (p : Kn) (l : List Int) : (placesK nm p l).length = (thereK nm p l).length := List.length_map _
theorem thereK_mem {nm : List Int} {p : Kn} {l : List Int} {k : Int} (h : k ∈ thereK nm p l) : k ∈ l := (List.mem_filter.1 h).1
theorem take_snoc {α : Type} {l : List α} {i : Nat} (h : i < l.length) (d : α) : l.take (i + 1) = l.take i ++ [l.getD i d] := by
  rw [List.take_add_one, List.getD_eq_getElem?_getD, List.getElem?_eq_getElem h]; rfl
theorem drop_cons {α : Type} {l : List α} {i : Nat} (h : i < l.length) (d : α) : l.drop i = l.getD i d :: l.drop (i + 1) := by
  rw [List.drop_eq_getElem_cons h, List.getD_eq_getElem?_getD, List.getElem?_eq_getElem h]; rfl
theorem getD_mem {α : Type} {l : List α} {i : Nat} (h : i < l.length) (d : α) : l.getD i d ∈ l := by
  rw [List.getD_eq_getElem?_getD, List.getElem?_eq_getElem h]; exact List.getElem_mem h
theorem wpl_range {P : Program} {ops : Array Oper} {o : Oper} {rest : List Oper} {a : Act} {Q : Exit → Act → World → Prop} {w : World} (hg : o.guard = none) (t : TypeId) (m : Operand) (hop : o.op = Op.range t m)
    (vm v : Value) (hm : a.eval m = vm) {w' : World} (hr : (Instr.range t vm).run P w = .ok v w') (h : wpList P ops Q rest (a.put o.dst v) w') : wpList P ops Q (o :: rest) a w := by
  refine wpList_plain hg fun K' hK' => ?_
  unfold Oper.wp
  simp [execOp, hop, hm, hr, Result.andThen]
  exact hK' _ _ h
theorem wpl_next {P : Program} {ops : Array Oper} {o : Oper} {rest : List Oper} {a : Act} {Q : Exit → Act → World → Prop} {w : World} (hg : o.guard = none) (m : Operand) (hop : o.op = Op.next m false)
    (vm v : Value) (hm : a.eval m = vm) {w' : World} (hr : (Instr.next vm false o.type).run P w = .ok v w') (h : wpList P ops Q rest (a.put o.dst v) w') : wpList P ops Q (o :: rest) a w := by
  refine wpList_plain hg fun K' hK' => ?_
  unfold Oper.wp
  simp [execOp, hop, hm, hr, Result.andThen]
  exact hK' _ _ h
section
variable {w0 w w' : World} {Z : Nat → Prop} {F : List FA} {gb bm N k b m r cnt : Nat} {pre X : List Asr} {ad : Int → Nat} {ks : List Kn} {K left : Int → Bool}
theorem Grove.setRange (H : Grove w0 Z F gb bm pre X N ad ks w) (hk : X[k]? = some (mpS b m K)) : ∃ r w' cnt, (Instr.range 74 (.map (some b))).run Try.prog w = .ok (.pointer (some ⟨r, 0, none⟩)) w' ∧ Grove w0 Z F gb bm pre (X.set k (rgS b r m K K cnt)) N ad ks w' ∧ cnt ≤ m := by
  obtain ⟨g, ids, mm, h1, hm, hids, S⟩ := H
  unfold GL at S
  rw [← List.append_assoc] at S
  have h2 : ∀ L : List Asr, (L ++ X)[L.length + k]? = some (mpS b m K) := fun L => by rw [List.getElem?_append_right (by omega), Nat.add_sub_cancel_left]; exact hk
  obtain ⟨w', cnt, hr, S', _, hc⟩ := set_range S _ (h2 _)
  refine ⟨_, w', cnt, hr, ⟨g, ids, mm, h1, hm, hids, ?_⟩, hc⟩
  rw [List.set_append_right _ _ (by omega), Nat.add_sub_cancel_left] at S'
  unfold GL
  rw [← List.append_assoc]
  exact S'
theorem Grove.setNext (H : Grove w0 Z F gb bm pre X N ad ks w) (hk : X[k]? = some (rgS b r m K left cnt)) (ty : TypeId) :
    ((∀ x, left x = false) ∧ (Instr.next (.pointer (some ⟨r, 0, none⟩)) false ty).run Try.prog w = .ok (.tuple #[.bool false]) w) ∨
    ∃ x w' cnt', left x = true ∧ in64 x ∧ (Instr.next (.pointer (some ⟨r, 0, none⟩)) false ty).run Try.prog w = .ok (.tuple #[.bool true, .int .i64 x, .bool true]) w' ∧ (Instr.entry (.pointer (some ⟨r, 0, none⟩))).run Try.prog w' = .ok (.tuple #[.int .i64 x, .bool true]) w' ∧
      cnt' < cnt ∧ Grove w0 Z F gb bm pre (X.set k (rgS b r m K (fun j => left j && !decide (j = x)) cnt')) N ad ks w' := by
  obtain ⟨g, ids, mm, h1, hm, hids, S⟩ := H
  unfold GL at S
  rw [← List.append_assoc] at S
  have h2 : ∀ L : List Asr, (L ++ X)[L.length + k]? = some (rgS b r m K left cnt) := fun L => by rw [List.getElem?_append_right (by omega), Nat.add_sub_cancel_left]; exact hk
  rcases set_next S _ (h2 _) ty with h | ⟨x, w', cnt', a1, a2, a3, a4, a5, S', _⟩
  · exact .inl h
  · refine .inr ⟨x, w', cnt', a1, a2, a3, a4, a5, g, ids, mm, h1, hm, hids, ?_⟩
    rw [List.set_append_right _ _ (by omega), Nat.add_sub_cancel_left] at S'
    unfold GL
    rw [← List.append_assoc]
    exact S'
theorem Grove.swap2 {a c : Asr} (H : Grove w0 Z F gb bm pre (a :: c :: X) N ad ks w) : Grove w0 Z F gb bm pre (c :: a :: X) N ad ks w := H.permX (List.Perm.swap _ _ _)
theorem Grove.newSet (H : Grove w0 Z F gb bm pre X N ad ks w) : Grove w0 Z F gb bm pre (mpS w.heap.size 0 (fun _ => false) :: X) N ad ks (w.alloc (.map #[] 0)) := H.add (fun L S => set_new S)
theorem Grove.in4 {a p q r : Asr} (H : Grove w0 Z F gb bm pre (a :: p :: q :: r :: X) N ad ks w) : Grove w0 Z F gb bm pre (p :: q :: r :: a :: X) N ad ks w :=
  H.permX ((List.perm_append_comm (l₁ := [a]) (l₂ := [p, q, r])).append_right X)
theorem Grove.out4 {a p q r : Asr} (H : Grove w0 Z F gb bm pre (p :: q :: r :: a :: X) N ad ks w) : Grove w0 Z F gb bm pre (a :: p :: q :: r :: X) N ad ks w :=
  H.permX ((List.perm_append_comm (l₁ := [p, q, r]) (l₂ := [a])).append_right X)
end
theorem stayK_iff {nm : List Int} {p : Kn} {kids : List Int} {k : Int} : stayK nm p kids k = true ↔ ∃ x ∈ risingK (placesK nm p kids), (thereK nm p kids).getD x.toNat 0 = k := by
  unfold stayK
  rw [List.any_eq_true]
  simp
theorem stay_step {R : List Int} {left K2 : Int → Bool} {TH : List Int} {x kk : Int} (hR : x ∈ R) (hk : TH.getD x.toNat 0 = kk) (h : ∀ k, K2 k = true ↔ ∃ y ∈ R, left y = false ∧ TH.getD y.toNat 0 = k) (k : Int) : (K2 k || decide (k = kk)) = true ↔ ∃ y ∈ R, (left y && !decide (y = x)) = false ∧ TH.getD y.toNat 0 = k := by
  rw [Bool.or_eq_true, h, decide_eq_true_eq]
  constructor
  · rintro (⟨y, h1, h2, h3⟩ | rfl)
    · exact ⟨y, h1, by rw [h2]; rfl, h3⟩
    · exact ⟨x, hR, by simp, hk⟩
  · rintro ⟨y, h1, h2, h3⟩
    by_cases e : y = x
    · subst e; exact .inr (h3.symm.trans hk)
    · exact .inl ⟨y, h1, by simpa [e] using h2, h3⟩
theorem stay_end {left K2 : Int → Bool} {nm : List Int} {p : Kn} {kids : List Int} (hn : ∀ x, left x = false) (h : ∀ k, K2 k = true ↔ ∃ y ∈ risingK (placesK nm p kids), left y = false ∧ (thereK nm p kids).getD y.toNat 0 = k) : K2 = stayK nm p kids := by
  funext k
  rw [Bool.eq_iff_iff, h, stayK_iff]
  exact ⟨fun ⟨y, h1, _, h3⟩ => ⟨y, h1, h3⟩, fun ⟨y, h1, h3⟩ => ⟨y, h1, hn y, h3⟩⟩
theorem stay_start {R TH : List Int} (k : Int) : (fun _ : Int => false) k = true ↔ ∃ y ∈ R, decide (y ∈ R) = false ∧ TH.getD y.toNat 0 = k :=
  ⟨fun h => (Bool.false_ne_true h).elim, fun ⟨x, h1, h2, _⟩ => by simp [h1] at h2⟩
theorem kidStep_new {M : List S24} {i k : Nat} {st : Int → Bool} {s : Os} {last : Int} (h : s.nm.getD k 0 < 0) :
    kidStep M i st (s, last) (k : Int) = (({ s with nm := s.nm.set k s.nx, nx := s.nx + 1 } : Os).run ⟨1, s.nx, (s.nm.set k s.nx).getD i 0, last, (M.getD k z24).f0, (M.getD k z24).f1, (M.getD k z24).f2⟩).map fun t => (t, s.nx) := by
  unfold kidStep
  dsimp only
  rw [Int.toNat_natCast, if_pos h]
theorem kidStep_stay {M : List S24} {i k : Nat} {st : Int → Bool} {s : Os} {last : Int} (h : ¬ s.nm.getD k 0 < 0) (hs : st (k : Int) = true) : kidStep M i st (s, last) (k : Int) = some (s, s.nm.getD k 0) := by
  unfold kidStep
  dsimp only
  rw [Int.toNat_natCast, if_neg h, if_pos hs]
theorem kidStep_move {M : List S24} {i k : Nat} {st : Int → Bool} {s : Os} {last : Int} (h : ¬ s.nm.getD k 0 < 0) (hs : st (k : Int) = false) :
    kidStep M i st (s, last) (k : Int) = (s.run ⟨4, s.nm.getD k 0, s.nm.getD i 0, last, 0, ⟨#[]⟩, ⟨#[]⟩⟩).map fun t => (t, s.nm.getD k 0) := by
  unfold kidStep
  dsimp only
  rw [Int.toNat_natCast, if_neg h, if_neg (by rw [hs]; exact Bool.false_ne_true)]
theorem map_bind1 {α β γ : Type} (o : Option α) (f : α → β) (g : β → Option γ) : (o.map f).bind g = o.bind fun t => g (f t) := by cases o <;> rfl
end Go.Proofs.Ytfmlpkeaiohknaa.Q
