/- The texts of this claim that lie below its row, in their order: GSo GR6 MRofP MRof GS9a GK8 GS9. -/
import Derived.Deep.RegionLaw
import Derived.Deep.RegionHeld3
import Derived.Deep.DeepCutAuto
import Derived.Deep.CutBlock
import Derived.Deep.Cut
import Derived.Test.YtfmlpkeaiohknaaZP13
/-! script.Of of right pairs: every edit can be done. -/
set_option linter.unusedVariables false
set_option linter.unusedSimpArgs false
namespace Go.Proofs.Ytfmlpkeaiohknaa.Q
/-- A name's parent in a grove. -/
def parOf (g : List Kn) (y : Int) : Option Int := (gAt g y).bind (·.par)
theorem gAt_ex {g : List Kn} {y : Int} (h : y ∈ g.map (·.id)) : ∃ k, gAt g y = some k := by
  cases hk : gAt g y with
  | none => exact absurd h (gAt_none.1 hk)
  | some k => exact ⟨k, rfl⟩
theorem parOf_updK {g : List Kn} {i : Int} {f : Kn → Kn} (h1 : ∀ k, (f k).id = k.id) (h2 : ∀ k, (f k).par = k.par) (y : Int) : parOf (updK g i f) y = parOf g y := by
  unfold parOf
  rw [gAt_updK h1]
  cases gAt g y with
  | none => rfl
  | some k =>
    show (if k.id = i then f k else k).par = k.par
    split
    · exact h2 k
    · rfl
theorem parOf_newK {g : List Kn} {x : Ed} (hn : gAt g x.id = none) (y : Int) : parOf (newK g x) y = if y = x.id then some x.pa else parOf g y := by
  unfold newK
  by_cases e : y = x.id
  · rw [if_pos e]
    subst e
    unfold parOf gAt
    rw [List.find?_append]
    have h1 : (updK g x.pa (Kn.ins x)).find? (fun k => decide (k.id = x.id)) = none := by
      have := gAt_updK (g := g) (i := x.pa) (j := x.id) (f := Kn.ins x) (ins_id x)
      rw [hn] at this
      exact this
    rw [h1]
    simp
  · rw [if_neg e]
    rw [← parOf_updK (g := g) (i := x.pa) (f := Kn.ins x) (ins_id x) (fun _ => rfl) y]
    unfold parOf gAt
    rw [List.find?_append]
    have h2 : ([⟨x.id, x.ki, x.tx, x.tr, some x.pa, []⟩] : List Kn).find? (fun k => decide (k.id = y)) = none := by
      simp; intro h; exact e h.symm
    rw [h2, Option.or_none]
theorem parOf_movedK {g : List Kn} {q : Int} {x : Ed} (hx : x.id ∈ g.map (·.id)) (y : Int) : parOf (movedK g q x) y = if y = x.id then some x.pa else parOf g y := by
  unfold movedK
  have hids : (updK (updK g q (Kn.cut x.id)) x.pa (Kn.ins x)).map (·.id) = g.map (·.id) := by rw [updK_ids (ins_id x), updK_ids (cut_id x.id)]
  have h0 : parOf (updK (updK g q (Kn.cut x.id)) x.pa (Kn.ins x)) y = parOf g y := by
    rw [parOf_updK (ins_id x) (fun _ => rfl), parOf_updK (cut_id x.id) (fun _ => rfl)]
  unfold parOf at h0 ⊢
  rw [gAt_updK (f := fun k => k.wPar (some x.pa)) (fun _ => rfl)]
  by_cases e : y = x.id
  · rw [if_pos e]
    obtain ⟨k, hk⟩ := gAt_ex (g := updK (updK g q (Kn.cut x.id)) x.pa (Kn.ins x)) (y := y) (by rw [hids, e]; exact hx)
    rw [hk]
    show (if k.id = x.id then k.wPar (some x.pa) else k).par = some x.pa
    rw [if_pos ((gAt_mem hk).2.trans e)]
    rfl
  · rw [if_neg e, ← h0]
    cases hk : gAt (updK (updK g q (Kn.cut x.id)) x.pa (Kn.ins x)) y with
    | none => rfl
    | some k =>
      show (if k.id = x.id then k.wPar (some x.pa) else k).par = k.par
      rw [if_neg (fun h => e ((gAt_mem hk).2.symm.trans h))]
theorem parOf_kid {g : List Kn} (I : Inv g) {p : Kn} (hp : p ∈ g) {y : Int} : y ∈ p.kids ↔ parOf g y = some p.id := by
  constructor
  · intro h
    obtain ⟨k, hk, e1, e2⟩ := I.kids p hp y h
    unfold parOf
    rw [← e1, gAt_of I.nodup hk]
    exact e2
  · intro h
    unfold parOf at h
    cases hk : gAt g y with
    | none => rw [hk] at h; cases h
    | some k =>
      rw [hk] at h
      obtain ⟨hkm, hki⟩ := gAt_mem hk
      obtain ⟨q, hq, e1, e2⟩ := I.par k hkm p.id h
      rw [nodup_id I.nodup hq hp e1] at e2
      rw [← hki]; exact e2
/-- What holds of the kids' rows of a plan. -/
structure PB (m : Nat) (K : List (List Int)) : Prop where
  pos : 0 < m
  kid : ∀ (i : Nat) (k : Int), i < m → k ∈ K.getD i [] → (i : Int) < k ∧ k < (m : Int)
  kdup : ∀ i, i < m → (K.getD i []).Nodup
  one : ∀ (i i' : Nat) (k : Int), i < m → i' < m → k ∈ K.getD i [] → k ∈ K.getD i' [] → i = i'
  all : ∀ j : Nat, 0 < j → j < m → ∃ i : Nat, i < j ∧ (j : Int) ∈ K.getD i []
theorem ofP_PB {x : S24} (h : PlanOk x) : PB (ofP x).N.length (ofP x).K := by
  have hm : ∀ (i : Nat) (k : Int), i < (ofP x).N.length → k ∈ (ofP x).K.getD i [] → 0 ≤ k ∧ k < ((ofP x).N.length : Int) ∧ (ofP x).P.getD k.toNat 0 = (i : Int) := fun i k hi hk => by
    rw [ofP_kidsOf x hi] at hk
    have hb := kidsOf_mem hk
    unfold kidsOf at hk
    obtain ⟨j, hj, rfl⟩ := List.mem_map.1 hk
    exact ⟨by omega, by omega, by simpa using (List.mem_filter.1 hj).2⟩
  have hP0 : (ofP x).P.getD 0 0 = -1 := (addN_kids x (-1) ⟨[], [], [], []⟩ ⟨rfl, fun j _ hj => by simp at hj⟩ ⟨rfl, rfl, rfl⟩ (by simp) (fun h => by simp at h)).1
  refine ⟨by rw [h.len]; exact h.pos, fun i k hi hk => ?_, fun i hi => by rw [ofP_kidsOf x hi]; exact kidsOf_nodup, fun i i' k hi hi' hk hk' => ?_, fun j h0 hj => ?_⟩
  · obtain ⟨h1, h2, h3⟩ := hm i k hi hk
    refine ⟨?_, h2⟩
    have h4 : k ≠ 0 := fun e => by rw [e] at h3; rw [show (0 : Int).toNat = 0 from rfl, hP0] at h3; omega
    have := h.up k.toNat (by omega) (by omega)
    omega
  · have h1 := (hm i k hi hk).2.2
    have h2 := (hm i' k hi' hk').2.2
    omega
  · have hu := h.up j h0 hj
    refine ⟨((ofP x).P.getD j 0).toNat, by omega, ?_⟩
    rw [ofP_kidsOf x (by omega)]
    unfold kidsOf
    exact List.mem_map.2 ⟨j, List.mem_filter.2 ⟨List.mem_range'_1.2 ⟨Nat.zero_le _, by omega⟩, decide_eq_true (by omega)⟩, rfl⟩
/-- What holds while place i is gone through, its kids dn done. -/
structure Mid (m : Nat) (K : List (List Int)) (i : Nat) (dn : List Int) (s : Os) : Prop where
  inv : Inv s.ks
  nl : s.nm.length = m
  ids : ∀ j : Nat, j < m → 0 ≤ s.nm.getD j 0 → s.nm.getD j 0 ∈ s.ks.map (·.id)
  inj : ∀ j j' : Nat, j < m → j' < m → 0 ≤ s.nm.getD j 0 → s.nm.getD j 0 = s.nm.getD j' 0 → j = j'
  root : s.nm.getD 0 0 = 0
  nx : 0 ≤ s.nx ∧ s.nx ≤ 1000 + (s.ed.length : Int) ∧ ∀ y ∈ s.ks, y.id < s.nx
  done : ∀ i', i' < i → ∀ k ∈ K.getD i' [], 0 ≤ s.nm.getD k.toNat 0 ∧ parOf s.ks (s.nm.getD k.toNat 0) = some (s.nm.getD i' 0)
  now : ∀ k ∈ dn, 0 ≤ s.nm.getD k.toNat 0 ∧ parOf s.ks (s.nm.getD k.toNat 0) = some (s.nm.getD i 0)
section
variable {m i : Nat} {K : List (List Int)} {dn : List Int} {s : Os}
theorem Mid.name (H : Mid m K i dn s) (B : PB m K) {j : Nat} (hj : j ≤ i) (hm : j < m) : 0 ≤ s.nm.getD j 0 := by
  by_cases h0 : j = 0
  · subst h0; rw [H.root]; exact Int.le_refl _
  · obtain ⟨i', h1, h2⟩ := B.all j (by omega) hm
    have := (H.done i' (by omega) _ h2).1
    rwa [Int.toNat_natCast] at this
theorem Mid.notBel (H : Mid m K i dn s) (B : PB m K) (hi : i < m) {k : Nat} (hk : i < k) (hkm : k < m) (h0 : 0 ≤ s.nm.getD k 0) : ∀ j, j ≤ i → ¬ Bel s.ks (s.nm.getD j 0) (s.nm.getD k 0) := by
  intro j
  induction j using Nat.strongRecOn with
  | ind j ih =>
    intro hj hb
    rcases Bel.iff.1 hb with e | ⟨q, hq, hb2⟩
    · have := H.inj k j hkm (by omega) h0 e.symm
      omega
    · by_cases hj0 : j = 0
      · subst hj0
        rw [H.root] at hq
        have h0m := H.ids 0 (by omega) (by rw [H.root]; exact Int.le_refl _)
        rw [H.root] at h0m
        obtain ⟨r, hr⟩ := gAt_ex h0m
        rw [hr] at hq
        have := (H.inv.root r (gAt_mem hr).1).2 (gAt_mem hr).2
        have hq' : r.par = some q := hq
        rw [this] at hq'; cases hq'
      · obtain ⟨i', h1, h2⟩ := B.all j (by omega) (by omega)
        have h3 := (H.done i' (by omega) _ h2).2
        rw [Int.toNat_natCast] at h3
        have hq' : parOf s.ks (s.nm.getD j 0) = some q := hq
        rw [h3] at hq'
        injection hq' with hq'
        subst hq'
        exact ih i' h1 (by omega) hb2
theorem Os.run_some {e : S54} {g' : List Kn} (h1 : s.ed.length < 100000) (h2 : in64 e.f1) (h3 : in64 e.f2) (h4 : doK s.ks (edOf e) = some g') : s.run e = some { s with ks := g', ed := s.ed ++ [e] } := by
  unfold Os.run
  rw [if_pos ⟨h1, h2, h3⟩, h4]
  rfl
theorem in64_id (I : Inv s.ks) {y : Int} (h : y ∈ s.ks.map (·.id)) : in64 y := by
  obtain ⟨k, hk, rfl⟩ := List.mem_map.1 h
  exact (I.in64 k hk).2
/-- A kid's step. -/
theorem Mid.step (H : Mid m K i dn s) (B : PB m K) (hi : i < m) {M : List S24} {st : Int → Bool} {k : Int} {last : Int} (hk : k ∈ K.getD i []) (hkn : k ∉ dn) (hdn : ∀ y ∈ dn, y ∈ K.getD i [])
    (hst : st k = true → 0 ≤ s.nm.getD k.toNat 0 → parOf s.ks (s.nm.getD k.toNat 0) = some (s.nm.getD i 0)) (hl : last = -1 ∨ ∃ y ∈ dn, last = s.nm.getD y.toNat 0) (hed : s.ed.length < 100000) :
    ∃ t, kidStep M i st (s, last) k = some (t, t.nm.getD k.toNat 0) ∧ Mid m K i (dn ++ [k]) t ∧ (∀ j : Nat, j ≠ k.toNat → t.nm.getD j 0 = s.nm.getD j 0) ∧ (0 ≤ s.nm.getD k.toNat 0 → t.nm.getD k.toNat 0 = s.nm.getD k.toNat 0) ∧
      (∀ y, y ∈ s.ks.map (·.id) → y ≠ s.nm.getD k.toNat 0 → parOf t.ks y = parOf s.ks y) ∧ t.ed.length ≤ s.ed.length + 1 ∧ s.ed.length ≤ t.ed.length := by
  obtain ⟨hk1, hk2⟩ := B.kid i k hi hk
  obtain ⟨kn, rfl⟩ : ∃ n : Nat, k = (n : Int) := ⟨k.toNat, by omega⟩
  rw [Int.toNat_natCast] at *
  have hik : i ≠ kn := by omega
  have hkm : kn < m := by omega
  have hin := H.name B (Nat.le_refl i) hi
  have hids := H.ids i hi hin
  obtain ⟨p, hp⟩ := gAt_ex hids
  obtain ⟨hpm, hpi⟩ := gAt_mem hp
  have hlast : last = -1 ∨ last ∈ p.kids := by
    rcases hl with h | ⟨y, hy, rfl⟩
    · exact .inl h
    · right
      rw [parOf_kid H.inv hpm, hpi]
      exact (H.now y hy).2
  have hother : ∀ i' (k' : Int), i' < i → k' ∈ K.getD i' [] → k'.toNat ≠ kn ∧ i' ≠ kn := fun i' k' h1 h2 => by
    refine ⟨fun e => ?_, by omega⟩
    have h3 := B.kid i' k' (by omega) h2
    have h4 : k' = (kn : Int) := by omega
    subst h4
    have := B.one i' i _ (by omega) hi h2 hk
    omega
  have hdno : ∀ k' ∈ dn, k'.toNat ≠ kn := fun k' h2 e => by
    have h3 := B.kid i k' hi (hdn k' h2)
    have h4 : k' = (kn : Int) := by omega
    subst h4
    exact hkn h2
  have hkd : ∀ k' ∈ dn, k'.toNat < m := fun k' h2 => by have h3 := B.kid i k' hi (hdn k' h2); omega
  by_cases hneg : s.nm.getD kn 0 < 0
  · -- a new one
    obtain ⟨nm2, hnm2⟩ : ∃ l, s.nm.set kn s.nx = l := ⟨_, rfl⟩
    have hget : ∀ j : Nat, nm2.getD j 0 = if kn = j then s.nx else s.nm.getD j 0 := fun j => by
      rw [← hnm2, getD_set]
      split
      · rename_i e; rw [if_pos (by rw [H.nl]; omega)]
      · rfl
    have hnn : gAt s.ks s.nx = none := gAt_none.2 fun h => by
      obtain ⟨y, hy, e⟩ := List.mem_map.1 h
      have := H.nx.2.2 y hy
      omega
    have hni : ∀ y, y ∈ s.ks.map (·.id) → y ≠ s.nx := fun y hy e => by subst e; exact gAt_none.1 hnn hy
    obtain ⟨e, he⟩ : ∃ e : S54, e = ⟨1, s.nx, nm2.getD i 0, last, (M.getD kn z24).f0, (M.getD kn z24).f1, (M.getD kn z24).f2⟩ := ⟨_, rfl⟩
    have hgi : nm2.getD i 0 = s.nm.getD i 0 := by rw [hget, if_neg (fun e => hik e.symm)]
    have hnx64 : in64 s.nx := by have := H.nx; unfold in64; omega
    have hdo : doK s.ks (edOf e) = some (newK s.ks (edOf e)) := by
      unfold doK
      rw [if_pos (by rw [he]; rfl), if_pos ⟨by rw [he]; exact hnn, by rw [he]; exact H.nx.1, p, by rw [he]; show gAt s.ks (nm2.getD i 0) = _; rw [hgi]; exact hp, by rw [he]; exact hlast⟩]
    have hid : (edOf e).id = s.nx := by rw [he]; rfl
    have hpa : (edOf e).pa = s.nm.getD i 0 := by rw [he]; exact hgi
    have hrun := Os.run_some (s := { s with nm := nm2, nx := s.nx + 1 }) (e := e) (g' := newK s.ks (edOf e)) hed (by rw [he]; exact hnx64) (by rw [he]; show in64 (nm2.getD i 0); rw [hgi]; exact in64_id H.inv hids) hdo
    have hkst := kidStep_new (M := M) (i := i) (st := st) (last := last) hneg
    rw [hnm2, ← he, hrun] at hkst
    have hpar : ∀ y, parOf (newK s.ks (edOf e)) y = if y = s.nx then some (s.nm.getD i 0) else parOf s.ks y := fun y => by
      have := parOf_newK (g := s.ks) (x := edOf e) (by rw [hid]; exact hnn) y
      rw [hid, hpa] at this
      exact this
    have hkn2 : nm2.getD kn 0 = s.nx := by rw [hget, if_pos rfl]
    have hnids : ∀ y, y ∈ (newK s.ks (edOf e)).map (·.id) ↔ y ∈ s.ks.map (·.id) ∨ y = s.nx := fun y => by
      unfold newK
      rw [List.map_append, updK_ids (ins_id _), List.mem_append, hid]
      simp
    refine ⟨⟨nm2, s.nx + 1, newK s.ks (edOf e), s.ed ++ [e]⟩, ?_, ⟨doK_inv H.inv (by rw [hid]; exact hnx64) hdo, by show nm2.length = m; rw [← hnm2, List.length_set]; exact H.nl, fun j hj h0 => ?_, fun j j' hj hj' h0 he2 => ?_, ?_, ⟨?_, ?_, fun y hy => ?_⟩, fun i' h1 k' h2 => ?_, fun k' h2 => ?_⟩, fun j hj => ?_, fun h0 => by omega, fun y hy hne => ?_, by simp, by simp⟩
    · rw [hkst, Option.map_some]
      show some (_, s.nx) = some (_, nm2.getD kn 0)
      rw [hkn2]
    · show nm2.getD j 0 ∈ _
      rw [hnids]
      have h0' : 0 ≤ nm2.getD j 0 := h0
      rw [hget] at h0' ⊢
      split
      · exact .inr rfl
      · rename_i hne; rw [if_neg hne] at h0'; exact .inl (H.ids j hj h0')
    · have h0' : 0 ≤ nm2.getD j 0 := h0
      have he2' : nm2.getD j 0 = nm2.getD j' 0 := he2
      rw [hget] at h0'
      rw [hget, hget j'] at he2'
      by_cases a : kn = j
      · by_cases b : kn = j'
        · omega
        · rw [if_pos a, if_neg b] at he2'
          exact absurd he2'.symm (hni _ (H.ids j' hj' (by rw [← he2']; exact H.nx.1)))
      · rw [if_neg a] at h0' he2'
        by_cases b : kn = j'
        · rw [if_pos b] at he2'
          exact absurd he2' (hni _ (H.ids j hj h0'))
        · rw [if_neg b] at he2'
          exact H.inj j j' hj hj' h0' he2'
    · show nm2.getD 0 0 = 0
      rw [hget, if_neg (by omega)]; exact H.root
    · show 0 ≤ s.nx + 1
      have := H.nx.1; omega
    · show s.nx + 1 ≤ 1000 + ((s.ed ++ [e]).length : Int)
      rw [List.length_append, List.length_singleton]
      have := H.nx.2.1; push_cast; omega
    · have hy' : y.id ∈ (newK s.ks (edOf e)).map (·.id) := List.mem_map.2 ⟨y, hy, rfl⟩
      show y.id < s.nx + 1
      rcases (hnids _).1 hy' with h | h
      · obtain ⟨z, hz, ez⟩ := List.mem_map.1 h
        have := H.nx.2.2 z hz
        omega
      · omega
    · obtain ⟨a, b⟩ := hother i' k' h1 h2
      have h3 := H.done i' h1 k' h2
      have h4 := B.kid i' k' (by omega) h2
      show 0 ≤ nm2.getD k'.toNat 0 ∧ parOf (newK s.ks (edOf e)) (nm2.getD k'.toNat 0) = some (nm2.getD i' 0)
      rw [hget, if_neg (fun e => a e.symm), hget i', if_neg (fun e => b e.symm), hpar, if_neg (hni _ (H.ids _ (by omega) h3.1))]
      exact h3
    · show 0 ≤ nm2.getD k'.toNat 0 ∧ parOf (newK s.ks (edOf e)) (nm2.getD k'.toNat 0) = some (nm2.getD i 0)
      rw [hgi]
      rcases List.mem_append.1 h2 with h2 | h2
      · have h3 := H.now k' h2
        rw [hget, if_neg (fun e => hdno k' h2 e.symm), hpar, if_neg (hni _ (H.ids _ (hkd k' h2) h3.1))]
        exact h3
      · rw [List.mem_singleton.1 h2, Int.toNat_natCast, hkn2, hpar, if_pos rfl]
        exact ⟨H.nx.1, rfl⟩
    · show nm2.getD j 0 = s.nm.getD j 0
      rw [hget, if_neg (fun e => hj e.symm)]
    · show parOf (newK s.ks (edOf e)) y = parOf s.ks y
      rw [hpar, if_neg (hni y hy)]
  · by_cases hs : st (kn : Int) = true
    · -- it stays
      refine ⟨s, kidStep_stay hneg hs, ⟨H.inv, H.nl, H.ids, H.inj, H.root, H.nx, H.done, fun k' h2 => ?_⟩, fun _ _ => rfl, fun _ => rfl, fun _ _ _ => rfl, Nat.le_succ _, Nat.le_refl _⟩
      rcases List.mem_append.1 h2 with h2 | h2
      · exact H.now k' h2
      · rw [List.mem_singleton.1 h2, Int.toNat_natCast]
        exact ⟨by omega, hst hs (by omega)⟩
    · -- it is moved
      have hs2 : st (kn : Int) = false := Bool.eq_false_iff.2 hs
      have hk0 : 0 ≤ s.nm.getD kn 0 := by omega
      have hkid := H.ids kn hkm hk0
      obtain ⟨kk, hkk⟩ := gAt_ex hkid
      obtain ⟨hkkm, hkki⟩ := gAt_mem hkk
      have hkne : s.nm.getD kn 0 ≠ 0 := fun e => by
        have := H.inj 0 kn (by omega) hkm (by rw [H.root]; exact Int.le_refl _) (by rw [H.root, e])
        omega
      obtain ⟨q, hq⟩ : ∃ q, kk.par = some q := by
        cases hpq : kk.par with
        | none => exact absurd ((H.inv.root kk hkkm).1 hpq) (by rw [hkki]; exact hkne)
        | some q => exact ⟨q, rfl⟩
      obtain ⟨e, he⟩ : ∃ e : S54, e = ⟨4, s.nm.getD kn 0, s.nm.getD i 0, last, 0, ⟨#[]⟩, ⟨#[]⟩⟩ := ⟨_, rfl⟩
      have hid : (edOf e).id = s.nm.getD kn 0 := by rw [he]; rfl
      have hpa : (edOf e).pa = s.nm.getD i 0 := by rw [he]; rfl
      have haf : (edOf e).af = last := by rw [he]; rfl
      have hafn : last ≠ s.nm.getD kn 0 := by
        rcases hl with h | ⟨y, hy, rfl⟩
        · omega
        · intro e2
          have := H.inj kn y.toNat hkm (hkd y hy) hk0 e2.symm
          exact hdno y hy this.symm
      have hdo : doK s.ks (edOf e) = some (movedK s.ks q (edOf e)) := by
        unfold doK
        rw [if_neg (by rw [he]; show ¬ (4 : Int) = 1; decide), if_neg (by rw [he]; show ¬ (4 : Int) = 2; decide), if_neg (by rw [he]; show ¬ (4 : Int) = 3; decide), if_pos (by rw [he]; rfl), hid, hkk]
        dsimp only
        rw [hq]
        dsimp only
        rw [if_pos ⟨⟨p, by rw [hpa]; exact hp, by rw [haf]; exact hlast⟩, by rw [haf]; exact hafn, by rw [hpa]; exact H.notBel B hi (by omega) hkm hk0 i (Nat.le_refl _)⟩]
      have hrun := Os.run_some (s := s) (e := e) hed (by rw [he]; exact in64_id H.inv hkid) (by rw [he]; exact in64_id H.inv hids) hdo
      have hkst := kidStep_move (M := M) (i := i) (last := last) hneg hs2
      rw [← he, hrun] at hkst
      have hpar : ∀ y, parOf (movedK s.ks q (edOf e)) y = if y = s.nm.getD kn 0 then some (s.nm.getD i 0) else parOf s.ks y := fun y => by
        have := parOf_movedK (g := s.ks) (q := q) (x := edOf e) (by rw [hid]; exact hkid) y
        rw [hid, hpa] at this
        exact this
      have hnids : (movedK s.ks q (edOf e)).map (·.id) = s.ks.map (·.id) := movedK_ids _ _ _
      refine ⟨⟨s.nm, s.nx, movedK s.ks q (edOf e), s.ed ++ [e]⟩, ?_, ⟨doK_inv H.inv (by rw [hid]; exact in64_id H.inv hkid) hdo, H.nl, fun j hj h0 => ?_, H.inj, H.root, ⟨H.nx.1, ?_, fun y hy => ?_⟩, fun i' h1 k' h2 => ?_, fun k' h2 => ?_⟩, fun _ _ => rfl, fun _ => rfl, fun y hy hne => ?_, by simp, by simp⟩
      · rw [hkst, Option.map_some]
      · show s.nm.getD j 0 ∈ (movedK s.ks q (edOf e)).map (·.id)
        rw [hnids]; exact H.ids j hj h0
      · show s.nx ≤ 1000 + ((s.ed ++ [e]).length : Int)
        rw [List.length_append, List.length_singleton]
        have := H.nx.2.1; push_cast; omega
      · have hy' : y.id ∈ (movedK s.ks q (edOf e)).map (·.id) := List.mem_map.2 ⟨y, hy, rfl⟩
        rw [hnids] at hy'
        obtain ⟨z, hz, ez⟩ := List.mem_map.1 hy'
        have := H.nx.2.2 z hz
        show y.id < s.nx
        omega
      · obtain ⟨a, b⟩ := hother i' k' h1 h2
        have h3 := H.done i' h1 k' h2
        have h4 := B.kid i' k' (by omega) h2
        show 0 ≤ s.nm.getD k'.toNat 0 ∧ parOf (movedK s.ks q (edOf e)) (s.nm.getD k'.toNat 0) = some (s.nm.getD i' 0)
        rw [hpar, if_neg (fun e => a (H.inj _ _ (by omega) hkm h3.1 e))]
        exact h3
      · show 0 ≤ s.nm.getD k'.toNat 0 ∧ parOf (movedK s.ks q (edOf e)) (s.nm.getD k'.toNat 0) = some (s.nm.getD i 0)
        rcases List.mem_append.1 h2 with h2 | h2
        · have h3 := H.now k' h2
          rw [hpar, if_neg (fun e => hdno k' h2 (H.inj _ _ (hkd k' h2) hkm h3.1 e))]
          exact h3
        · rw [List.mem_singleton.1 h2, Int.toNat_natCast, hpar, if_pos rfl]
          exact ⟨hk0, rfl⟩
      · show parOf (movedK s.ks q (edOf e)) y = parOf s.ks y
        rw [hpar, if_neg hne]
/-- The kids of a place. -/
theorem Mid.kids (B : PB m K) (hi : i < m) {M : List S24} {st : Int → Bool} : ∀ (rest dn : List Int) (s : Os) (last : Int), Mid m K i dn s → (dn ++ rest).Nodup → (∀ y ∈ dn ++ rest, y ∈ K.getD i []) →
    (∀ k ∈ rest, st k = true → 0 ≤ s.nm.getD k.toNat 0 → parOf s.ks (s.nm.getD k.toNat 0) = some (s.nm.getD i 0)) → (last = -1 ∨ ∃ y ∈ dn, last = s.nm.getD y.toNat 0) → s.ed.length + rest.length ≤ 100000 →
    ∃ t la, kidsR M i st rest (s, last) = some (t, la) ∧ Mid m K i (dn ++ rest) t ∧ t.ed.length ≤ s.ed.length + rest.length ∧ s.ed.length ≤ t.ed.length
  | [], dn, s, last, H, _, _, _, _, _ => ⟨s, last, rfl, by rw [List.append_nil]; exact H, Nat.le_refl _, Nat.le_refl _⟩
  | k :: r, dn, s, last, H, hd, hm, hst, hl, hed => by
    have hk : k ∈ K.getD i [] := hm k (by simp)
    rw [List.nodup_append] at hd
    have hkn : k ∉ dn := fun h => hd.2.2 k h k (by simp) rfl
    simp only [List.length_cons] at hed
    obtain ⟨t, h1, h2, h3, h4, h5, h6, h7⟩ := H.step B hi (M := M) (st := st) (last := last) hk hkn (fun y hy => hm y (List.mem_append_left _ hy)) (hst k (by simp)) hl (by omega)
    have hb := B.kid i k hi hk
    have hne : ∀ y, y ∈ K.getD i [] → y ≠ k → y.toNat ≠ k.toNat := fun y hy e e2 => by have := B.kid i y hi hy; omega
    have hti : t.nm.getD i 0 = s.nm.getD i 0 := h3 i (by omega)
    obtain ⟨u, la, g1, g2, g3, g4⟩ := Mid.kids B hi (M := M) (st := st) r (dn ++ [k]) t (t.nm.getD k.toNat 0) h2 (by
        rw [List.append_assoc, List.singleton_append, List.nodup_append]; exact hd) (fun y hy => hm y (by simpa [or_assoc] using hy))
      (fun k' hk' hs h0 => by
        have hkk : k' ≠ k := fun e => by subst e; exact (List.nodup_cons.1 hd.2.1).1 hk'
        have hk'm := hm k' (by simp [hk'])
        have hn := hne k' hk'm hkk
        have hb' := B.kid i k' hi hk'm
        rw [h3 _ hn] at h0 ⊢
        have hid := H.ids _ (by omega) h0
        rw [h5 _ hid (fun e => hn (H.inj _ _ (by omega) (by omega) h0 e)), hti]
        exact hst k' (by simp [hk']) hs h0) (.inr ⟨k, by simp, rfl⟩) (by omega)
    refine ⟨u, la, ?_, by rw [List.append_assoc, List.singleton_append] at g2; exact g2, by simp only [List.length_cons]; omega, by omega⟩
    rw [kidsR, h1, Option.bind_some]
    exact g1
theorem Mid.place (H : Mid m K i [] s) (B : PB m K) (hi : i < m) {M : List S24} (hed : s.ed.length + (K.getD i []).length ≤ 100000) :
    ∃ t, placeStep M K s i = some t ∧ Mid m K (i + 1) [] t ∧ t.ed.length ≤ s.ed.length + (K.getD i []).length ∧ s.ed.length ≤ t.ed.length := by
  have hin := H.name B (Nat.le_refl i) hi
  obtain ⟨p, hp⟩ := gAt_ex (H.ids i hi hin)
  obtain ⟨hpm, hpi⟩ := gAt_mem hp
  obtain ⟨t, la, h1, h2, h3, h4⟩ := Mid.kids B hi (M := M) (st := stayK s.nm p (K.getD i [])) (K.getD i []) [] s (-1) H (by simpa using B.kdup i hi) (by simp)
    (fun k hk hs h0 => by
      obtain ⟨x, hx, e⟩ := stayK_iff.1 hs
      have hb := risingK_bound hx
      rw [placesK_len] at hb
      have hmem := getD_mem (l := thereK s.nm p (K.getD i [])) (i := x.toNat) (by omega) 0
      rw [e] at hmem
      unfold thereK at hmem
      have h5 := (List.mem_filter.1 hmem).2
      simp only [Bool.and_eq_true, decide_eq_true_eq] at h5
      have h6 := (placeOf_nn _ _).1 h5.2
      rw [parOf_kid H.inv hpm, hpi] at h6
      exact h6) (.inl rfl) (by omega)
  refine ⟨t, ?_, ⟨h2.inv, h2.nl, h2.ids, h2.inj, h2.root, h2.nx, fun i' hi' k hk => ?_, fun k hk => by cases hk⟩, h3, h4⟩
  · unfold placeStep
    rw [hp]
    dsimp only
    rw [h1]
    rfl
  · by_cases e : i' = i
    · subst e; exact h2.now k (by simpa using hk)
    · exact h2.done i' (by omega) k hk
theorem Mid.places (B : PB m K) {M : List S24} : ∀ (c i : Nat) (s : Os), i + c = m → Mid m K i [] s → s.ed.length + sumK (K.drop i) ≤ 100000 → K.length = m →
    ∃ t, ph2 M K c i s = some t ∧ Mid m K m [] t ∧ t.ed.length ≤ s.ed.length + sumK (K.drop i) ∧ s.ed.length ≤ t.ed.length
  | 0, i, s, hc, H, _, _ => ⟨s, rfl, by rw [show m = i by omega]; rw [show m = i by omega] at H; exact H, by omega, Nat.le_refl _⟩
  | c + 1, i, s, hc, H, hed, hK => by
    have hd : K.drop i = K.getD i [] :: K.drop (i + 1) := drop_cons (by omega) _
    have hs : sumK (K.drop i) = (K.getD i []).length + sumK (K.drop (i + 1)) := by rw [hd]; simp [sumK]
    obtain ⟨t, h1, h2, h3, h4⟩ := H.place B (by omega) (M := M) (by omega)
    obtain ⟨u, g1, g2, g3, g4⟩ := Mid.places B (M := M) c (i + 1) t (by omega) h2 (by omega) hK
    exact ⟨u, by rw [ph2, h1, Option.bind_some]; exact g1, g2, by omega, by omega⟩
end
section
variable {N M : List S24} {l : List (Int × Int)}
theorem right_in (h : ∀ i, i < l.length → ¬ pairBad N M l i) {r : Nat} (hr : r < l.length) : 0 ≤ (l.getD r (0, 0)).1 ∧ (l.getD r (0, 0)).1 < (N.length : Int) ∧ 0 ≤ (l.getD r (0, 0)).2 ∧ (l.getD r (0, 0)).2 < (M.length : Int) ∧ (N.getD (l.getD r (0, 0)).1.toNat z24).f0 = (M.getD (l.getD r (0, 0)).2.toNat z24).f0 := by
  have := h r hr
  unfold pairBad at this
  dsimp only at this
  simp only [not_or, Classical.not_not] at this
  omega
theorem right_two (h : ∀ i, i < l.length → ¬ pairBad N M l i) {r r' : Nat} (hr : r < r') (hr' : r' < l.length) : (l.getD r (0, 0)).2 ≠ (l.getD r' (0, 0)).2 := by
  have := h r' hr'
  unfold pairBad at this
  dsimp only at this
  simp only [not_or, Classical.not_not] at this
  intro e
  refine this.2.2.2.2.1 ?_
  rw [← e, List.mem_map]
  refine ⟨l.getD r (0, 0), ?_, rfl⟩
  rw [List.getD_eq_getElem?_getD, List.getElem?_eq_getElem (by omega), Option.getD_some, List.mem_iff_getElem]
  exact ⟨r, by rw [List.length_take]; omega, List.getElem_take⟩
theorem right_up (h : ∀ i, i < l.length → ¬ pairBad N M l i) {r : Nat} : ∀ {r' : Nat}, r < r' → r' < l.length → (l.getD r (0, 0)).1 < (l.getD r' (0, 0)).1
  | 0, hr, _ => by omega
  | r' + 1, hr, hr' => by
    have := h (r' + 1) hr'
    unfold pairBad at this
    dsimp only at this
    simp only [not_or, Classical.not_not] at this
    have h1 := this.2.2.2.2.2.1
    have h2 : (l.getD r' (0, 0)).1 < (l.getD (r' + 1) (0, 0)).1 := by
      have : ¬ (l.getD (r' + 1) (0, 0)).1 ≤ (l.getD r' (0, 0)).1 := fun e => h1 ⟨Nat.succ_pos _, e⟩
      omega
    by_cases e : r = r'
    · subst e; exact h2
    · have := right_up h (r := r) (r' := r') (by omega) (by omega)
      omega
theorem right_one (h : ∀ i, i < l.length → ¬ pairBad N M l i) {r r' : Nat} (hr : r < l.length) (hr' : r' < l.length) (e : (l.getD r (0, 0)).1 = (l.getD r' (0, 0)).1) : r = r' := by
  by_cases h1 : r < r'
  · have := right_up h h1 hr'; omega
  · by_cases h2 : r' < r
    · have := right_up h h2 hr; omega
    · omega
/-- What holds while pairs are gone through. -/
structure Pre (N M : List S24) (l : List (Int × Int)) (n : Nat) (s : Os) : Prop where
  inv : Inv s.ks
  ids : ∀ y, y ∈ s.ks.map (·.id) ↔ 0 ≤ y ∧ y < (N.length : Int)
  nl : s.nm.length = M.length
  nx : s.nx = (N.length : Int)
  ed : s.ed.length ≤ n
  one : ∀ j : Nat, j < M.length → 0 ≤ s.nm.getD j 0 → ∃ r, r < n ∧ (l.getD r (0, 0)).2 = (j : Int) ∧ (l.getD r (0, 0)).1 = s.nm.getD j 0
  two : ∀ r, r < n → s.nm.getD (l.getD r (0, 0)).2.toNat 0 = (l.getD r (0, 0)).1
  par : ∀ y, parOf s.ks y = parOf s.ks y
theorem Pre.step {n : Nat} {s : Os} (H : Pre N M l n s) (h : ∀ i, i < l.length → ¬ pairBad N M l i) (hn : n < l.length) (hl : l.length ≤ 1000) (hN : N.length ≤ 1000) : ∃ t, st1 N M s (l.getD n (0, 0)) = some t ∧ Pre N M l (n + 1) t := by
  obtain ⟨h1, h2, h3, h4, h5⟩ := right_in h hn
  have htwo := fun r (hr : r < n) => right_two h hr hn
  obtain ⟨x, hx⟩ : ∃ x, l.getD n (0, 0) = x := ⟨_, rfl⟩
  rw [hx] at h1 h2 h3 h4 h5 htwo
  obtain ⟨nm2, hnm2⟩ : ∃ q, s.nm.set x.2.toNat x.1 = q := ⟨_, rfl⟩
  have hget : ∀ j : Nat, nm2.getD j 0 = if x.2.toNat = j then x.1 else s.nm.getD j 0 := fun j => by
    rw [← hnm2, getD_set]
    split
    · rename_i e; rw [if_pos (by rw [H.nl]; omega)]
    · rfl
  have hone : ∀ j : Nat, j < M.length → 0 ≤ nm2.getD j 0 → ∃ r, r < n + 1 ∧ (l.getD r (0, 0)).2 = (j : Int) ∧ (l.getD r (0, 0)).1 = nm2.getD j 0 := fun j hj h0 => by
    rw [hget] at h0 ⊢
    by_cases e : x.2.toNat = j
    · exact ⟨n, by omega, by rw [hx]; omega, by rw [hx, if_pos e]⟩
    · rw [if_neg e] at h0 ⊢
      obtain ⟨r, a, b, c⟩ := H.one j hj h0
      exact ⟨r, by omega, b, c⟩
  have htw : ∀ r, r < n + 1 → nm2.getD (l.getD r (0, 0)).2.toNat 0 = (l.getD r (0, 0)).1 := fun r hr => by
    by_cases e : r = n
    · subst e; rw [hx, hget, if_pos rfl]
    · have a := htwo r (by omega)
      have b := (right_in h (r := r) (by omega)).2.2.1
      rw [hget, if_neg (by omega)]
      exact H.two r (by omega)
  unfold st1
  dsimp only
  rw [hx, hnm2]
  split
  · exact ⟨_, rfl, H.inv, H.ids, by show nm2.length = _; rw [← hnm2, List.length_set]; exact H.nl, H.nx, by have := H.ed; show s.ed.length ≤ n + 1; omega, hone, htw, fun _ => rfl⟩
  · obtain ⟨e, he⟩ : ∃ e : S54, e = ⟨3, x.1, 0, 0, 0, (M.getD x.2.toNat z24).f1, (M.getD x.2.toNat z24).f2⟩ := ⟨_, rfl⟩
    obtain ⟨kk, hkk⟩ := gAt_ex ((H.ids x.1).2 ⟨h1, h2⟩)
    have hdo : doK s.ks (edOf e) = some (textK s.ks (edOf e)) := by
      unfold doK
      rw [if_neg (by rw [he]; show ¬ (3 : Int) = 1; decide), if_neg (by rw [he]; show ¬ (3 : Int) = 2; decide), if_pos (by rw [he]; rfl), show (edOf e).id = x.1 by rw [he]; rfl, hkk]
    have h64 : in64 x.1 := by unfold in64; omega
    have hrun := Os.run_some (s := { s with nm := nm2 }) (e := e) (g' := textK s.ks (edOf e)) (by have := H.ed; show s.ed.length < 100000; omega) (by rw [he]; exact h64) (by rw [he]; show in64 0; unfold in64; omega) hdo
    rw [← he, hrun]
    refine ⟨_, rfl, doK_inv H.inv (by rw [show (edOf e).id = x.1 by rw [he]; rfl]; exact h64) hdo, fun y => ?_, by show nm2.length = _; rw [← hnm2, List.length_set]; exact H.nl, H.nx, by have := H.ed; show (s.ed ++ [e]).length ≤ n + 1; simp; omega, hone, htw, fun _ => rfl⟩
    rw [← H.ids y]
    show y ∈ (textK s.ks (edOf e)).map (·.id) ↔ _
    rw [textK_ids]
theorem Pre.all (h : ∀ i, i < l.length → ¬ pairBad N M l i) (hl : l.length ≤ 1000) (hN : N.length ≤ 1000) : ∀ (c n : Nat) (s : Os), n + c = l.length → Pre N M l n s → ∃ t, ph1 N M (l.drop n) s = some t ∧ Pre N M l l.length t
  | 0, n, s, hc, H => ⟨s, by rw [List.drop_of_length_le (by omega)]; rfl, by rw [← hc]; exact H⟩
  | c + 1, n, s, hc, H => by
    obtain ⟨t, h1, h2⟩ := H.step h (by omega) hl hN
    obtain ⟨u, g1, g2⟩ := Pre.all h hl hN c (n + 1) t (by omega) h2
    refine ⟨u, ?_, g2⟩
    rw [drop_cons (i := n) (by omega) (0, 0), ph1, h1, Option.bind_some]
    exact g1
end
theorem ph3_some {kept : Int → Bool} : ∀ (n : Nat) (s : Os), n ≤ 1000000 → s.ed.length + n ≤ 100000 → ∃ t, ph3 kept n s = some t
  | 0, s, _, _ => ⟨s, rfl⟩
  | n + 1, s, hn, hed => by
    rw [ph3]
    split
    · exact ph3_some n s (by omega) (by omega)
    · unfold Os.run
      rw [if_pos ⟨by omega, by show in64 (n : Int); unfold in64; omega, by show in64 0; unfold in64; omega⟩, Option.bind_some]
      exact ph3_some n _ (by omega) (by simp; omega)
/-- Behind pairs and places: every name is there. -/
theorem of_mid {xa xb : S24} (na : PlanOk xa) (nb : PlanOk xb) {l : List (Int × Int)} (hl : l.length ≤ 1000) (hR : rightK (ofP xa).N (ofP xb).N l = true) :
    ∃ s1 s2, ph1 (ofP xa).N (ofP xb).N l ⟨List.replicate (ofP xb).N.length (-1), ((ofP xa).N.length : Int), groveP (ofP xa).N (ofP xa).P (ofP xa).N.length, []⟩ = some s1 ∧ Pre (ofP xa).N (ofP xb).N l l.length s1 ∧
      ph2 (ofP xb).N (ofP xb).K (ofP xb).N.length 0 s1 = some s2 ∧ Mid (ofP xb).N.length (ofP xb).K (ofP xb).N.length [] s2 ∧ s2.ed.length ≤ 3000 := by
  have h0 := of_decide_eq_true hR
  obtain ⟨h1, h2, h3⟩ := h0
  have hlN : (ofP xa).N.length ≤ 1000 := by rw [na.len]; exact na.sz
  have hlM : (ofP xb).N.length ≤ 1000 := by rw [nb.len]; exact nb.sz
  have B := ofP_PB nb
  obtain ⟨s1, hs1, H1⟩ := Pre.all h1 hl hlN l.length 0 ⟨List.replicate (ofP xb).N.length (-1), ((ofP xa).N.length : Int), groveP (ofP xa).N (ofP xa).P (ofP xa).N.length, []⟩ (by omega)
    ⟨groveX_inv na, fun y => mem_groveP, by simp, rfl, Nat.le_refl _, fun j hj h => by
      rw [List.getD_eq_getElem?_getD, List.getElem?_eq_getElem (by simpa using hj)] at h
      simp at h, fun r hr => by omega, fun _ => rfl⟩
  rw [List.drop_zero] at hs1
  have hsum : sumK (ofP xb).K + 1 ≤ sumK [] + nsz xb := addN_sum xb (-1) ⟨[], [], [], []⟩
  have hs0 : sumK ([] : List (List Int)) = 0 := rfl
  have hsz := nb.sz
  have hM1 : Mid (ofP xb).N.length (ofP xb).K 0 [] s1 := by
    refine ⟨H1.inv, H1.nl, fun j hj h => ?_, fun j j' hj hj' h e => ?_, ?_, ⟨?_, ?_, fun y hy => ?_⟩, fun i' h => by omega, fun k h => by cases h⟩
    · obtain ⟨r, a, b, c⟩ := H1.one j hj h
      have := right_in h1 a
      rw [H1.ids]; omega
    · obtain ⟨r, a, b, c⟩ := H1.one j hj h
      obtain ⟨r', a', b', c'⟩ := H1.one j' hj' (by omega)
      have := right_one h1 a a' (by omega)
      subst this
      omega
    · have := H1.two 0 h2
      rw [h3] at this
      exact this
    · rw [H1.nx]; omega
    · rw [H1.nx]; omega
    · have := (H1.ids y.id).1 (List.mem_map.2 ⟨y, hy, rfl⟩)
      rw [H1.nx]; omega
  have hed := H1.ed
  have hK : (ofP xb).K.length = (ofP xb).N.length := (addN_lay xb (-1) ⟨[], [], [], []⟩ ⟨rfl, rfl, rfl⟩).1.k
  obtain ⟨s2, g1, g2, g3, g4⟩ := Mid.places B (M := (ofP xb).N) (ofP xb).N.length 0 s1 (by omega) hM1 (by rw [List.drop_zero]; omega) hK
  rw [List.drop_zero] at g3
  exact ⟨s1, s2, hs1, H1, g1, g2, by omega⟩
theorem of_some {xa xb : S24} (na : PlanOk xa) (nb : PlanOk xb) {l : List (Int × Int)} (hl : l.length ≤ 1000) (hR : rightK (ofP xa).N (ofP xb).N l = true) : ∃ sF, ofK (ofP xa).N (ofP xa).P (ofP xb).N (ofP xb).K l = some sF := by
  obtain ⟨s1, s2, h1, _, h2, _, h3⟩ := of_mid na nb hl hR
  have hlN : (ofP xa).N.length ≤ 1000 := by rw [na.len]; exact na.sz
  unfold ofK
  rw [h1, Option.bind_some, h2, Option.bind_some]
  exact ph3_some _ _ (by omega) (by omega)
end Go.Proofs.Ytfmlpkeaiohknaa.Q
-- Written by a program of this session (wip/gen_rr.py) for this claim; Lean checks it.
/-! The reference's Right, walked: it answers rightK. -/
set_option linter.unusedVariables false
set_option linter.unusedSimpArgs false
namespace Go.Proofs.Ytfmlpkeaiohknaa.Q
open Go Go.RowKit Go.Lib Go.Sort Go.Proofs.YtfmlpkeaiohknaaW.PrintWords Go.Proofs.YtfmlpkeaiohknaaW.PrintLast Go.Proofs.YtfmlpkeaiohknaaW.PrintMore Go.Proofs.YtfmlpkeaiohknaaW.SL
attribute [local go_sem] max2_int min2_int max_two min_two max_three min_three max_four min_four
theorem info4 : (Try.prog.info? 4).map (fun i => (i.zero, i.size, i.bytes)) = some (some (.bool false), 1, 1) := by kernel_rfl
def bA (l : List Bool) : Array Value := (l.map Value.bool).toArray
theorem bA_set (l : List Bool) (i : Nat) (v : Bool) : (bA l).setIfInBounds i (.bool v) = bA (l.set i v) := by
  unfold bA
  rw [List.map_set, List.setIfInBounds_toArray]
theorem bA_get {l : List Bool} {i : Nat} (h : i < l.length) : (bA l)[i]? = some (.bool (l.getD i false)) := by
  unfold bA
  simp [List.getD_eq_getElem?_getD, List.getElem?_eq_getElem h]
theorem make_bools (n : Nat) (hn : n ≤ 1000000) (W : World) : (Instr.makeSlice 77 (.int .i64 (n : Int)) (.int .i64 (n : Int))).run Try.prog W = .ok (.slice (some ⟨W.heap.size, 0, none⟩) n n) (W.alloc (.cells (bA (List.replicate n false)) 4)) := by
  obtain ⟨i0, hi, hzz⟩ := Option.map_eq_some_iff.1 info4
  simp only [Prod.mk.injEq] at hzz
  obtain ⟨hz0, hz1, hz2⟩ := hzz
  have h := run_make (P := Try.prog) W 77 4 i0 (.bool false) Try.underlying77 hi hz0 .i64 .i64 (n : Int) (n : Int) (by omega) (Int.le_refl _) (by rw [hz2]; omega) (by omega)
  rw [h, hz1]
  simp only [Int.toNat_natCast, Nat.mul_one]
  have e : madeCells (Value.bool false).cells n = bA (List.replicate n false) := by
    apply Array.ext'
    have h2 := toList_madeCells_one (.bool false) n
    rw [show (Value.bool false).cells = #[Value.bool false] from rfl, h2]
    unfold bA
    simp
  rw [e]
theorem bools_step {prs : List (Int × Int)} {nB i vk : Nat} {l : List Bool} {u : Int} (hl : l.length = nB) (h : ∀ j : Nat, j < nB → (l.getD j false = true ↔ (j : Int) ∈ (prs.take i).map (·.2))) (hx : prs.getD i (0, 0) = (u, (vk : Int))) (hi : i < prs.length) (hv : vk < nB) :
    ∀ j : Nat, j < nB → ((l.set vk true).getD j false = true ↔ (j : Int) ∈ (prs.take (i + 1)).map (·.2)) := by
  intro j hj
  have hxi : prs[i]? = some (u, (vk : Int)) := by rw [← hx]; simp [List.getD_eq_getElem?_getD, List.getElem?_eq_getElem hi]
  rw [List.take_add_one, hxi, List.map_append, List.mem_append, ← h j hj]
  rw [List.getD_eq_getElem?_getD, List.getD_eq_getElem?_getD, List.getElem?_set]
  by_cases e : vk = j
  · subst e
    rw [if_pos rfl, if_pos (by omega)]
    simp
  · rw [if_neg e]
    have : ¬ (j : Int) = (vk : Int) := by omega
    simp [this]
set_option maxHeartbeats 16000000 in
set_option maxRecDepth 100000 in
theorem rright_calls (N M : List S24) (prs : List (Int × Int)) {An Ap Az Ak Bn Bp Bz Bk P : Option Addr} {cn cp cz ck dn dp dz dk a1 a2 a3 b1 b2 b3 e : Nat} (w : World) (hA : Kd.C k24 w An N.length N) (hca : N.length ≤ cn) (hB : Kd.C k24 w Bn M.length M) (hcb : M.length ≤ dn) (hP : Kd.C kP w P prs.length prs) (hcp : prs.length ≤ e) (hn : N.length ≤ 1000000) (hm : M.length ≤ 1000000) (hp : prs.length ≤ 1000000) :
    Calls Try.prog 16 #[.agg #[.slice An N.length cn, .slice Ap a1 cp, .slice Az a2 cz, .slice Ak a3 ck], .agg #[.slice Bn M.length dn, .slice Bp b1 dp, .slice Bz b2 dz, .slice Bk b3 dk], .slice P prs.length e] w fun e w' => e = .returned (.bool (rightK N M prs)) ∧ Below w.heap.size w w' := by
  have S : Stt w (fun k => k < w.heap.size) [] [rdV k24 Bn dn M, rdV k24 An cn N, rdV kP P e prs] w := Stt.start w (by intro a ha; simp only [List.mem_cons, List.not_mem_nil, or_false] at ha; rcases ha with rfl | rfl | rfl; exact ⟨hcb, Kd.C_F k24_heap hB⟩; exact ⟨hca, Kd.C_F k24_heap hA⟩; exact ⟨hcp, Kd.C_F kP_heap hP⟩)
  clear hA hB hP hca hcb hcp
  obtain ⟨nA, hnA⟩ : ∃ n, N.length = n := ⟨_, rfl⟩
  obtain ⟨nB, hnB⟩ : ∃ n, M.length = n := ⟨_, rfl⟩
  obtain ⟨nP, hnP⟩ : ∃ n, prs.length = n := ⟨_, rfl⟩
  obtain ⟨R, hR⟩ : ∃ R, rightK N M prs = R := ⟨_, rfl⟩
  rw [hR, hnA, hnB, hnP]
  have HM := Aside0.mk (⟨hnA, hnB, hnP, by omega, by omega, by omega⟩ : N.length = nA ∧ M.length = nB ∧ prs.length = nP ∧ nA ≤ 1000000 ∧ nB ≤ 1000000 ∧ nP ≤ 1000000)
  have hmk := make_bools nB HM.out.2.2.2.2.1
  have hnB0 : decide ((0 : Int) ≤ (nB : Int)) = true := decide_eq_true (by omega)
  have hnB1 : (0 : Int) ≤ (nB : Int) := by omega
  replace hR := Aside0.mk hR
  clear hnA hnB hnP hn hm hp
  have hu24 := Try.underlying24
  have hu39 := Try.underlying39
  have hu50 := Try.underlying50
  have hu44 := Try.underlying44
  have hmix : Try.prog.follows .mixedOrders = true := by kernel_rfl
  by_cases h0 : 0 < nP
  · have d0 : ((nP : Int) == 0) = false := by simp; omega
    have d0b : decide ((nP : Int) = 0) = false := decide_eq_false (by omega)
    have d0c : ¬ (nP : Int) = 0 := by omega
    have d0d : ¬ nP = 0 := by omega
    have d0e : (0 : Int) < (nP : Int) := by omega
    obtain ⟨adP, rfl, x0, x1⟩ := at_P (S.rdC 2 rfl) (0 : Int) (Int.le_refl _) (by rw [HM.out.2.2.1]; omega)
    obtain ⟨⟨u, v⟩, hx⟩ : ∃ x, prs.getD 0 (0, 0) = x := ⟨_, rfl⟩
    simp only [Int.toNat_zero, Nat.zero_mul] at x0 x1
    rw [hx] at x0 x1
    dsimp only at x0 x1
    have e0 : adP.add 0 = adP := rfl
    rw [e0] at x0 x1
    clear x0 x1
    have HX : ∀ {W L Z}, Stt w Z L [rdV k24 Bn dn M, rdV k24 An cn N, rdV kP (some adP) e prs] W → W.cell? adP = some (.int .i64 u) ∧ W.cell? ⟨adP.block, adP.off + 1, none⟩ = some (.int .i64 v) := fun SW => by
      obtain ⟨adP', eP, x0, x1⟩ := at_P (SW.rdC 2 rfl) (0 : Int) (Int.le_refl _) (by rw [HM.out.2.2.1]; omega)
      obtain rfl := Option.some.inj eP
      simp only [Int.toNat_zero, Nat.zero_mul] at x0 x1
      rw [hx] at x0 x1
      exact ⟨x0, x1⟩
    replace HX := Aside0.mk @HX
    by_cases he : u = 0 ∧ v = 0
    · have heq := fun W => eq_pair W u v
      rw [decide_eq_true he] at heq
      obtain ⟨rfl, rfl⟩ := he
      replace hx := Aside0.mk hx
      go_enter Try.func16, Try.ntmps16
      go_wp2_with (first | ((with_reducible refine gate_dst (N := 3) rfl ?_); refine box_event ?hg (N := 3) ?hd (cs := #[.slice An nA cn, .slice Ap a1 cp, .slice Az a2 cz, .slice Ak a3 ck]) (t := 39) ?hr ?_; (case hd => rfl); (case hg => rfl); (case hr => first | (go_simp; done) | (go_simp; rfl)); intro ga hg_ w1 hbox hb; replace S := S.box hg_ hbox hb; clear hbox hb hg_) | ((with_reducible refine gate_dst (N := 4) rfl ?_); refine box_event ?hg (N := 4) ?hd (cs := #[.slice Bn nB dn, .slice Bp b1 dp, .slice Bz b2 dz, .slice Bk b3 dk]) (t := 39) ?hr ?_; (case hd => rfl); (case hg => rfl); (case hr => first | (go_simp; done) | (go_simp; rfl)); intro gb hg_ w2 hbox hb; replace S := S.box hg_ hbox hb; clear hbox hb hg_; obtain ⟨⟨t0, t1, t2, t3⟩, t4, t5, t6, t7⟩ := box4 (S.at_blk 0 rfl); obtain ⟨y0, y1⟩ := HX.out S))
      have SB := Aside0.mk (S.box (t := 4) (cs := bA (List.replicate nB false)) rfl (heap_alloc_new w2 _) (below_alloc (Below.refl _ _) _))
      clear S t0 t1 t2 t3 t4 t5 t6 t7 y0 y1
      obtain ⟨gu, hgu⟩ : ∃ g, w2.heap.size = g := ⟨_, rfl⟩
      rw [hgu] at SB ⊢
      obtain ⟨wq, hwq⟩ : ∃ q, w2.alloc (.cells (bA (List.replicate nB false)) 4) = q := ⟨_, rfl⟩
      rw [hwq] at SB ⊢
      clear hwq hgu
      go_loopg [8, 9] (nP + 1) (fun kq v8 v9 W => ∃ (i : Nat) (la : Int) (l : List Bool), v9 = .int .i64 (i : Int) ∧ v8 = .int .i64 la ∧ Aside0 (i ≤ nP ∧ kq = nP - i + 1 ∧ l.length = nB) ∧ Aside0 ((∀ j, j < i → ¬ pairBad N M prs j) ∧ (∀ j : Nat, j < nB → (l.getD j false = true ↔ (j : Int) ∈ (prs.take i).map (·.2))) ∧ (i = 0 ∧ la = -1 ∨ 0 < i ∧ la = (prs.getD (i - 1) (0, 0)).1 ∧ 0 ≤ la)) ∧ Aside0 (Stt w (fun k => k < w.heap.size) [blk gu 4 (bA l), blk gb 39 #[.slice Bn nB dn, .slice Bp b1 dp, .slice Bz b2 dz, .slice Bk b3 dk], blk ga 39 #[.slice An nA cn, .slice Ap a1 cp, .slice Az a2 cz, .slice Ak a3 ck]] [rdV k24 Bn dn M, rdV k24 An cn N, rdV kP (some adP) e prs] W))
      case atStart => exact ⟨0, -1, List.replicate nB false, rfl, rfl, ⟨Nat.zero_le _, rfl, by simp⟩, ⟨fun j hj => by omega, fun j hj => by simp [List.getD_eq_getElem?_getD, hj], .inl ⟨rfl, rfl⟩⟩, SB⟩
      case round =>
        clear SB
        obtain ⟨i, la, l, rfl, rfl, hi, hg, S⟩ := hrel
        by_cases hlt2 : i < nP
        · have i1 : decide ((i : Int) < (nP : Int)) = true := decide_eq_true (by omega)
          have i2 : (0 : Int) ≤ (i : Int) := by omega
          have i3 : (i : Int) < (nP : Int) := by omega
          obtain ⟨adP', eP, x0, x1⟩ := at_P (S.out.rdC 2 rfl) (i : Int) i2 (by rw [HM.out.2.2.1]; exact i3)
          obtain rfl := Option.some.inj eP
          simp only [Int.toNat_natCast] at x0 x1
          obtain ⟨⟨u, v⟩, hxi⟩ : ∃ x, prs.getD i (0, 0) = x := ⟨_, rfl⟩
          rw [hxi] at x0 x1
          dsimp only at x0 x1
          obtain ⟨PB, hPB⟩ : ∃ PB, pairBad N M prs i = PB := ⟨_, rfl⟩
          have hbad : PB ↔ (u ≤ la ∨ (nA : Int) ≤ u ∨ v < 0 ∨ (nB : Int) ≤ v ∨ v ∈ (prs.take i).map (·.2) ∨ (N.getD u.toNat z24).f0 ≠ (M.getD v.toNat z24).f0) := by
            rw [← hPB]
            unfold pairBad
            rw [hxi, HM.out.1, HM.out.2.1]
            dsimp only
            have h3 := hg.out.2.2
            constructor
            · rintro (h | h | h | h | h | h | h)
              · left; rcases h3 with ⟨_, h3⟩ | ⟨_, _, h3⟩ <;> omega
              · exact .inr (.inl h)
              · exact .inr (.inr (.inl h))
              · exact .inr (.inr (.inr (.inl h)))
              · exact .inr (.inr (.inr (.inr (.inl h))))
              · left; rcases h3 with ⟨h3, _⟩ | ⟨_, h3, _⟩
                · omega
                · rw [h3]; exact h.2
              · exact .inr (.inr (.inr (.inr (.inr h))))
            · rintro (h | h | h | h | h | h)
              · rcases h3 with ⟨_, h3⟩ | ⟨h4, h3, _⟩
                · left; omega
                · right; right; right; right; right; left; exact ⟨h4, by rw [← h3]; exact h⟩
              · exact .inr (.inl h)
              · exact .inr (.inr (.inl h))
              · exact .inr (.inr (.inr (.inl h)))
              · exact .inr (.inr (.inr (.inr (.inl h))))
              · exact .inr (.inr (.inr (.inr (.inr (.inr h)))))
          replace hPB := Aside0.mk hPB
          have HL := Aside0.mk (⟨hlt2, hxi⟩ : _ ∧ _)
          replace hbad := Aside0.mk hbad
          clear hlt2 hxi
          go_upto_region 8 with fail
          go_region_o
          go_upto_region 9 with fail
          have S4 := S.out.keep (below_drew1 (Below.refl wr.heap.size wr))
          obtain ⟨wq, hwq⟩ : ∃ q, wr.drew = q := ⟨_, rfl⟩
          rw [hwq] at S4 ⊢
          clear hwq x0 x1 S
          have ha0 : wq.cell? ⟨ga, 0, none⟩ = some (.slice An nA cn) := (blk_cell (S4.at_blk 2 rfl) 0).trans rfl
          have hb0 : wq.cell? ⟨gb, 0, none⟩ = some (.slice Bn nB dn) := (blk_cell (S4.at_blk 1 rfl) 0).trans rfl
          replace S4 := Aside0.mk S4
          go_cut [83] (fun v83 W => ∃ b : Bool, v83 = .bool b ∧ Aside0 (b = true ↔ PB) ∧ Aside0 (Stt w (fun k => k < w.heap.size) [blk gu 4 (bA l), blk gb 39 #[.slice Bn nB dn, .slice Bp b1 dp, .slice Bz b2 dz, .slice Bk b3 dk], blk ga 39 #[.slice An nA cn, .slice Ap a1 cp, .slice Az a2 cz, .slice Ak a3 ck]] [rdV k24 Bn dn M, rdV k24 An cn N, rdV kP (some adP) e prs] W))
          case first =>
            by_cases k1 : u ≤ la
            · have d1 : decide (u ≤ la) = true := decide_eq_true k1
              replace hbad := Aside0.mk (hbad.out.2 (.inl k1))
              clear k1
              go_region_o
              all_goals (go_wp2_with fail; go_meet; first | exact ⟨_, rfl, ⟨by simp [hbad.out]⟩, ⟨S4.out.keep ⟨rfl, rfl, rfl, Nat.le_refl _, fun _ _ => rfl⟩⟩⟩)
            have d1 : decide (u ≤ la) = false := decide_eq_false k1
            by_cases k2 : (nA : Int) ≤ u
            · have d2 : decide ((nA : Int) ≤ u) = true := decide_eq_true k2
              replace hbad := Aside0.mk (hbad.out.2 (.inr (.inl k2)))
              clear k1 k2
              go_region_o
              all_goals (go_wp2_with fail; go_meet; first | exact ⟨_, rfl, ⟨by simp [hbad.out]⟩, ⟨S4.out.keep ⟨rfl, rfl, rfl, Nat.le_refl _, fun _ _ => rfl⟩⟩⟩)
            have d2 : decide ((nA : Int) ≤ u) = false := decide_eq_false k2
            by_cases k3 : v < 0
            · have d3 : decide (v < 0) = true := decide_eq_true k3
              replace hbad := Aside0.mk (hbad.out.2 (.inr (.inr (.inl k3))))
              clear k1 k2 k3
              go_region_o
              all_goals (go_wp2_with fail; go_meet; first | exact ⟨_, rfl, ⟨by simp [hbad.out]⟩, ⟨S4.out.keep ⟨rfl, rfl, rfl, Nat.le_refl _, fun _ _ => rfl⟩⟩⟩)
            have d3 : decide (v < 0) = false := decide_eq_false k3
            by_cases k4 : (nB : Int) ≤ v
            · have d4 : decide ((nB : Int) ≤ v) = true := decide_eq_true k4
              replace hbad := Aside0.mk (hbad.out.2 (.inr (.inr (.inr (.inl k4)))))
              clear k1 k2 k3 k4
              go_region_o
              all_goals (go_wp2_with fail; go_meet; first | exact ⟨_, rfl, ⟨by simp [hbad.out]⟩, ⟨S4.out.keep ⟨rfl, rfl, rfl, Nat.le_refl _, fun _ _ => rfl⟩⟩⟩)
            have d4 : decide ((nB : Int) ≤ v) = false := decide_eq_false k4
            have u0 : 0 ≤ u := by have := hg.out.2.2; rcases this with ⟨_, h⟩ | ⟨_, _, h⟩ <;> omega
            have p0 : 0 ≤ v := by omega
            have p1 : v < (nB : Int) := by omega
            have p2 : u < (nA : Int) := by omega
            have hlb : v.toNat < l.length := by rw [hi.out.2.2]; omega
            have hgb : l.getD v.toNat false = true ↔ v ∈ (prs.take i).map (·.2) := by
              have := hg.out.2.1 v.toNat (by omega)
              rw [Int.toNat_of_nonneg p0] at this
              exact this
            obtain ⟨q, hq⟩ : ∃ q, l.getD v.toNat false = q := ⟨_, rfl⟩
            have lu : wq.cell? ⟨gu, v.toNat, none⟩ = some (.bool q) := by rw [← hq]; exact (blk_cell (S4.out.at_blk 0 rfl) v.toNat).trans (bA_get hlb)
            rw [hq] at hgb
            cases q with
            | true =>
              replace hbad := Aside0.mk (hbad.out.2 (.inr (.inr (.inr (.inr (.inl (hgb.1 rfl)))))))
              clear k1 k2 k3 k4 hgb hlb
              go_region_o
              all_goals (go_wp2_with fail; go_meet; first | exact ⟨_, rfl, ⟨by simp [hbad.out]⟩, ⟨S4.out.keep ⟨rfl, rfl, rfl, Nat.le_refl _, fun _ _ => rfl⟩⟩⟩)
            | false =>
              have k5 : ¬ v ∈ (prs.take i).map (·.2) := fun h => by have := hgb.2 h; cases this
              obtain ⟨adA, C3, z3, rfl, na0, _⟩ := at_T24 (S4.out.rdC 1 rfl) u u0 (by rw [HM.out.1]; omega)
              obtain ⟨adB, D3, y3, rfl, nb0, _⟩ := at_T24 (S4.out.rdC 0 rfl) v p0 (by rw [HM.out.2.1]; omega)
              obtain ⟨ka, hka⟩ : ∃ x, (rd_T24 N u).f0 = x := ⟨_, rfl⟩
              obtain ⟨kb, hkb⟩ : ∃ x, (rd_T24 M v).f0 = x := ⟨_, rfl⟩
              rw [hka] at na0
              rw [hkb] at nb0
              by_cases k8 : ka = kb
              · have d8 : (ka != kb) = false := by simp [k8]
                have hbad2 : ¬ PB := fun h => by
                  rcases hbad.out.1 h with h | h | h | h | h | h
                  · exact k1 h
                  · exact k2 h
                  · exact k3 h
                  · exact k4 h
                  · exact k5 h
                  · exact h (by have e : (rd_T24 N u).f0 = (rd_T24 M v).f0 := by rw [hka, hkb, k8]
                                exact e)
                replace hbad := Aside0.mk hbad2
                clear k1 k2 k3 k4 k5 k8 hgb hlb hbad2 hka hkb
                go_region_o
                all_goals (go_wp2_with fail; go_meet; first | exact ⟨_, rfl, ⟨by simp [hbad.out]⟩, ⟨S4.out.keep ⟨rfl, rfl, rfl, Nat.le_refl _, fun _ _ => rfl⟩⟩⟩)
              · have d8 : (ka != kb) = true := by simp [k8]
                have hbad2 : PB := hbad.out.2 (.inr (.inr (.inr (.inr (.inr (fun h => k8 (by rw [← hka, ← hkb]; exact h)))))))
                replace hbad := Aside0.mk hbad2
                clear k1 k2 k3 k4 k5 k8 hgb hlb hbad2 hka hkb
                go_region_o
                all_goals (go_wp2_with fail; go_meet; first | exact ⟨_, rfl, ⟨by simp [hbad.out]⟩, ⟨S4.out.keep ⟨rfl, rfl, rfl, Nat.le_refl _, fun _ _ => rfl⟩⟩⟩)
          case rest =>
            clear ha0 hb0 S4
            obtain ⟨bb, rfl, hbb, S5⟩ := hcut
            cases bb with
            | true =>
              have hPBt := hbb.out.1 rfl
              rw [← hPB.out] at hPBt
              have hRf : R = false := by
                rw [← hR.out]
                unfold rightK
                exact decide_eq_false (fun h => h.1 i (by rw [HM.out.2.2.1]; exact HL.out.1) hPBt)
              replace hRf := Aside0.mk hRf
              clear hPBt hbad
              go_wp2
              go_ret
              exact ⟨by rw [hRf.out]; rfl, S5.out.below⟩
            | false =>
              have hPBf : ¬ PB := fun h => by have := hbb.out.2 h; cases this
              have hc1 := fun h => hPBf (hbad.out.2 h)
              have p0 : 0 ≤ v := Int.not_lt.1 (fun h => hc1 (.inr (.inr (.inl h))))
              have p1 : v < (nB : Int) := Int.not_le.1 (fun h => hc1 (.inr (.inr (.inr (.inl h)))))
              have pu : la < u := Int.not_le.1 (fun h => hc1 (.inl h))
              rw [← hPB.out] at hPBf
              clear hc1 hbad hbb
              obtain ⟨vk, rfl⟩ : ∃ n : Nat, v = (n : Int) := ⟨v.toNat, by omega⟩
              have p1n : vk < nB := by omega
              have hfu := blk_frozen (S5.out.at_blk 0 rfl) vk
              have hcu : wc.cell? ⟨gu, vk, none⟩ = some (.bool (l.getD vk false)) := (blk_cell (S5.out.at_blk 0 rfl) vk).trans (bA_get (by rw [hi.out.2.2]; exact p1n))
              have S6 := S5.out.of (S5.out.st.set (i := 0) rfl vk (.bool true))
              rw [bA_set] at S6
              have hwi : wrap64 ((i : Int) + 1) = ((i + 1 : Nat) : Int) := by have := HL.out.1; have := HM.out; unfold wrap64; omega
              replace hwi := Aside0.mk hwi
              replace hPBf := Aside0.mk (⟨hPBf, p1n, pu⟩ : _ ∧ _ ∧ _)
              replace S6 := Aside0.mk S6
              clear S5 pu
              go_wp2
              go_roundg (nP - i)
              case rel => exact ⟨i + 1, u, l.set vk true, by rw [hwi.out], rfl, ⟨by have := HL.out.1; omega, by have := HL.out.1; omega, by rw [List.length_set]; exact hi.out.2.2⟩, ⟨fun j hj => by
                by_cases e : j = i
                · rw [e]; exact hPBf.out.1
                · exact hg.out.1 j (by omega), bools_step hi.out.2.2 hg.out.2.1 HL.out.2 (by rw [HM.out.2.2.1]; exact HL.out.1) hPBf.out.2.1, .inr ⟨by omega, by rw [Nat.add_sub_cancel, HL.out.2], by have h1 := hg.out.2.2; have h2 := hPBf.out.2.2; rcases h1 with ⟨_, h⟩ | ⟨_, _, h⟩ <;> omega⟩⟩, S6⟩
              case measure => have := hi.out; have := HL.out.1; omega
        · have hin : i = nP := by have := hi.out.1; omega
          have i1 : decide ((i : Int) < (nP : Int)) = false := decide_eq_false (by omega)
          have i1c : ¬ (i : Int) < (nP : Int) := by omega
          have hRt : R = true := by
            rw [← hR.out]
            unfold rightK
            exact decide_eq_true ⟨fun j hj => hg.out.1 j (by rw [HM.out.2.2.1] at hj; omega), by rw [HM.out.2.2.1]; exact h0, hx.out⟩
          replace hRt := Aside0.mk hRt
          replace hin := Aside0.mk hin
          clear hlt2
          go_wp2
          go_ret
          exact ⟨by rw [hRt.out]; rfl, S.out.below⟩
    · have heq := fun W => eq_pair W u v
      rw [decide_eq_false he] at heq
      have hRf : R = false := by
        rw [← hR.out]
        unfold rightK
        exact decide_eq_false (fun h => he (by have := h.2.2; rw [hx] at this; exact ⟨congrArg Prod.fst this, congrArg Prod.snd this⟩))
      replace hRf := Aside0.mk hRf
      replace hx := Aside0.mk hx
      clear he
      go_enter Try.func16, Try.ntmps16
      go_wp2_with (first | ((with_reducible refine gate_dst (N := 3) rfl ?_); refine box_event ?hg (N := 3) ?hd (cs := #[.slice An nA cn, .slice Ap a1 cp, .slice Az a2 cz, .slice Ak a3 ck]) (t := 39) ?hr ?_; (case hd => rfl); (case hg => rfl); (case hr => first | (go_simp; done) | (go_simp; rfl)); intro ga hg_ w1 hbox hb; replace S := S.box hg_ hbox hb; clear hbox hb hg_) | ((with_reducible refine gate_dst (N := 4) rfl ?_); refine box_event ?hg (N := 4) ?hd (cs := #[.slice Bn nB dn, .slice Bp b1 dp, .slice Bz b2 dz, .slice Bk b3 dk]) (t := 39) ?hr ?_; (case hd => rfl); (case hg => rfl); (case hr => first | (go_simp; done) | (go_simp; rfl)); intro gb hg_ w2 hbox hb; replace S := S.box hg_ hbox hb; clear hbox hb hg_; obtain ⟨⟨t0, t1, t2, t3⟩, t4, t5, t6, t7⟩ := box4 (S.at_blk 0 rfl); obtain ⟨y0, y1⟩ := HX.out S))
      go_ret
      exact ⟨by rw [hRf.out]; rfl, S.below⟩
  · have d0 : ((nP : Int) == 0) = true := by simp; omega
    have d0b : decide ((nP : Int) = 0) = true := decide_eq_true (by omega)
    have d0c : (nP : Int) = 0 := by omega
    have hRf : R = false := by
      rw [← hR.out]
      unfold rightK
      exact decide_eq_false (fun h => h0 (by rw [← HM.out.2.2.1]; exact h.2.1))
    have hz : nP = 0 := by omega
    subst hz
    replace hRf := Aside0.mk hRf
    clear d0c
    go_enter Try.func16, Try.ntmps16
    go_wp2_with (first | ((with_reducible refine gate_dst (N := 3) rfl ?_); refine box_event ?hg (N := 3) ?hd (cs := #[.slice An nA cn, .slice Ap a1 cp, .slice Az a2 cz, .slice Ak a3 ck]) (t := 39) ?hr ?_; (case hd => rfl); (case hg => rfl); (case hr => first | (go_simp; done) | (go_simp; rfl)); intro ga hg_ w1 hbox hb; replace S := S.box hg_ hbox hb; clear hbox hb hg_) | ((with_reducible refine gate_dst (N := 4) rfl ?_); refine box_event ?hg (N := 4) ?hd (cs := #[.slice Bn nB dn, .slice Bp b1 dp, .slice Bz b2 dz, .slice Bk b3 dk]) (t := 39) ?hr ?_; (case hd => rfl); (case hg => rfl); (case hr => first | (go_simp; done) | (go_simp; rfl)); intro gb hg_ w2 hbox hb; replace S := S.box hg_ hbox hb; clear hbox hb hg_; obtain ⟨⟨t0, t1, t2, t3⟩, t4, t5, t6, t7⟩ := box4 (S.at_blk 0 rfl)))
    go_ret
    exact ⟨by rw [hRf.out]; rfl, S.below⟩
end Go.Proofs.Ytfmlpkeaiohknaa.Q
/-! What the reference's Of does to the row of parents, place by place. -/
set_option linter.unusedVariables false
set_option linter.unusedSimpArgs false
namespace Go.Proofs.Ytfmlpkeaiohknaa.Q
open Go.RowKit Go.Proofs.YtfmlpkeaiohknaaW.PrintWords Go.Proofs.YtfmlpkeaiohknaaW.PrintLast Go.Proofs.YtfmlpkeaiohknaaW.PrintMore
mutual
theorem lay_node {s : PS} : ∀ (x : S24) (at_ : Nat) (p : Int) (N rest : List S24), Lay s x at_ p → N.drop at_ = pre x ++ rest → ∀ i, at_ ≤ i → i < at_ + nsz x → ∃ y q rest', Lay s y i q ∧ N.drop i = pre y ++ rest'
  | ⟨a, b, c, l⟩, at_, p, N, rest, h, hN, i, h0, h1 => by
    by_cases he : i = at_
    · subst he; exact ⟨_, _, _, h, hN⟩
    · simp only [Lay, nsz] at h h1
      refine layL_node l (at_ + 1) at_ N rest h.2.2.2 ?_ i (by omega) (by omega)
      rw [← List.drop_drop, hN]
      simp [pre]
theorem layL_node {s : PS} : ∀ (l : List S24) (a : Nat) (p : Int) (N rest : List S24), LayL s l a p → N.drop a = preL l ++ rest → ∀ i, a ≤ i → i < a + nszL l → ∃ y q rest', Lay s y i q ∧ N.drop i = pre y ++ rest'
  | [], a, p, N, rest, h, hN, i, h0, h1 => by simp only [nszL] at h1; omega
  | k :: r, a, p, N, rest, h, hN, i, h0, h1 => by
    simp only [LayL, nszL] at h h1
    simp only [preL, List.append_assoc] at hN
    by_cases hc : i < a + nsz k
    · exact lay_node k a p N _ h.1 hN i h0 hc
    · refine layL_node r (a + nsz k) p N rest h.2 ?_ i (by omega) (by omega)
      rw [← List.drop_drop, hN, ← pre_len k, List.drop_left]
end
theorem head_pre (x : S24) (r : List S24) : ∃ q, pre x ++ r = x :: q := by
  obtain ⟨a, b, c, l⟩ := x; exact ⟨_, by simp [pre]; rfl⟩
theorem layK_P {s : PS} {x : S24} {a : Nat} {p : Int} (h : Lay s x a p) : s.P[a]? = some p := by obtain ⟨_, _, _, l⟩ := x; exact h.1
theorem layK_Z {s : PS} {x : S24} {a : Nat} {p : Int} (h : Lay s x a p) : s.Z[a]? = some (nsz x : Int) := by obtain ⟨_, _, _, l⟩ := x; exact h.2.1
theorem layK_K {s : PS} {x : S24} {a : Nat} {p : Int} (h : Lay s x a p) : s.K[a]? = some (places x.f3 (a + 1)) := by obtain ⟨_, _, _, l⟩ := x; exact h.2.2.1
theorem layK_L {s : PS} {x : S24} {a : Nat} {p : Int} (h : Lay s x a p) : LayL s x.f3 (a + 1) a := by obtain ⟨_, _, _, l⟩ := x; exact h.2.2.2
theorem nsz_eq (x : S24) : nsz x = 1 + nszL x.f3 := by obtain ⟨_, _, _, l⟩ := x; rfl
theorem nszL_app : ∀ (l m : List S24), nszL (l ++ m) = nszL l + nszL m
  | [], m => by simp [nszL]
  | x :: r, m => by simp only [List.cons_append, nszL, nszL_app r m]; omega
theorem layL_app {s : PS} : ∀ (l m : List S24) (a : Nat) (p : Int), LayL s (l ++ m) a p ↔ LayL s l a p ∧ LayL s m (a + nszL l) p
  | [], m, a, p => by simp [LayL, nszL]
  | x :: r, m, a, p => by
    simp only [List.cons_append, LayL, nszL]
    rw [layL_app r m]
    rw [show a + nsz x + nszL r = a + (nsz x + nszL r) by omega]
    exact ⟨fun h => ⟨⟨h.1, h.2.1⟩, h.2.2⟩, fun h => ⟨h.1.1, h.1.2, h.2⟩⟩
theorem places_app : ∀ (l m : List S24) (a : Nat), places (l ++ m) a = places l a ++ places m (a + nszL l)
  | [], m, a => by simp [places, nszL]
  | x :: r, m, a => by
    simp only [List.cons_append, places, nszL, places_app r m]
    rw [show a + nsz x + nszL r = a + (nsz x + nszL r) by omega]
theorem nszR_pos (x : S24) : 0 < nsz x := by rw [nsz_eq]; omega
mutual
theorem par {s : PS} : ∀ (x : S24) (a : Nat) (p : Int), Lay s x a p → ∀ k, a < k → k < a + nsz x → ∃ (v : Nat) (y : S24) (q : Int), s.P[k]? = some (v : Int) ∧ a ≤ v ∧ v < k ∧ Lay s y v q ∧ k < v + nsz y
  | ⟨a0, b0, c0, l⟩, a, p, h, k, h0, h1 => by
    have h' := h
    simp only [Lay, nsz] at h h1
    rcases parL l (a + 1) a h.2.2.2 k (by omega) (by omega) with hk | ⟨v, y, q, e1, e2, e3, e4, e5⟩
    · exact ⟨a, _, p, hk, Nat.le_refl _, h0, h', by simp only [nsz]; omega⟩
    · exact ⟨v, y, q, e1, by omega, e3, e4, e5⟩
theorem parL {s : PS} : ∀ (l : List S24) (a : Nat) (p : Int), LayL s l a p → ∀ k, a ≤ k → k < a + nszL l → s.P[k]? = some p ∨ ∃ (v : Nat) (y : S24) (q : Int), s.P[k]? = some (v : Int) ∧ a ≤ v ∧ v < k ∧ Lay s y v q ∧ k < v + nsz y
  | [], a, p, h, k, h0, h1 => by simp only [nszL] at h1; omega
  | x :: r, a, p, h, k, h0, h1 => by
    simp only [LayL, nszL] at h h1
    by_cases hc : k < a + nsz x
    · by_cases he : k = a
      · subst he; exact .inl (layK_P h.1)
      · exact .inr (par x a p h.1 k (by omega) hc)
    · rcases parL r (a + nsz x) p h.2 k (by omega) (by omega) with hk | ⟨v, y, q, e1, e2, e3, e4, e5⟩
      · exact .inl hk
      · exact .inr ⟨v, y, q, e1, by omega, e3, e4, e5⟩
end
/-- The row of parents, i nodes' Kids being told, and the i-th's below pos. -/
structure PInv (sP P : List Int) (i pos : Nat) : Prop where
  len : P.length = sP.length
  at_ : ∀ (k : Nat) (v : Int), sP[k]? = some v → P[k]? = some (if v < i ∨ (v = i ∧ k < pos) then v else -1)
section
variable {s : PS} {x : S24} (hx : Lay s x 0 (-1)) (hl : s.P.length = nsz x)
include hx hl
theorem parent_of {k : Nat} {v : Int} (h : s.P[k]? = some v) : (k = 0 ∧ v = -1) ∨ ∃ (u : Nat) (y : S24) (q : Int), v = u ∧ u < k ∧ Lay s y u q ∧ k < u + nsz y := by
  have hk := (List.getElem?_eq_some_iff.1 h).1
  by_cases h0 : k = 0
  · subst h0
    rw [layK_P hx] at h
    injection h with h
    exact .inl ⟨rfl, h.symm⟩
  · obtain ⟨u, y, q, e1, _, e3, e4, e5⟩ := par x 0 (-1) hx k (by omega) (by omega)
    rw [h] at e1
    injection e1 with e1
    exact .inr ⟨u, y, q, e1, e3, e4, e5⟩
theorem PInv.start : PInv s.P (List.replicate (nsz x) (-1)) 0 1 := by
  refine ⟨by simp [hl], fun k v h => ?_⟩
  have hk := (List.getElem?_eq_some_iff.1 h).1
  rw [List.getElem?_replicate, if_pos (by omega)]
  congr 1
  rcases parent_of hx hl h with ⟨_, hv⟩ | ⟨u, y, q, hv, hu, _, _⟩
  · subst hv; simp
  · rw [if_neg]
    intro hc
    rcases hc with hc | hc <;> omega
omit hx in
theorem PInv.step {P : List Int} {i pos : Nat} {y : S24} {q : Int} {j : Nat} {kid : S24} (h : PInv s.P P i pos) (hy : Lay s y i q) (hj : y.f3[j]? = some kid) (hpos : pos = i + 1 + nszL (y.f3.take j)) :
    PInv s.P (P.set pos (i : Int)) i (pos + nsz kid) ∧ pos < nsz x := by
  have hjl := (List.getElem?_eq_some_iff.1 hj).1
  have hsplit : y.f3 = y.f3.take j ++ kid :: y.f3.drop (j + 1) := by
    have e : y.f3[j] = kid := (List.getElem?_eq_some_iff.1 hj).2
    rw [← e, ← List.drop_eq_getElem_cons hjl, List.take_append_drop]
  have hL := layK_L hy
  rw [hsplit, layL_app] at hL
  obtain ⟨_, hL⟩ := hL
  simp only [LayL] at hL
  rw [show i + 1 + nszL (y.f3.take j) = pos by omega] at hL
  have hkid := hL.1
  have hPp := layK_P hkid
  have hpl := (List.getElem?_eq_some_iff.1 hPp).1
  refine ⟨⟨by simp [h.len], fun k v hv => ?_⟩, by omega⟩
  by_cases hk : k = pos
  · subst hk
    rw [hPp] at hv
    injection hv with hv
    rw [List.getElem?_set_self (by rw [h.len]; exact hpl), ← hv]
    have := nszR_pos kid
    rw [if_pos (Or.inr ⟨rfl, by omega⟩)]
  · rw [List.getElem?_set_ne (Ne.symm hk), h.at_ k v hv]
    congr 1
    have hiff : (v < (i : Int) ∨ (v = i ∧ k < pos)) ↔ (v < (i : Int) ∨ (v = i ∧ k < pos + nsz kid)) := by
      constructor
      · rintro (h1 | h1)
        · exact .inl h1
        · exact .inr ⟨h1.1, by omega⟩
      · rintro (h1 | h1)
        · exact .inl h1
        · by_cases hkp : k < pos
          · exact .inr ⟨h1.1, hkp⟩
          · obtain ⟨u, y', q', e1, e2, _, _, _⟩ := par kid pos i hkid k (by omega) h1.2
            rw [hv] at e1
            injection e1 with e1
            omega
    by_cases hc : v < (i : Int) ∨ (v = i ∧ k < pos)
    · rw [if_pos hc, if_pos (hiff.1 hc)]
    · rw [if_neg hc, if_neg (fun h => hc (hiff.2 h))]
theorem PInv.next {P : List Int} {i : Nat} {y : S24} {q : Int} (h : PInv s.P P i (i + 1 + nszL y.f3)) (hy : Lay s y i q) : PInv s.P P (i + 1) (i + 2) := by
  refine ⟨h.len, fun k v hv => ?_⟩
  rw [h.at_ k v hv]
  congr 1
  have hiff : (v < (i : Int) ∨ (v = i ∧ k < i + 1 + nszL y.f3)) ↔ (v < ((i + 1 : Nat) : Int) ∨ (v = ((i + 1 : Nat) : Int) ∧ k < i + 2)) := by
    rcases parent_of hx hl hv with ⟨_, h1⟩ | ⟨u, y', q', h1, h2, h3, h4⟩
    · subst h1
      constructor
      · intro _; exact .inl (by omega)
      · intro _; exact .inl (by omega)
    · constructor
      · rintro (h5 | h5)
        · exact .inl (by omega)
        · exact .inl (by omega)
      · rintro (h5 | h5)
        · by_cases hvi : v = (i : Int)
          · right
            refine ⟨hvi, ?_⟩
            have hu : u = i := by omega
            subst hu
            have e1 := layK_Z h3
            rw [layK_Z hy] at e1
            injection e1 with e1
            have e2 := nsz_eq y
            omega
          · exact .inl (by omega)
        · omega
  by_cases hc : v < (i : Int) ∨ (v = i ∧ k < i + 1 + nszL y.f3)
  · rw [if_pos hc, if_pos (hiff.1 hc)]
  · rw [if_neg hc, if_neg (fun h => hc (hiff.2 h))]
theorem PInv.fin {P : List Int} (h : PInv s.P P (nsz x) (nsz x + 1)) : P = s.P := by
  apply List.ext_getElem?
  intro k
  cases hk : s.P[k]? with
  | none => rw [List.getElem?_eq_none (by rw [h.len]; exact List.getElem?_eq_none_iff.1 hk)]
  | some v =>
    rw [h.at_ k v hk]
    have hkl := (List.getElem?_eq_some_iff.1 hk).1
    rw [if_pos]
    rcases parent_of hx hl hk with ⟨_, h1⟩ | ⟨u, y', q', h1, h2, h3, h4⟩
    · exact .inl (by omega)
    · exact .inl (by omega)
end
/-- The sizes of a plan. -/
theorem ofP_Z (x : S24) : (ofP x).Z = (ofP x).N.map fun y => (nsz y : Int) := by
  obtain ⟨w1, ag, lay⟩ := addN_lay x (-1) ⟨[], [], [], []⟩ ⟨rfl, rfl, rfl⟩
  have hN : (ofP x).N = pre x := ofP_N x
  have hZl : (ofP x).Z.length = (ofP x).N.length := w1.z
  apply List.ext_getElem?
  intro k
  by_cases hk : k < nsz x
  · obtain ⟨y, q, rest, hy, hd⟩ := lay_node x 0 (-1) (pre x) [] lay (by simp) k (by omega) (by omega)
    obtain ⟨r2, hr2⟩ := head_pre y rest
    have h1 : (pre x)[k]? = some y := by
      have : ((pre x).drop k)[0]? = some y := by rw [hd, hr2]; rfl
      simpa using this
    have h2 : (ofP x).Z[k]? = some (nsz y : Int) := layK_Z hy
    rw [h2, List.getElem?_map, hN, h1]
    rfl
  · rw [List.getElem?_eq_none (by rw [hZl, hN, pre_len]; omega), List.getElem?_eq_none (by rw [List.length_map, hN, pre_len]; omega)]
theorem ofP_at (x : S24) {i : Nat} {y : S24} (h : (ofP x).N[i]? = some y) : ∃ q, Lay (ofP x) y i q := by
  obtain ⟨w1, ag, lay⟩ := addN_lay x (-1) ⟨[], [], [], []⟩ ⟨rfl, rfl, rfl⟩
  rw [ofP_N] at h
  have hl := (List.getElem?_eq_some_iff.1 h).1
  rw [pre_len] at hl
  obtain ⟨v, q, rest, hv, hN⟩ := lay_node x 0 (-1) (pre x) [] lay (by simp) i (by omega) (by omega)
  obtain ⟨w, hw⟩ := head_pre v rest
  have : ((pre x).drop i)[0]? = some v := by rw [hN, hw]; rfl
  simp only [List.getElem?_drop, Nat.add_zero] at this
  rw [h] at this
  injection this with this
  exact ⟨q, this ▸ hv⟩
theorem sub_szN (x : S24) {i : Nat} {y : S24} (h : (ofP x).N[i]? = some y) : nsz y ≤ nsz x := by
  obtain ⟨w1, ag, lay⟩ := addN_lay x (-1) ⟨[], [], [], []⟩ ⟨rfl, rfl, rfl⟩
  rw [ofP_N] at h
  have hl := (List.getElem?_eq_some_iff.1 h).1
  rw [pre_len] at hl
  obtain ⟨v, q, rest, hv, hN⟩ := lay_node x 0 (-1) (pre x) [] lay (by simp) i (by omega) (by omega)
  obtain ⟨w, hw⟩ := head_pre v rest
  have h1 : ((pre x).drop i)[0]? = some v := by rw [hN, hw]; rfl
  simp only [List.getElem?_drop, Nat.add_zero] at h1
  rw [h] at h1
  injection h1 with h1
  have h2 := congrArg List.length hN
  rw [List.length_drop, List.length_append, pre_len, pre_len] at h2
  rw [h1]; omega
end Go.Proofs.Ytfmlpkeaiohknaa.Q
-- Written by a program of this session (wip/gen_rof.py) for this claim; Lean checks it.
set_option linter.unusedVariables false
set_option linter.unusedSimpArgs false
namespace Go.Proofs.Ytfmlpkeaiohknaa.Q
open Go.RowKit Go.Proofs.YtfmlpkeaiohknaaW.PrintWords Go.Proofs.YtfmlpkeaiohknaaW.PrintLast Go.Proofs.YtfmlpkeaiohknaaW.PrintMore Go.Proofs.YtfmlpkeaiohknaaW.SL
attribute [local go_sem] max2_int min2_int max_two min_two max_three min_three max_four min_four
theorem front_perm {α : Type} : ∀ {l : List α} {i : Nat} {a : α}, l[i]? = some a → l.Perm (a :: l.eraseIdx i)
  | [], _, _, h => by simp at h
  | b :: r, 0, a, h => by simp at h; subst h; exact List.Perm.refl _
  | b :: r, i + 1, a, h => by
    have h1 := front_perm (l := r) (i := i) (a := a) (by simpa using h)
    exact (List.Perm.cons b h1).trans (List.Perm.swap a b _)
theorem app_list {P : Program} {ops : Array Oper} {o : Oper} {rest : List Oper} {a : Act} {Q : Exit → Act → World → Prop} {W : World} (hgd : o.guard = none) (s x : Operand) (t e : TypeId) (z : Value) (size bytes : Nat)
    (ho : o.op = .call { callee := .builtin .append, args := #[s, x], argTypes := #[t, t] })
    (ht : P.underlying t = some (.slice e)) (hinfo : (P.info? e).map (fun i => (i.zero, i.size, i.bytes)) = some (some z, size, bytes)) (hz : z.cells.size = size) (hs0 : 0 < size) (hb0 : 0 < bytes)
    (v u : Value) (n : Nat) (xs ys : List Value) (hs : a.eval s = v) (hx : a.eval x = u) (h1 : ∀ u ∈ ys, u.oneCell' = true)
    (HO : W.ownsRow 0 e size v n xs) (HX : W.ownsRow 0 e size u 1 ys) (hl : (n + 1) * bytes ≤ 140737488355328)
    (h : ∀ v1 w1, w1.ownsRow 0 e size v1 (n + 1) (xs ++ ys) → W.grownBy w1 v.ownBlock → (v1.ownBlock = v.ownBlock ∨ ∃ b, v1.ownBlock = some b ∧ W.heap.size ≤ b) → wpList P ops Q rest (a.put o.dst v1) w1) : wpList P ops Q (o :: rest) a W := by
  refine wpList_plain hgd fun K hK => ?_
  have hw : Region.wanted o (yielded ops a.tmps) = true := by simp [Region.wanted, hgd]
  have h2 := app_step (K := K) (Q := Q) hw s x t e z size bytes ho ht hinfo hz hs0 hb0 v u n xs ys hs hx h1 HO HX hl (fun v1 w1 a b c => hK _ _ (h v1 w1 a b c))
  rwa [if_pos hw] at h2
def rof.T5 : Bool × List (List Nat × List Nat) := (true, [([], []), ([0], [0]), ([], []), ([2], [2]), ([], []), ([3, 4], [3, 4]), ([5], [5]), ([], []), ([6, 7], [6, 7]), ([8], [8]), ([1, 9, 8], [1, 9]), ([0, 1, 2, 3, 4, 5, 6, 7, 8, 9, 10], []), ([11, 10, 10, 0, 1, 2, 3, 4, 5, 6, 7, 8, 9, 10], [10, 11])])
def rof.B5 : List Nat := [0, 1, 0, 4, 0, 28, 60, 0, 252, 508, 1023, 2047, 4095]
theorem rof.tab5 : rtab .any (opsOf Try.f12 5) = rof.T5 := by kernel_rfl
theorem rof.bits5 : waitsOk rof.T5.2 rof.B5 = true := by kernel_rfl
def rof.T16 : Bool × List (List Nat × List Nat) := (true, [([], []), ([0], [0]), ([], []), ([], []), ([3], [3]), ([], []), ([4, 5], [4, 5]), ([6], [6]), ([], []), ([8], [8]), ([7, 9], [7, 9]), ([1, 2, 0, 1, 2, 3, 4, 5, 6, 7, 8, 9, 10], [1, 2]), ([11, 10, 10, 0, 1, 2, 3, 4, 5, 6, 7, 8, 9, 10], [10, 11])])
def rof.B16 : List Nat := [0, 1, 0, 0, 8, 0, 56, 120, 0, 256, 1016, 2047, 4095]
theorem rof.tab16 : rtab .any (opsOf Try.f12 16) = rof.T16 := by kernel_rfl
theorem rof.bits16 : waitsOk rof.T16.2 rof.B16 = true := by kernel_rfl
/-- The reference's plan while it is made: its box, its three rows, the rows of Kids. -/
def PL (g n : Nat) (vn p z k : Value) (P Zs : List Int) (us : List Value) (K : List (List Int)) (X : List Asr) : List Asr :=
  blk g 39 #[vn, p, z, k] :: row p 3 1 n (ints P) :: row z 3 1 n (ints Zs) :: row k 36 1 n us :: grp (inn us K) :: X
theorem PL.start {w0 w : World} {Z : Nat → Prop} {g : Nat} {vn : Value} {X : List Asr} (h : St w0 Z (blk g 39 #[vn, .slice none 0 0, .slice none 0 0, .slice none 0 0] :: X) w) :
    St w0 Z (PL g 0 vn (.slice none 0 0) (.slice none 0 0) (.slice none 0 0) [] [] [] [] X) w := by
  have he : St w0 Z (grp [] :: blk g 39 #[vn, .slice none 0 0, .slice none 0 0, .slice none 0 0] :: X) w := by
    obtain ⟨f, hf, hd⟩ := h.hs
    exact ⟨h.below, h.zlt, f, ⟨fun _ => False, f, fun k => by simp, fun k h1 => h1.elim, fun k h1 => h1, hf⟩, hd⟩
  have h4 := ((he.row_nil 36 1).row_nil 3 1).row_nil 3 1
  exact h4.perm (List.perm_middle (l₁ := [row (.slice none 0 0) 3 1 0 [], row (.slice none 0 0) 3 1 0 [], row (.slice none 0 0) 36 1 0 [], grp []]))
structure PlanR (w' : World) (Z' : Nat → Prop) (s : PS) (An : Option Addr) (cn : Nat) (Ap : Option Addr) (cp : Nat) (Az : Option Addr) (cz : Nat) (Ak : Option Addr) (ck : Nat) : Prop where
  f : ∀ a ∈ [rdV k24 An cn s.N, rdV (Kd.int .i64) Ap cp s.P, rdV (Kd.int .i64) Az cz s.Z, rdV (Kd.slice 3 (Kd.int .i64)) Ak ck s.K], a.P w' Z'
theorem size_ev (y : S24) (m : Int) (h1 : (nsz y : Int) ≤ m) (h2 : m ≤ 1000000) : ∃ k, scarfref05_Size.f k y.f0 y.f1 y.f2 y.f3 m = some (nsz y : Int) := by
  have h := nodes_ev y m (by have := nszR_pos y; omega) h2
  rw [List.take_of_length_le (by rw [pre_len]; omega)] at h
  obtain ⟨k, hk⟩ := h.has
  refine ⟨k, ?_⟩
  unfold scarfref05_Size.f
  rw [hk, Option.bind_some, pre_len]
theorem PL.out {w0 w : World} {Z : Nat → Prop} {g n : Nat} {vn p z k : Value} {P Zs : List Int} {us : List Value} {K : List (List Int)} {X : List Asr} (h : St w0 Z (PL g n vn p z k P Zs us K X) w) (hP : P.length = n) (hZ : Zs.length = n) (hu : us.length = n) (hK : K.length = n) :
    Kd.R (Kd.int .i64) 3 w w0.heap.size (fun _ => True) p P ∧ Kd.R (Kd.int .i64) 3 w w0.heap.size (fun _ => True) z Zs ∧ Kd.S (Kd.slice 3 (Kd.int .i64)) 36 w w0.heap.size (fun _ => True) k K := by
  have hp : (PL g n vn p z k P Zs us K X)[1]? = some (row p 3 1 n (ints P)) := rfl
  have hz : (PL g n vn p z k P Zs us K X)[2]? = some (row z 3 1 n (ints Zs)) := rfl
  have hk : (PL g n vn p z k P Zs us K X)[3]? = some (row k 36 1 n us) := rfl
  have hg : (PL g n vn p z k P Zs us K X)[4]? = some (grp (inn us K)) := rfl
  have op := h.row_out hp; have oz := h.row_out hz; have ok_ := h.row_out hk
  refine ⟨Kd.R_of_own (enc := Value.int .i64) (by rw [hP]; exact op.1) (fun k hk => trivial), Kd.R_of_own (enc := Value.int .i64) (by rw [hZ]; exact oz.1) (fun k hk => trivial), ?_⟩
  obtain ⟨f, hr⟩ := inn_reps (ok := fun q => True ∧ some q ≠ k.ownBlock) h hg (hu.trans hK.symm) (fun j u hj q hq => by
    have hl : j < K.length := by rw [hK, ← hu]; exact (List.getElem?_eq_some_iff.1 hj).1
    exact ⟨trivial, h.row_sub_apart hk hg (inn_at hj (List.getElem?_eq_getElem hl)) (by decide) q hq⟩)
  exact ⟨f, fun q hq => trivial, us, by rw [List.length_zipIdx, hK]; exact ok_.1, hr⟩
def r5L (g n : Nat) (vn p z k : Value) (P Zs : List Int) (us : List Value) (K : List (List Int)) (sz : Int) (X : List Asr) (b : Nat → Bool) (tt zz : Value) : List Asr :=
 [blk g 39 #[vn, p, cond (b 12) zz z, k], row p 3 1 n (ints P), cond (b 10) (row zz 3 1 (n + 1) (ints Zs ++ [.int .i64 sz])) (row z 3 1 n (ints Zs)), row k 36 1 n us, grp (inn us K), cond (b 9) (row tt 3 1 1 [.int .i64 sz]) emp] ++ X
def r16L (g n : Nat) (vn p z k : Value) (P Zs : List Int) (us : List Value) (K : List (List Int)) (i : Nat) (kl : List Int) (kk : Int) (X : List Asr) (b : Nat → Bool) (tt uu : Value) : List Asr :=
 [blk g 39 #[vn, p, z, k], row p 3 1 n (ints P), row z 3 1 n (ints Zs), row k 36 1 n (cond (b 12) (us.set i uu) us), grp (cond (b 10) ((inn us K).set i (row uu 3 1 (kl.length + 1) (ints kl ++ [.int .i64 kk]))) (inn us K)), cond (b 9) (row tt 3 1 1 [.int .i64 kk]) emp] ++ X
set_option maxHeartbeats 16000000 in
set_option maxRecDepth 100000 in
theorem rof_calls (x : S24) (m : Int) (hm : (nsz x : Int) ≤ m) (hm2 : m ≤ 1000000) (A0 : Option Addr) (c0 : Nat) (w : World) (Z : Nat → Prop) (hZ : ∀ k, Z k → k < w.heap.size) (hc0 : x.f3.length ≤ c0) (hF : Kd.F k24 w Z A0 x.f3.length x.f3) :
  Calls Try.prog 12 #[.agg #[.int .i64 x.f0, .string x.f1, .string x.f2, .slice A0 x.f3.length c0], .int .i64 m] w fun e w' => ∃ (An : Option Addr) (cn : Nat) (Ap : Option Addr) (cp : Nat) (Az : Option Addr) (cz : Nat) (Ak : Option Addr) (ck : Nat), e = .returned (.agg #[.slice An (ofP x).N.length cn, .slice Ap (ofP x).P.length cp, .slice Az (ofP x).Z.length cz, .slice Ak (ofP x).K.length ck]) ∧ PlanR w' (fun k => Z k ∨ (w.heap.size ≤ k ∧ k < w'.heap.size)) (ofP x) An cn Ap cp Az cz Ak ck ∧ Below w.heap.size w w' := by
 have hnp := nszR_pos x
 obtain ⟨kn, hkn⟩ := (nodes_ev x m (by omega) hm2).has
 rw [List.take_of_length_le (by rw [pre_len]; omega), ← ofP_N] at hkn
 replace hkn := Aside0.mk hkn
 obtain ⟨hw1, _, hlay⟩ := addN_lay x (-1) ⟨[], [], [], []⟩ ⟨rfl, rfl, rfl⟩
 have hNl : (ofP x).N.length = nsz x := by rw [ofP_N, pre_len]
 have hPl : (ofP x).P.length = nsz x := hw1.p.trans hNl
 have hZl : (ofP x).Z.length = nsz x := hw1.z.trans hNl
 have hKl : (ofP x).K.length = nsz x := hw1.k.trans hNl
 have hlay : Lay (ofP x) x 0 (-1) := hlay
 clear hw1
 have S : Stt w (fun k => k < w.heap.size) [] [rdO k24 Z A0 c0 x.f3] w := Stt.start w (by intro a ha; rw [List.mem_singleton] at ha; subst ha; exact ⟨hc0, hF, hZ⟩)
 replace hZ := Aside0.mk hZ
 clear hF hc0
 have hu24 := Try.underlying24
 have hu39 := Try.underlying39
 obtain ⟨n, hn⟩ : ∃ n, n = nsz x := ⟨_, rfl⟩
 rw [← hn] at hNl hPl hZl hKl hnp hm
 obtain ⟨pN, hpN⟩ : ∃ q, q = (ofP x).N := ⟨_, rfl⟩
 rw [← hpN] at hNl hkn
 replace hNl := Aside0.mk hNl
 replace hpN := Aside0.mk hpN
 replace hn := Aside0.mk hn
 replace hPl := Aside0.mk hPl
 replace hZl := Aside0.mk hZl
 replace hKl := Aside0.mk hKl
 go_enter Try.func12, Try.ntmps12
 go_wp2_with (first | ((with_reducible refine gate_dst (N := 2) rfl ?_); refine box_event ?hg (N := 2) ?hd (cs := #[.int .i64 x.f0, .string x.f1, .string x.f2, .slice A0 x.f3.length c0]) (t := 24) ?hr ?_; (case hd => rfl); (case hg => rfl); (case hr => first | (go_simp; done) | (go_simp; rfl)); intro g2 hg_ w1 hbox hb; replace S := S.box hg_ hbox hb; clear hbox hb hg_; obtain ⟨⟨g2_0, g2_1, g2_2, g2_3⟩, g2_4, g2_5, g2_6, g2_7⟩ := box4 (S.at_blk 0 rfl)) | ((with_reducible refine gate_dst (N := 4) rfl ?_); refine box_event ?hg (N := 4) ?hd (cs := #[.slice none 0 0, .slice none 0 0, .slice none 0 0, .slice none 0 0]) (t := 39) ?hr ?_; (case hd => rfl); (case hg => rfl); (case hr => first | (go_simp; done) | (go_simp; rfl)); intro g4 hg_ w2 hbox hb; replace S := S.box hg_ hbox hb; clear hbox hb hg_; clear g2_0 g2_1 g2_2 g2_3 g2_4 g2_5 g2_6 g2_7; obtain ⟨⟨g4_0, g4_1, g4_2, g4_3⟩, g4_4, g4_5, g4_6, g4_7⟩ := box4 (S.at_blk 0 rfl); obtain ⟨⟨g2_0, g2_1, g2_2, g2_3⟩, g2_4, g2_5, g2_6, g2_7⟩ := box4 (S.at_blk 1 rfl)) | ((with_reducible refine gate_callee (f := 25) rfl ?_); (try (refine gate_guard (by rfl) ?_; dsimp only)); refine goesL_ (some 12) rfl rfl Try.func25 (by kernel_rfl) rfl #[.agg #[.int .i64 x.f0, .string x.f1, .string x.f2, .slice A0 x.f3.length c0], .int .i64 m] rfl (by (try simp only [List.map_toArray, List.map_cons, List.map_nil]); first | done | rfl) ?_; refine (scarfref05_Nodes.calls kn x.f0 x.f1 x.f2 Z A0 c0 x.f3 m _ _ (Kd.V_mk (S.rdo 0 rfl).1 (S.rdo 0 rfl).2.1) hkn.out).mono ?_; rintro e w3 ⟨vn, rfl, hn_, hb⟩; refine ⟨_, rfl, ?_⟩; have hw2 := Aside0.mk S.below.size; obtain ⟨An, cn, rfl, hln_, hFn_⟩ := Kd.N_V (base' := 0) (Kd.N_bound hn_); replace S := S.callZ hb (F' := [rdO k24 (fun k => (Z k ∨ w2.heap.size ≤ k) ∧ k < w3.heap.size) An cn pN]) (by intro a ha; rw [List.mem_singleton] at ha; subst ha; exact ⟨hln_, hFn_, fun k hk => hk.1.elim (fun h_ => .inl (hZ.out k h_)) (fun h_ => .inr ⟨h_, hk.2⟩)⟩); clear hb hn_ hln_ hFn_; clear g4_0 g4_1 g4_2 g4_3 g4_4 g4_5 g4_6 g4_7; clear g2_0 g2_1 g2_2 g2_3 g2_4 g2_5 g2_6 g2_7; obtain ⟨⟨g4_0, g4_1, g4_2, g4_3⟩, g4_4, g4_5, g4_6, g4_7⟩ := box4 (S.at_blk 0 rfl); obtain ⟨⟨g2_0, g2_1, g2_2, g2_3⟩, g2_4, g2_5, g2_6, g2_7⟩ := box4 (S.at_blk 1 rfl)) | ((with_reducible refine gate_dst (N := 5) rfl ?_); refine box_event ?hg (N := 5) ?hd (cs := #[.slice none 0 0, .slice none 0 0, .slice none 0 0, .slice none 0 0]) (t := 39) ?hr ?_; (case hd => rfl); (case hg => rfl); (case hr => first | (go_simp; done) | (go_simp; rfl)); intro g5 hg_ w4 hbox hb; replace S := S.box hg_ hbox hb; clear hbox hb hg_; clear g4_0 g4_1 g4_2 g4_3 g4_4 g4_5 g4_6 g4_7; clear g2_0 g2_1 g2_2 g2_3 g2_4 g2_5 g2_6 g2_7; obtain ⟨⟨g5_0, g5_1, g5_2, g5_3⟩, g5_4, g5_5, g5_6, g5_7⟩ := box4 (S.at_blk 0 rfl); obtain ⟨⟨g4_0, g4_1, g4_2, g4_3⟩, g4_4, g4_5, g4_6, g4_7⟩ := box4 (S.at_blk 1 rfl); obtain ⟨⟨g2_0, g2_1, g2_2, g2_3⟩, g2_4, g2_5, g2_6, g2_7⟩ := box4 (S.at_blk 2 rfl)) | ((with_reducible refine gate_store (t := 39) (p := 5) (v := .tmp 13) rfl ?_); refine store_event ?hg (t := 39) (p := 5) (v := .tmp 13) ?ho ?hN (w1 := ?wq_1) ?hr ?_; (case hg => rfl); (case ho => rfl); (case hN => rfl); (case hr => first | (go_simp; done) | (go_simp; rfl)); intro w5 hw_; replace S := S.set4 (.slice An pN.length cn) (.slice none 0 0) (.slice none 0 0) (.slice none 0 0); rw [← hw_] at S; clear hw_; clear g5_0 g5_1 g5_2 g5_3 g5_4 g5_5 g5_6 g5_7; clear g4_0 g4_1 g4_2 g4_3 g4_4 g4_5 g4_6 g4_7; clear g2_0 g2_1 g2_2 g2_3 g2_4 g2_5 g2_6 g2_7; obtain ⟨⟨g5_0, g5_1, g5_2, g5_3⟩, g5_4, g5_5, g5_6, g5_7⟩ := box4 (S.at_blk 0 rfl); obtain ⟨⟨g4_0, g4_1, g4_2, g4_3⟩, g4_4, g4_5, g4_6, g4_7⟩ := box4 (S.at_blk 1 rfl); obtain ⟨⟨g2_0, g2_1, g2_2, g2_3⟩, g2_4, g2_5, g2_6, g2_7⟩ := box4 (S.at_blk 2 rfl)))
 replace S : Stt w (fun k => k < w.heap.size ∨ (w2.heap.size ≤ k ∧ k < w3.heap.size)) (PL g5 0 (.slice An pN.length cn) (.slice none 0 0) (.slice none 0 0) (.slice none 0 0) [] [] [] [] [blk g4 39 #[.slice none 0 0, .slice none 0 0, .slice none 0 0, .slice none 0 0], blk g2 24 #[.int .i64 x.f0, .string x.f1, .string x.f2, .slice A0 x.f3.length c0]]) [rdO k24 (fun k => (Z k ∨ w2.heap.size ≤ k) ∧ k < w3.heap.size) An cn pN, rdO k24 Z A0 c0 x.f3] w5 := S.with (PL.start S.st)
 clear g5_0 g5_1 g5_2 g5_3 g5_4 g5_5 g5_6 g5_7; clear g4_0 g4_1 g4_2 g4_3 g4_4 g4_5 g4_6 g4_7; clear g2_0 g2_1 g2_2 g2_3 g2_4 g2_5 g2_6 g2_7
 go_loopg [6] n (fun kq v6 w'' => ∃ (ii : Int) (i : Nat) (p z k : Value) (P Zs : List Int) (us : List Value) (KK : List (List Int)), v6 = .int .i64 ii ∧ Aside0 (ii = (i : Int)) ∧ i ≤ n ∧ kq = n - i ∧ Aside0 (P = List.replicate i (-1) ∧ Zs = (pN.take i).map (fun y => (nsz y : Int)) ∧ us = List.replicate i (.slice none 0 0) ∧ KK = List.replicate i []) ∧ Stt w (fun k => k < w.heap.size ∨ (w2.heap.size ≤ k ∧ k < w3.heap.size)) (PL g5 i (.slice An pN.length cn) p z k P Zs us KK [blk g4 39 #[.slice none 0 0, .slice none 0 0, .slice none 0 0, .slice none 0 0], blk g2 24 #[.int .i64 x.f0, .string x.f1, .string x.f2, .slice A0 x.f3.length c0]]) [rdO k24 (fun k => (Z k ∨ w2.heap.size ≤ k) ∧ k < w3.heap.size) An cn pN, rdO k24 Z A0 c0 x.f3] w'')
 case atStart => exact ⟨0, 0, _, _, _, [], [], [], [], rfl, ⟨rfl⟩, Nat.zero_le _, rfl, ⟨rfl, rfl, rfl, rfl⟩, S⟩
 case round =>
  clear S
  obtain ⟨ii, i, p, z, k, P, Zs, us, KK, rfl, hii, hi, hgk, hst, S⟩ := hrel
  obtain ⟨wb, rfl⟩ : ∃ q, q = wr := ⟨_, rfl⟩
  have hq := (box4 (S.at_blk 0 rfl)).1
  have hq0 := hq.1
  by_cases hin : ii < (pN.length : Int)
  · have hib := decide_eq_true hin
    have p0 : 0 ≤ ii := by have := hii.out; omega
    obtain ⟨ad, cs, eA, hcl, hFK, hcc, hok⟩ := Kd.F_get (S.rdo 0 rfl).2.1 z24 ii p0 hin
    subst eA
    have hzb := (S.rdo 0 rfl).2.2 _ (hok (by decide))
    obtain ⟨y, hy⟩ : ∃ y, y = pN.getD ii.toNat z24 := ⟨_, rfl⟩
    rw [← hy] at hFK
    have hyi : pN[i]? = some y := by rw [hy, hii.out]; have : i < pN.length := by have := hii.out; omega
                                     simp [List.getD_eq_getElem?_getD, List.getElem?_eq_getElem this]
    obtain ⟨A3, c3, rfl, hl3, hF3⟩ := k24_openF hFK
    have hx0 : wb.cell? (ad.add (ii.toNat * 4)) = some (.int .i64 y.f0) := hcc 0 _ rfl
    have hx1 : wb.cell? ⟨(ad.add (ii.toNat * 4)).block, (ad.add (ii.toNat * 4)).off + 1, none⟩ = some (.string y.f1) := by rw [← add_field _ _ 1 (by omega)]; exact hcc 1 _ rfl
    have hx2 : wb.cell? ⟨(ad.add (ii.toNat * 4)).block, (ad.add (ii.toNat * 4)).off + 2, none⟩ = some (.string y.f2) := by rw [← add_field _ _ 2 (by omega)]; exact hcc 2 _ rfl
    have hx3 : wb.cell? ⟨(ad.add (ii.toNat * 4)).block, (ad.add (ii.toNat * 4)).off + 3, none⟩ = some (.slice A3 y.f3.length c3) := by rw [← add_field _ _ 3 (by omega)]; exact hcc 3 _ rfl
    have hab : (ad.add (ii.toNat * 4)).block = ad.block := add_block _ _
    have hys : nsz y ≤ n := by rw [hn.out]; exact sub_szN x (hpN.out ▸ hyi)
    obtain ⟨ks, hks⟩ := size_ev y m (by omega) hm2
    obtain ⟨sz, hsz⟩ : ∃ sz : Int, sz = nsz y := ⟨_, rfl⟩
    rw [← hsz] at hks
    replace hks := Aside0.mk hks
    replace hsz := Aside0.mk hsz
    replace hab := Aside0.mk hab
    replace hyi := Aside0.mk hyi
    replace hys := Aside0.mk hys
    have hin' := hin
    replace p0 := eq_true p0
    replace hin := eq_true hin
    have hib2 := Aside0.mk hin'
    clear hin' hcc hcl hFK hy hq hok
    go_wp2
    obtain ⟨Az_, cz_, eZ⟩ := own_slice (S.rowAt 2 rfl)
    obtain ⟨Ap_, cp_, eP⟩ := own_slice (S.rowAt 1 rfl)
    obtain ⟨Ak_, ck_, eK⟩ := own_slice (S.rowAt 3 rfl)
    subst eZ eP eK
    have Sd := S.keep (below_drew1 (Below.refl wb.heap.size wb))
    have hx0d := ((below_drew1 (Below.refl wb.heap.size wb)).cell (World.block_lt_of_cell? _ _ hx0)).trans hx0
    have hx1d := ((below_drew1 (Below.refl wb.heap.size wb)).cell (World.block_lt_of_cell? _ _ hx1)).trans hx1
    have hx2d := ((below_drew1 (Below.refl wb.heap.size wb)).cell (World.block_lt_of_cell? _ _ hx2)).trans hx2
    have hx3d := ((below_drew1 (Below.refl wb.heap.size wb)).cell (World.block_lt_of_cell? _ _ hx3)).trans hx3
    have hF3d := Kd.F_drew hF3
    have hokZ : ∀ k, (fun k => (Z k ∨ w2.heap.size ≤ k) ∧ k < w3.heap.size) k → (fun k => k < w.heap.size ∨ (w2.heap.size ≤ k ∧ k < w3.heap.size)) k := (S.rdo 0 rfl).2.2
    have hi6 : i ≤ 1000000 := by omega
    clear hx0 hx1 hx2 hx3 hF3 S
    have E : (St w (fun k => k < w.heap.size ∨ (w2.heap.size ≤ k ∧ k < w3.heap.size)) (r5L g5 i (.slice (some ad) pN.length cn) (.slice Ap_ i cp_) (.slice Az_ i cz_) (.slice Ak_ i ck_) P Zs us KK sz [blk g4 39 #[.slice none 0 0, .slice none 0 0, .slice none 0 0, .slice none 0 0], blk g2 24 #[.int .i64 x.f0, .string x.f1, .string x.f2, .slice A0 x.f3.length c0]] (fun _ => false) (.bool false) (.bool false)) wb.drew ∧ Same w (fun k => k < w.heap.size ∨ (w2.heap.size ≤ k ∧ k < w3.heap.size)) wb.drew wb.drew) :=
      ⟨Sd.st.emp_new.perm (List.perm_middle (l₁ := [blk g5 39 #[.slice (some ad) pN.length cn, .slice Ap_ i cp_, .slice Az_ i cz_, .slice Ak_ i ck_], row (.slice Ap_ i cp_) 3 1 i (ints P), row (.slice Az_ i cz_) 3 1 i (ints Zs), row (.slice Ak_ i ck_) 36 1 i us, grp (inn us KK)])).symm, Same.refl _ _ _⟩
    refine start_ (n := 13) (S := fun w' => True) (ds := []) #[false, false, false, false, false, false, false, false, false, false, false, false, false] (by kernel_rfl) rfl rfl trivial (fun hHeld => ?_)
    refine with_tabW rof.tab5 rof.bits5 (fun HT_ HW_ => ?_)
    generalize wb.drew = w5d at E Sd hx0d hx1d hx2d hx3d hF3d hHeld ⊢
    refine pure_ (i := 0) (N := some 21) (v := ?_) (a' := ?_) #[true, false, false, false, false, false, false, false, false, false, false, false, false] rfl rfl (any_of HT_.out (by kernel_rfl)) (fun _ _ _ h => h) (Or.inl ⟨by rfl, ?_⟩) ?_ ?_
    rotate_left
    · intro w'
      go_simp
      with_reducible rfl
    rotate_left
    · simp only [Act.put, List.setIfInBounds_toArray, List.set_cons_zero, List.set_cons_succ, i64_w, i32_w]
      rfl
    refine pure_ (i := 2) (N := some 23) (v := ?_) (a' := ?_) #[true, false, true, false, false, false, false, false, false, false, false, false, false] rfl rfl (any_of HT_.out (by kernel_rfl)) (fun _ _ _ h => h) (Or.inl ⟨by rfl, ?_⟩) ?_ ?_
    rotate_left
    · intro w'
      go_simp
      with_reducible rfl
    rotate_left
    · simp only [Act.put, List.setIfInBounds_toArray, List.set_cons_zero, List.set_cons_succ, i64_w, i32_w]
      rfl
    refine pure_ (i := 4) (N := some 25) (v := ?_) (a' := ?_) #[true, false, true, false, true, false, false, false, false, false, false, false, false] rfl rfl (any_of HT_.out (by kernel_rfl)) (fun _ _ _ h => h) (Or.inl ⟨by rfl, ?_⟩) ?_ ?_
    rotate_left
    · intro w'
      go_simp
      with_reducible rfl
    rotate_left
    · simp only [Act.put, List.setIfInBounds_toArray, List.set_cons_zero, List.set_cons_succ, i64_w, i32_w]
      rfl
    refine pure_ (i := 7) (N := some 28) (v := ?_) (a' := ?_) #[true, false, true, false, true, false, false, true, false, false, false, false, false] rfl rfl (any_of HT_.out (by kernel_rfl)) (fun _ _ _ h => h) (Or.inl ⟨by rfl, ?_⟩) ?_ ?_
    rotate_left
    · intro w'
      go_simp
      with_reducible rfl
    rotate_left
    · simp only [Act.put, List.setIfInBounds_toArray, List.set_cons_zero, List.set_cons_succ, i64_w, i32_w]
      rfl
    refine inv_at [1, 3, 5, 6, 8, 9, 10, 11, 12] (fun a0_ b a w' => ∃ (tt : Value) (zz : Value), a = putSel a0_ b [(1, 22, .slice Az_ i cz_), (3, 24, .slice (some ad) pN.length cn), (5, 26, .pointer (some (ad.add (ii.toNat * 4)))), (6, 27, (.agg #[.int .i64 y.f0, .string y.f1, .string y.f2, .slice A3 y.f3.length c3] : Value)), (8, 29, .int .i64 sz), (9, 30, tt), (10, 31, zz), (11, 32, .pointer (some ⟨g5, 2, none⟩))] ∧ ((St w (fun k => k < w.heap.size ∨ (w2.heap.size ≤ k ∧ k < w3.heap.size)) (r5L g5 i (.slice (some ad) pN.length cn) (.slice Ap_ i cp_) (.slice Az_ i cz_) (.slice Ak_ i ck_) P Zs us KK sz [blk g4 39 #[.slice none 0 0, .slice none 0 0, .slice none 0 0, .slice none 0 0], blk g2 24 #[.int .i64 x.f0, .string x.f1, .string x.f2, .slice A0 x.f3.length c0]] b tt zz) w' ∧ Same w (fun k => k < w.heap.size ∨ (w2.heap.size ≤ k ∧ k < w3.heap.size)) w5d w'))) HT_.out HW_.out (by kernel_rfl) (by kernel_rfl) ?_ ?_ ?_
    · exact ⟨.bool false, .bool false, by simp only [putSel, Bool.false_eq_true, if_false], E⟩
    · skip
      clear E
      refine steps_cons ?_ ?_
      · rintro b a w' ⟨tt, zz, ha, Q_E⟩ hb_ hon hoff
        refine ⟨_, rfl, fun K hK => ?_⟩
        have e21 : a.tmps[21]? = some (.pointer (some ⟨g5, 2, none⟩)) := by rw [ha]; exact (putSel_off rfl).trans rfl
        replace ha := Aside0.mk ha
        have E := Aside0.mk Q_E
        have hc_ : w'.cell? ⟨g5, 2, none⟩ = some (.slice Az_ i cz_) := (blk_cell (E.out.1.at_blk (i := 0) rfl) 2).trans (by rw [(hoff 12 (by kernel_rfl))]; rfl)
        refine value_ (w1 := w') (v := .slice Az_ i cz_) (by rfl) rfl ?_ ?_
        · go_simp
          (try simp only [i64_w])
          try rfl
        refine hK.out _ _ ⟨tt, zz, (by rw [ha.out]; exact putSel_upk 0 hb_ rfl rfl rfl), Q_E⟩
      refine steps_cons ?_ ?_
      · rintro b a w' ⟨tt, zz, ha, Q_E⟩ hb_ hon hoff
        refine ⟨_, rfl, fun K hK => ?_⟩
        have e23 : a.tmps[23]? = some (.pointer (some ⟨g5, 0, none⟩)) := by rw [ha]; exact (putSel_off rfl).trans rfl
        replace ha := Aside0.mk ha
        have E := Aside0.mk Q_E
        have hc_ : w'.cell? ⟨g5, 0, none⟩ = some (.slice (some ad) pN.length cn) := (blk_cell (E.out.1.at_blk (i := 0) rfl) 0).trans rfl
        refine value_ (w1 := w') (v := .slice (some ad) pN.length cn) (by rfl) rfl ?_ ?_
        · go_simp
          (try simp only [i64_w])
          try rfl
        refine hK.out _ _ ⟨tt, zz, (by rw [ha.out]; exact putSel_upk 1 hb_ rfl rfl rfl), Q_E⟩
      refine steps_cons ?_ ?_
      · rintro b a w' ⟨tt, zz, ha, Q_E⟩ hb_ hon hoff
        refine ⟨_, rfl, fun K hK => ?_⟩
        have e24 : a.tmps[24]? = some (.slice (some ad) pN.length cn) := by rw [ha]; exact putSel_on (e := (3, 24, .slice (some ad) pN.length cn)) 1 rfl rfl (hon 3 (by kernel_rfl)) rfl
        have e25 : a.tmps[25]? = some (.int .i64 ii) := by rw [ha]; exact (putSel_off rfl).trans rfl
        replace ha := Aside0.mk ha
        have E := Aside0.mk Q_E
        refine value_ (w1 := w') (v := .pointer (some (ad.add (ii.toNat * 4)))) (by rfl) rfl ?_ ?_
        · go_simp
          (try simp only [i64_w])
          try rfl
        refine hK.out _ _ ⟨tt, zz, (by rw [ha.out]; exact putSel_upk 2 hb_ rfl rfl rfl), Q_E⟩
      refine steps_cons ?_ ?_
      · rintro b a w' ⟨tt, zz, ha, Q_E⟩ hb_ hon hoff
        refine ⟨_, rfl, fun K hK => ?_⟩
        have e26 : a.tmps[26]? = some (.pointer (some (ad.add (ii.toNat * 4)))) := by rw [ha]; exact putSel_on (e := (5, 26, .pointer (some (ad.add (ii.toNat * 4))))) 2 rfl rfl (hon 5 (by kernel_rfl)) rfl
        replace ha := Aside0.mk ha
        have E := Aside0.mk Q_E
        have hc0_ := E.out.2.cell (by first | exact hab.out ▸ hzb | exact hzb) hx0d
        have hc1_ := E.out.2.cell (by first | exact hab.out ▸ hzb | exact hzb) hx1d
        have hc2_ := E.out.2.cell (by first | exact hab.out ▸ hzb | exact hzb) hx2d
        have hc3_ := E.out.2.cell (by first | exact hab.out ▸ hzb | exact hzb) hx3d
        refine value_ (w1 := w') (v := (.agg #[.int .i64 y.f0, .string y.f1, .string y.f2, .slice A3 y.f3.length c3] : Value)) (by rfl) rfl ?_ ?_
        · go_simp
          (try simp only [i64_w])
          try rfl
        refine hK.out _ _ ⟨tt, zz, (by rw [ha.out]; exact putSel_upk 3 hb_ rfl rfl rfl), Q_E⟩
      refine steps_cons ?_ ?_
      · rintro b a w' ⟨tt, zz, ha, Q_E⟩ hb_ hon hoff
        refine ⟨_, rfl, fun K hK => ?_⟩
        have e27 : a.tmps[27]? = some ((.agg #[.int .i64 y.f0, .string y.f1, .string y.f2, .slice A3 y.f3.length c3] : Value)) := by rw [ha]; exact putSel_on (e := (6, 27, (.agg #[.int .i64 y.f0, .string y.f1, .string y.f2, .slice A3 y.f3.length c3] : Value))) 3 rfl rfl (hon 6 (by kernel_rfl)) rfl
        have e28 : a.tmps[28]? = some (.int .i64 m) := by rw [ha]; exact (putSel_off rfl).trans rfl
        replace ha := Aside0.mk ha
        have E := Aside0.mk Q_E
        refine goes_ Try.func17 (by kernel_rfl) rfl #[(.agg #[.int .i64 y.f0, .string y.f1, .string y.f2, .slice A3 y.f3.length c3] : Value), .int .i64 m] (by rfl) rfl rfl (by first | (simp only [List.map_toArray, List.map_cons, List.map_nil, Act.eval, Array.getD_eq_getD_getElem?, Option.getD_some, e27, e28]; done) | (simp only [List.map_toArray, List.map_cons, List.map_nil, Act.eval, Array.getD_eq_getD_getElem?, Option.getD_some, e27, e28]; rfl)) ?_
        refine (scarfref05_Size.calls ks y.f0 y.f1 y.f2 A3 c3 y.f3 m sz _ (Kd.F_now (E.out.2.f hF3d (fun k h_ => .inl (hokZ k h_)))) hl3 hks.out).mono ?_
        rintro e w24 ⟨rfl, hb⟩
        refine ⟨_, rfl, ?_⟩
        have K_ := E.out.1.keep hb
        have S3_ := K_.2
        refine hK.out _ _ ⟨tt, zz, (by rw [ha.out]; exact putSel_upk 4 hb_ rfl rfl rfl), ⟨K_.1, E.out.2.trans S3_⟩⟩
      refine steps_cons ?_ ?_
      · rintro b a w' ⟨tt, zz, ha, Q_E⟩ hb_ hon hoff
        refine ⟨_, rfl, fun K hK => ?_⟩
        have e29 : a.tmps[29]? = some (.int .i64 sz) := by rw [ha]; exact putSel_on (e := (8, 29, .int .i64 sz)) 4 rfl rfl (hon 8 (by kernel_rfl)) rfl
        replace ha := Aside0.mk ha
        have E := Aside0.mk Q_E
        refine value_ (w1 := w'.alloc (.cells #[.int .i64 sz] 3)) (v := (.slice (some ⟨w'.heap.size, 0, none⟩) 1 1)) (by rfl) rfl ?_ ?_
        · go_simp
          try rfl
        have S2_ := E.out.1.lit (i := 5) (by simp only [r5L, hb_]; rfl) 3 1 1 (by decide) (by decide) [.int .i64 sz] rfl
        have S3_ : (St w (fun k => k < w.heap.size ∨ (w2.heap.size ≤ k ∧ k < w3.heap.size)) (r5L g5 i (.slice (some ad) pN.length cn) (.slice Ap_ i cp_) (.slice Az_ i cz_) (.slice Ak_ i ck_) P Zs us KK sz [blk g4 39 #[.slice none 0 0, .slice none 0 0, .slice none 0 0, .slice none 0 0], blk g2 24 #[.int .i64 x.f0, .string x.f1, .string x.f2, .slice A0 x.f3.length c0]] (up b 9) (.slice (some ⟨w'.heap.size, 0, none⟩) 1 1) zz) (w'.alloc (.cells #[.int .i64 sz] 3)) ∧ Same w (fun k => k < w.heap.size ∨ (w2.heap.size ≤ k ∧ k < w3.heap.size)) w5d (w'.alloc (.cells #[.int .i64 sz] 3))) := ⟨by have h_ := S2_.1; simp only [r5L, List.cons_append, List.nil_append, List.set_cons_zero, List.set_cons_succ, List.setIfInBounds_toArray, up, Nat.reduceEqDiff, reduceIte, cond_true, cond_false, hb_, (hoff 10 (by kernel_rfl)), (hoff 12 (by kernel_rfl))] at h_ ⊢; exact h_, E.out.2.trans S2_.2⟩
        refine hK.out _ _ ⟨(.slice (some ⟨w'.heap.size, 0, none⟩) 1 1), zz, (by rw [ha.out]; exact putSel_upk 5 hb_ rfl rfl rfl), S3_⟩
      refine steps_cons ?_ ?_
      · rintro b a w' ⟨tt, zz, ha, Q_E⟩ hb_ hon hoff
        refine ⟨_, rfl, fun K hK => ?_⟩
        have e22 : a.tmps[22]? = some (.slice Az_ i cz_) := by rw [ha]; exact putSel_on (e := (1, 22, .slice Az_ i cz_)) 0 rfl rfl (hon 1 (by kernel_rfl)) rfl
        have e30 : a.tmps[30]? = some (tt) := by rw [ha]; exact putSel_on (e := (9, 30, tt)) 5 rfl rfl (hon 9 (by kernel_rfl)) rfl
        replace ha := Aside0.mk ha
        have E := Aside0.mk Q_E
        refine app_step (by rfl) (.tmp 22) (.tmp 30) 36 3 (.int .i64 0) 1 8 rfl Try.underlying36 info3 rfl (by decide) (by decide) (.slice Az_ i cz_) tt i (ints Zs) [.int .i64 sz] (eval_of e22) (eval_of e30) (by simp [Value.oneCell']) (E.out.1.at_row (i := 2) (by simp only [r5L, hb_]; rfl)) (E.out.1.at_row (i := 5) (by simp only [r5L, (hon 9 (by kernel_rfl))]; rfl)) (by omega) ?_
        intro v1 w1 ho hg hat
        have S2_ := E.out.1.row_upd (i := 2) (by simp only [r5L, hb_]; rfl) ho hg hat
        have S3_ : (St w (fun k => k < w.heap.size ∨ (w2.heap.size ≤ k ∧ k < w3.heap.size)) (r5L g5 i (.slice (some ad) pN.length cn) (.slice Ap_ i cp_) (.slice Az_ i cz_) (.slice Ak_ i ck_) P Zs us KK sz [blk g4 39 #[.slice none 0 0, .slice none 0 0, .slice none 0 0, .slice none 0 0], blk g2 24 #[.int .i64 x.f0, .string x.f1, .string x.f2, .slice A0 x.f3.length c0]] (up b 10) tt v1) w1 ∧ Same w (fun k => k < w.heap.size ∨ (w2.heap.size ≤ k ∧ k < w3.heap.size)) w5d w1) := ⟨by have h_ := S2_.1; simp only [r5L, List.cons_append, List.nil_append, List.set_cons_zero, List.set_cons_succ, List.setIfInBounds_toArray, up, Nat.reduceEqDiff, reduceIte, cond_true, cond_false, hb_, (hon 9 (by kernel_rfl)), (hoff 12 (by kernel_rfl))] at h_ ⊢; exact h_, E.out.2.trans S2_.2⟩
        refine hK.out _ _ ⟨tt, v1, (by rw [ha.out]; exact putSel_upk 6 hb_ rfl rfl rfl), S3_⟩
      refine steps_cons ?_ ?_
      · rintro b a w' ⟨tt, zz, ha, Q_E⟩ hb_ hon hoff
        refine ⟨_, rfl, fun K hK => ?_⟩
        have e5 : a.tmps[5]? = some (.pointer (some ⟨g5, 0, none⟩)) := by rw [ha]; exact (putSel_off rfl).trans rfl
        replace ha := Aside0.mk ha
        have E := Aside0.mk Q_E
        refine value_ (w1 := w') (v := .pointer (some ⟨g5, 2, none⟩)) (by rfl) rfl ?_ ?_
        · go_simp
          (try simp only [i64_w])
          try rfl
        refine hK.out _ _ ⟨tt, zz, (by rw [ha.out]; exact putSel_upk 7 hb_ rfl rfl rfl), Q_E⟩
      refine steps_cons ?_ ?_
      · rintro b a w' ⟨tt, zz, ha, Q_E⟩ hb_ hon hoff
        refine ⟨_, rfl, fun K hK => ?_⟩
        have e32 : a.tmps[32]? = some (.pointer (some ⟨g5, 2, none⟩)) := by rw [ha]; exact putSel_on (e := (11, 32, .pointer (some ⟨g5, 2, none⟩))) 7 rfl rfl (hon 11 (by kernel_rfl)) rfl
        have e31 : a.tmps[31]? = some (zz) := by rw [ha]; exact putSel_on (e := (10, 31, zz)) 6 rfl rfl (hon 10 (by kernel_rfl)) rfl
        replace ha := Aside0.mk ha
        have E := Aside0.mk Q_E
        have hb0_ := E.out.1.at_blk (i := 0) rfl
        have hc_ : w'.cell? ⟨g5, 2, none⟩ = some (.slice Az_ i cz_) := (blk_cell hb0_ 2).trans (by rw [hb_]; rfl)
        have hf_ := blk_frozen hb0_ 2
        obtain ⟨A_, c_, en_⟩ := own_slice (E.out.1.at_row (i := 2) (by simp only [r5L, (hon 10 (by kernel_rfl))]; rfl))
        refine skip_ (w1 := w'.setCell ⟨g5, 2, none⟩ zz) (by rfl) rfl ?_ ?_
        · rw [en_] at e31 ⊢
          go_simp
          try rfl
        have S2_ := E.out.1.set (i := 0) rfl 2 zz
        have S3_ : (St w (fun k => k < w.heap.size ∨ (w2.heap.size ≤ k ∧ k < w3.heap.size)) (r5L g5 i (.slice (some ad) pN.length cn) (.slice Ap_ i cp_) (.slice Az_ i cz_) (.slice Ak_ i ck_) P Zs us KK sz [blk g4 39 #[.slice none 0 0, .slice none 0 0, .slice none 0 0, .slice none 0 0], blk g2 24 #[.int .i64 x.f0, .string x.f1, .string x.f2, .slice A0 x.f3.length c0]] (up b 12) tt zz) (w'.setCell ⟨g5, 2, none⟩ zz) ∧ Same w (fun k => k < w.heap.size ∨ (w2.heap.size ≤ k ∧ k < w3.heap.size)) w5d (w'.setCell ⟨g5, 2, none⟩ zz)) := ⟨by have h_ := S2_.1; simp only [r5L, List.cons_append, List.nil_append, List.set_cons_zero, List.set_cons_succ, List.setIfInBounds_toArray, up, Nat.reduceEqDiff, reduceIte, cond_true, cond_false, hb_, (hon 10 (by kernel_rfl)), (hon 9 (by kernel_rfl))] at h_ ⊢; exact h_, E.out.2.trans S2_.2⟩
        refine hK.out _ _ ⟨tt, zz, (by rw [ha.out]; exact putSel_none (v := undef) rfl), S3_⟩
      exact steps_nil
    · rintro b a w' hall ⟨tt, zz, ha, Q_E⟩
      clear E
      have hb1_ := hall 1 (by kernel_rfl)
      have hb3_ := hall 3 (by kernel_rfl)
      have hb5_ := hall 5 (by kernel_rfl)
      have hb6_ := hall 6 (by kernel_rfl)
      have hb8_ := hall 8 (by kernel_rfl)
      have hb9_ := hall 9 (by kernel_rfl)
      have hb10_ := hall 10 (by kernel_rfl)
      have hb11_ := hall 11 (by kernel_rfl)
      have hb12_ := hall 12 (by kernel_rfl)
      subst ha
      simp only [putSel, hb1_, hb3_, hb5_, hb6_, hb8_, hb9_, hb10_, hb11_, hb12_, if_true, Act.put, List.setIfInBounds_toArray, List.set_cons_zero, List.set_cons_succ]
      have E := Aside0.mk Q_E
      clear Q_E
      have S2_ := E.out; simp only [r5L, cond_true, hb9_, hb10_, hb12_] at S2_
      clear hall hb1_ hb3_ hb5_ hb6_ hb8_ hb9_ hb10_ hb11_ hb12_
      replace S2_ := Sd.of S2_
      have S := (S2_.perm (List.perm_middle (l₁ := [blk g5 39 #[.slice (some ad) pN.length cn, .slice Ap_ i cp_, zz, .slice Ak_ i ck_], row (.slice Ap_ i cp_) 3 1 i (ints P), row zz 3 1 (i + 1) (ints Zs ++ [.int .i64 sz]), row (.slice Ak_ i ck_) 36 1 i us, grp (inn us KK)]))).drop
      clear S2_ E Sd hx0d hx1d hx2d hx3d hF3d
      obtain ⟨Azz, czz, ezz⟩ := own_slice (S.rowAt 2 rfl)
      subst ezz
      obtain ⟨⟨g5_0, g5_1, g5_2, g5_3⟩, g5_4, g5_5, g5_6, g5_7⟩ := box4 (S.at_blk 0 rfl)
      go_wp2_with (first | ((with_reducible refine gate_builtin (b := .append) (xs := #[.tmp 34, .tmp 35]) rfl ?_); at_builtin; have e_ := S.lit0 3 1 [.int .i64 (-1)] rfl; refine app_list rfl (.tmp 34) (.tmp 35) 36 3 (.int .i64 0) 1 8 rfl Try.underlying36 info3 rfl (by decide) (by decide) (.slice Ap_ i cp_) (.slice (some ⟨w'.heap.size, 0, none⟩) 1 1) i (ints P) [.int .i64 (-1)] rfl rfl (by simp [Value.oneCell']) (e_.rowAt 2 rfl) (e_.rowAt 0 rfl) (by omega) ?_; intro v1_ w6 ho hg hat; replace S := (e_.updRow 2 rfl ho hg hat).drop; clear ho hg hat e_; obtain ⟨Ap2, cp2, ep_⟩ := own_slice (S.rowAt 1 rfl); subst ep_; clear g5_0 g5_1 g5_2 g5_3 g5_4 g5_5 g5_6 g5_7; obtain ⟨⟨g5_0, g5_1, g5_2, g5_3⟩, g5_4, g5_5, g5_6, g5_7⟩ := box4 (S.at_blk 0 rfl)) | ((with_reducible refine gate_store (t := 36) (p := 37) (v := .tmp 36) rfl ?_); refine store_event ?hg (t := 36) (p := 37) (v := .tmp 36) ?ho ?hN (w1 := ?wq_2) ?hr ?_; (case hg => rfl); (case ho => rfl); (case hN => rfl); (case hr => first | (go_simp; done) | (go_simp; rfl)); intro w7 hw_; replace S := S.set41 (.slice Ap2 (i + 1) cp2); rw [← hw_] at S; clear hw_; clear g5_0 g5_1 g5_2 g5_3 g5_4 g5_5 g5_6 g5_7; obtain ⟨⟨g5_0, g5_1, g5_2, g5_3⟩, g5_4, g5_5, g5_6, g5_7⟩ := box4 (S.at_blk 0 rfl)) | ((with_reducible refine gate_builtin (b := .append) (xs := #[.tmp 39, .tmp 40]) rfl ?_); at_builtin; have e_ := S.lit0 36 1 [.slice none 0 0] rfl; refine app_list rfl (.tmp 39) (.tmp 40) 37 36 (.slice none 0 0) 1 24 rfl Try.underlying37 info36 rfl (by decide) (by decide) (.slice Ak_ i ck_) (.slice (some ⟨w7.heap.size, 0, none⟩) 1 1) i us [.slice none 0 0] rfl rfl (by simp [Value.oneCell']) (e_.rowAt 4 rfl) (e_.rowAt 0 rfl) (by omega) ?_; intro v1_ w8 ho hg hat; replace S := (e_.updRow 4 rfl ho hg hat).drop; clear ho hg hat e_; obtain ⟨Ak2, ck2, ep_⟩ := own_slice (S.rowAt 3 rfl); subst ep_; clear g5_0 g5_1 g5_2 g5_3 g5_4 g5_5 g5_6 g5_7; obtain ⟨⟨g5_0, g5_1, g5_2, g5_3⟩, g5_4, g5_5, g5_6, g5_7⟩ := box4 (S.at_blk 0 rfl)) | ((with_reducible refine gate_store (t := 37) (p := 42) (v := .tmp 41) rfl ?_); refine store_event ?hg (t := 37) (p := 42) (v := .tmp 41) ?ho ?hN (w1 := ?wq_3) ?hr ?_; (case hg => rfl); (case ho => rfl); (case hN => rfl); (case hr => first | (go_simp; done) | (go_simp; rfl)); intro w9 hw_; replace S := S.set43 (.slice Ak2 (i + 1) ck2); rw [← hw_] at S; clear hw_; clear g5_0 g5_1 g5_2 g5_3 g5_4 g5_5 g5_6 g5_7; obtain ⟨⟨g5_0, g5_1, g5_2, g5_3⟩, g5_4, g5_5, g5_6, g5_7⟩ := box4 (S.at_blk 0 rfl)))
      obtain ⟨hPe, hZe, hUe, hKe⟩ := hst.out
      have hul : us.length = KK.length := by rw [hUe, hKe]; simp
      replace S := S.with (S.st.sub_nil (i := 4) rfl 3 1)
      have hPL : PL g5 (i + 1) (.slice (some ad) pN.length cn) (.slice Ap2 (i + 1) cp2) (.slice Azz (i + 1) czz) (.slice Ak2 (i + 1) ck2) (P ++ [-1]) (Zs ++ [sz]) (us ++ [.slice none 0 0]) (KK ++ [[]]) [blk g4 39 #[.slice none 0 0, .slice none 0 0, .slice none 0 0, .slice none 0 0], blk g2 24 #[.int .i64 x.f0, .string x.f1, .string x.f2, .slice A0 x.f3.length c0]] = [blk g5 39 #[.slice (some ad) pN.length cn, .slice Ap2 (i + 1) cp2, .slice Azz (i + 1) czz, .slice Ak2 (i + 1) ck2], row (.slice Ap2 (i + 1) cp2) 3 1 (i + 1) (ints P ++ [.int .i64 (-1)]), row (.slice Azz (i + 1) czz) 3 1 (i + 1) (ints Zs ++ [.int .i64 sz]), row (.slice Ak2 (i + 1) ck2) 36 1 (i + 1) (us ++ [.slice none 0 0]), grp (inn us KK ++ [row (.slice none 0 0) 3 1 0 []])] ++ [blk g4 39 #[.slice none 0 0, .slice none 0 0, .slice none 0 0, .slice none 0 0], blk g2 24 #[.int .i64 x.f0, .string x.f1, .string x.f2, .slice A0 x.f3.length c0]] := by
        simp only [PL, ints, List.map_append, List.map_cons, List.map_nil]
        rw [inn_snoc hul]
        rfl
      have hil : i < pN.length := by have := hib2.out; have := hii.out; omega
      have hyi' := hyi.out
      have hiw : wrap64 (ii + 1) = ((i + 1 : Nat) : Int) := by have := hii.out; unfold wrap64; omega
      have hst2 : Aside0 (P ++ [-1] = List.replicate (i + 1) (-1) ∧ Zs ++ [sz] = (pN.take (i + 1)).map (fun y => (nsz y : Int)) ∧ us ++ [.slice none 0 0] = List.replicate (i + 1) (.slice none 0 0) ∧ KK ++ [[]] = List.replicate (i + 1) []) := by
        refine ⟨?_, ?_, ?_, ?_⟩
        · rw [hPe, List.replicate_succ']
        · rw [hZe, List.take_succ_eq_append_getElem hil, List.map_append, hsz.out]
          congr 1
          rw [List.getElem?_eq_getElem hil] at hyi'
          injection hyi' with hyi'
          rw [hyi']; rfl
        · rw [hUe, List.replicate_succ']
        · rw [hKe, List.replicate_succ']
      have hn1 := hNl.out
      replace hst2 := Aside0.mk hst2
      replace hiw := Aside0.mk hiw
      replace hgk := Aside0.mk hgk
      replace hn1 := Aside0.mk hn1
      clear hyi' hPe hZe hUe hKe hul g5_0 g5_1 g5_2 g5_3 g5_4 g5_5 g5_6 g5_7
      go_roundg (n - (i + 1))
      case measure => have := hgk.out; have := hn1.out; omega
      case rel => exact ⟨wrap64 (ii + 1), i + 1, _, _, _, P ++ [-1], Zs ++ [sz], us ++ [.slice none 0 0], KK ++ [[]], by first | rfl | (simp; done), hiw.out ▸ ⟨rfl⟩, by have := hn1.out; omega, rfl, hst2.out, by rw [hPL]; exact S⟩
  · have hib := decide_eq_false hin
    have hie : i = n := by have := hNl.out; have := hii.out; omega
    obtain ⟨hPe, hZe, hUe, hKe⟩ := hst.out
    rw [hie] at S hPe hZe hUe hKe
    have hPI : PInv (ofP x).P P 0 1 := by rw [hPe, hn.out]; exact PInv.start hlay (by rw [hPl.out, hn.out])
    have hZx : Zs = (ofP x).Z := by rw [hZe, List.take_of_length_le (by rw [hNl.out]; exact Nat.le_refl _), ofP_Z, hpN.out]
    have hst2 : Aside0 (PInv (ofP x).P P 0 1 ∧ us.length = n ∧ KK = (ofP x).K.take 0 ++ List.replicate (n - 0) []) := ⟨hPI, by rw [hUe]; simp, by rw [hKe]; simp⟩
    rw [hZx] at S
    replace hst2 := Aside0.mk hst2
    clear hPI hZx hPe hZe hUe hKe hst hie hgk hi hii
    obtain ⟨gP, cP, eP, _⟩ := own_set (S.rowAt 1 rfl) hnp undef
    obtain ⟨gZ, cZ, eZ, _⟩ := own_set (S.rowAt 2 rfl) hnp undef
    obtain ⟨gK, cK, eK, _⟩ := own_set (S.rowAt 3 rfl) hnp undef
    subst eP eZ eK
    go_wp2
    go_loopg [7] n (fun kq v7 w'' => ∃ (ii : Int) (i : Nat) (P : List Int) (us : List Value) (KK : List (List Int)), v7 = .int .i64 ii ∧ Aside0 (ii = (i : Int)) ∧ i ≤ n ∧ kq = n - i ∧ Aside0 (PInv (ofP x).P P i (i + 1) ∧ us.length = n ∧ KK = (ofP x).K.take i ++ List.replicate (n - i) []) ∧ Stt w (fun k => k < w.heap.size ∨ (w2.heap.size ≤ k ∧ k < w3.heap.size)) (PL g5 n (.slice An pN.length cn) (.slice (some ⟨gP, 0, none⟩) n cP) (.slice (some ⟨gZ, 0, none⟩) n cZ) (.slice (some ⟨gK, 0, none⟩) n cK) P (ofP x).Z us KK [blk g4 39 #[.slice none 0 0, .slice none 0 0, .slice none 0 0, .slice none 0 0], blk g2 24 #[.int .i64 x.f0, .string x.f1, .string x.f2, .slice A0 x.f3.length c0]]) [rdO k24 (fun k => (Z k ∨ w2.heap.size ≤ k) ∧ k < w3.heap.size) An cn pN, rdO k24 Z A0 c0 x.f3] w'')
    case atStart => exact ⟨0, 0, P, us, KK, rfl, ⟨rfl⟩, Nat.zero_le _, rfl, hst2.out, S⟩
    case round =>
      clear S hq hq0 hst2
      obtain ⟨ii, i, P, us, KK, rfl, hii, hi, hgk, hst, S⟩ := hrel
      obtain ⟨wc, rfl⟩ : ∃ q, q = wr := ⟨_, rfl⟩
      have hq := (box4 (S.at_blk 0 rfl)).1
      have hq0 := hq.1
      have hq1 := hq.2.1
      have hq2 := hq.2.2.1
      have hq3 := hq.2.2.2
      by_cases hin : ii < (pN.length : Int)
      · have hib := decide_eq_true hin
        have p0 : 0 ≤ ii := by have := hii.out; omega
        have hil : i < pN.length := by have := hii.out; omega
        have hiN : i < n := by have := hNl.out; omega
        obtain ⟨ad, cs, eA, hcl, hFK, hcc, hok⟩ := Kd.F_get (S.rdo 0 rfl).2.1 z24 ii p0 hin
        subst eA
        obtain ⟨y, hy⟩ : ∃ y, y = pN.getD ii.toNat z24 := ⟨_, rfl⟩
        have hyi : pN[i]? = some y := by rw [hy, hii.out]; simp [List.getD_eq_getElem?_getD, List.getElem?_eq_getElem hil]
        obtain ⟨qy, hly⟩ := ofP_at x (hpN.out ▸ hyi)
        have hys : nsz y ≤ n := by rw [hn.out]; exact sub_szN x (hpN.out ▸ hyi)
        have hyl : y.f3.length ≤ nszL y.f3 := len_nszL _
        have hyn := nsz_eq y
        have hin' := Aside0.mk hin
        have p0' := Aside0.mk p0
        replace hil := Aside0.mk hil
        replace hiN := Aside0.mk hiN
        have hy2 := Aside0.mk hy
        replace hyi := Aside0.mk hyi
        replace hys := Aside0.mk hys
        replace hyl := Aside0.mk hyl
        replace hyn := Aside0.mk hyn
        replace p0 := eq_true p0
        replace hin := eq_true hin
        clear hcl hFK hcc hok hy
        go_wp2
        go_loopg [8, 9] y.f3.length (fun kq v8 v9 w'' => ∃ (jj : Int) (j : Nat) (kk : Int) (pos : Nat) (P : List Int) (us : List Value) (KK : List (List Int)), v8 = .int .i64 kk ∧ v9 = .int .i64 jj ∧ Aside0 (jj = (j : Int)) ∧ Aside0 (kk = (pos : Int) ∧ pos = i + 1 + nszL (y.f3.take j)) ∧ j ≤ y.f3.length ∧ kq = y.f3.length - j ∧ Aside0 (PInv (ofP x).P P i pos ∧ us.length = n ∧ KK = (ofP x).K.take i ++ places (y.f3.take j) (i + 1) :: List.replicate (n - (i + 1)) []) ∧ Stt w (fun k => k < w.heap.size ∨ (w2.heap.size ≤ k ∧ k < w3.heap.size)) (PL g5 n (.slice (some ad) pN.length cn) (.slice (some ⟨gP, 0, none⟩) n cP) (.slice (some ⟨gZ, 0, none⟩) n cZ) (.slice (some ⟨gK, 0, none⟩) n cK) P (ofP x).Z us KK [blk g4 39 #[.slice none 0 0, .slice none 0 0, .slice none 0 0, .slice none 0 0], blk g2 24 #[.int .i64 x.f0, .string x.f1, .string x.f2, .slice A0 x.f3.length c0]]) [rdO k24 (fun k => (Z k ∨ w2.heap.size ≤ k) ∧ k < w3.heap.size) (some ad) cn pN, rdO k24 Z A0 c0 x.f3] w'')
        case atStart =>
          obtain ⟨h1_, h2_, h3_⟩ := hst.out
          exact ⟨0, 0, wrap64 (ii + 1), i + 1, P, us, KK, rfl, rfl, ⟨rfl⟩, ⟨by have := hii.out; have := hiN.out; unfold wrap64; omega, by simp [nszL]⟩, Nat.zero_le _, rfl, ⟨h1_, h2_, by
            rw [h3_, show n - i = (n - (i + 1)) + 1 by have := hiN.out; omega, List.replicate_succ]; rfl⟩, S⟩
        case round =>
          clear S hq hq0 hq1 hq2 hq3
          obtain ⟨jj, j, kk, pos, P, us, KK, rfl, rfl, hjj, hkk, hj, hgk2, hst2, S⟩ := hrel
          obtain ⟨wd, rfl⟩ : ∃ q, q = wr := ⟨_, rfl⟩
          have hq := (box4 (S.at_blk 0 rfl)).1
          have hq0 := hq.1
          have hq1 := hq.2.1
          have hq2 := hq.2.2.1
          have hq3 := hq.2.2.2
          have hqf := (box4 (S.at_blk 0 rfl)).2
          obtain ⟨hPI, hul, hKe⟩ := hst2.out
          obtain ⟨ad', cs, eA, hcl, hFK, hcc, hok⟩ := Kd.F_get (S.rdo 0 rfl).2.1 z24 ii p0'.out hin'.out
          injection eA with eA
          subst eA
          rw [← hy2.out] at hFK
          obtain ⟨A3, c3, rfl, hl3, hF3⟩ := k24_openF hFK
          have hx3 : wd.cell? ⟨(ad.add (ii.toNat * 4)).block, (ad.add (ii.toNat * 4)).off + 3, none⟩ = some (.slice A3 y.f3.length c3) := by rw [← add_field _ _ 3 (by omega)]; exact hcc 3 _ rfl
          clear hcl hFK hcc hok hF3 hl3 hq
          by_cases hjl : jj < (y.f3.length : Int)
          · have hjb := decide_eq_true hjl
            have hjn : j < y.f3.length := by have := hjj.out; omega
            obtain ⟨kid, hkid⟩ : ∃ kid, y.f3[j]? = some kid := ⟨_, List.getElem?_eq_getElem hjn⟩
            obtain ⟨hPI2, hpx⟩ := PInv.step (x := x) (by rw [hPl.out, hn.out]) hPI hly hkid hkk.out.2
            have hpn : pos < n := by rw [hn.out]; exact hpx
            have hkt : kk.toNat = pos := by rw [hkk.out.1]; simp
            have hit : ii.toNat = i := by rw [hii.out]; simp
            have hkN : kk < (pN.length : Int) := by have := hkk.out.1; have := hNl.out; omega
            have hkb := decide_eq_true hkN
            have k0 : 0 ≤ kk := by have := hkk.out.1; omega
            have hkn2 : kk < (n : Int) := by have := hkk.out.1; omega
            have hin2 : ii < (n : Int) := by have := hii.out; have := hiN.out; omega
            obtain ⟨hoP, hgP, ⟨tP, htP, hcP⟩, hfP⟩ := own_set' (S.rowAt 1 rfl) (k := kk.toNat) (by omega) (.int .i64 ii)
            obtain ⟨_, _, ⟨tZ, htZ, hcZ⟩, _⟩ := own_set' (S.rowAt 2 rfl) (k := kk.toNat) (by omega) undef
            have hZk : (ofP x).Z[pos]? = some (nsz kid : Int) := by
              have hL := layK_L hly
              have hsplit : y.f3 = y.f3.take j ++ kid :: y.f3.drop (j + 1) := by
                have e : y.f3[j] = kid := (List.getElem?_eq_some_iff.1 hkid).2
                rw [← e, ← List.drop_eq_getElem_cons hjn, List.take_append_drop]
              rw [hsplit, layL_app] at hL
              have h2 := hL.2
              simp only [LayL] at h2
              rw [show i + 1 + nszL (y.f3.take j) = pos from hkk.out.2.symm] at h2
              exact layK_Z h2.1
            have etZ : tZ = .int .i64 (nsz kid : Int) := by
              rw [hkt] at htZ
              simp only [ints, List.getElem?_map, hZk, Option.map_some] at htZ
              injection htZ with htZ
              exact htZ.symm
            rw [etZ] at hcZ
            obtain ⟨sz, hsz⟩ : ∃ sz : Int, sz = nsz kid := ⟨_, rfl⟩
            rw [← hsz] at hcZ
            have hset : (ints P).set kk.toNat (.int .i64 ii) = ints (P.set pos (i : Int)) := by rw [hkt, hii.out]; simp [ints, List.map_set]
            obtain ⟨ui, hui⟩ : ∃ ui, us[ii.toNat]? = some ui := ⟨_, List.getElem?_eq_getElem (by rw [hul, hit]; exact hiN.out)⟩
            have hKl2 : (ofP x).K.length = n := hKl.out
            have hKi : KK[ii.toNat]? = some (places (y.f3.take j) (i + 1)) := by
              rw [hKe, hit, List.getElem?_append_right (by rw [List.length_take]; omega)]
              have : i - ((ofP x).K.take i).length = 0 := by rw [List.length_take]; have := hiN.out; omega
              rw [this]; rfl
            obtain ⟨kl, hkl⟩ : ∃ kl, kl = places (y.f3.take j) (i + 1) := ⟨_, rfl⟩
            rw [← hkl] at hKi
            have hkll : kl.length ≤ 1000000 := by
              rw [hkl]
              have h1 : ∀ (l : List S24) (a : Nat), (places l a).length = l.length := fun l => by
                induction l with
                | nil => intro a; rfl
                | cons k r ih => intro a; simp [places, ih]
              rw [h1, List.length_take]
              have := hyl.out; have := hyn.out; have := hys.out; omega
            have hinn := inn_at hui hKi
            have hkidn : nsz kid ≤ n := by
              have h1 := nszL_get hkid
              have h2 := nszL_drop y.f3 j
              have := hyn.out; have := hys.out; omega
            have hn6 : n ≤ 1000000 := by omega
            have htk : nszL (y.f3.take (j + 1)) = nszL (y.f3.take j) + nsz kid := by
              rw [List.take_succ_eq_append_getElem hjn, nszL_app]
              have e : y.f3[j] = kid := (List.getElem?_eq_some_iff.1 hkid).2
              rw [e]; simp [nszL]
            have hplc : places (y.f3.take (j + 1)) (i + 1) = kl ++ [(pos : Int)] := by
              rw [List.take_succ_eq_append_getElem hjn, places_app, hkl]
              have e : y.f3[j] = kid := (List.getElem?_eq_some_iff.1 hkid).2
              rw [e, ← hkk.out.2]; rfl
            have hiu : ii.toNat < n := by omega
            have hgk3 := Aside0.mk hgk2
            have hi' := Aside0.mk hi
            replace k0 := eq_true k0
            have hkN' := eq_true hkN
            have hkn3 := eq_true hkn2
            have hin3 := eq_true hin2
            replace hsz := Aside0.mk hsz
            replace hset := Aside0.mk hset
            replace hui := Aside0.mk hui
            replace hKi := Aside0.mk hKi
            replace hkl := Aside0.mk hkl
            replace hplc := Aside0.mk hplc
            replace htk := Aside0.mk htk
            replace hkt := Aside0.mk hkt
            replace hit := Aside0.mk hit
            replace hul := Aside0.mk hul
            replace hKe := Aside0.mk hKe
            replace hkid := Aside0.mk hkid
            replace hKl2 := Aside0.mk hKl2
            have hKl2' := hKl2
            have hoPs := Aside0.mk hoP
            have hcZ' := Aside0.mk hcZ
            have hZk2 := Aside0.mk hZk
            clear htP htZ hZk etZ hst2 hoP hgk2 hcZ hKl2
            obtain ⟨hqf0, hqf1, hqf2, hqf3⟩ := hqf
            go_wp2_with (first | ((with_reducible refine gate_store (t := 3) (p := 74) (v := .tmp 73) rfl ?_); refine store_event ?hg (t := 3) (p := 74) (v := .tmp 73) ?ho ?hN (w1 := ?wq_4) ?hr ?_; (case hg => rfl); (case ho => rfl); (case hN => rfl); (case hr => first | (go_simp; done) | (go_simp; rfl)); intro w10 hw_; replace S := S.updRow 1 rfl hoPs.out hgP (.inl rfl); rw [← hw_] at S; clear hw_))
            replace S : Stt w (fun k => k < w.heap.size ∨ (w2.heap.size ≤ k ∧ k < w3.heap.size)) (PL g5 n (.slice (some ad) pN.length cn) (.slice (some ⟨gP, 0, none⟩) n cP) (.slice (some ⟨gZ, 0, none⟩) n cZ) (.slice (some ⟨gK, 0, none⟩) n cK) (P.set pos (i : Int)) (ofP x).Z us KK [blk g4 39 #[.slice none 0 0, .slice none 0 0, .slice none 0 0, .slice none 0 0], blk g2 24 #[.int .i64 x.f0, .string x.f1, .string x.f2, .slice A0 x.f3.length c0]]) [rdO k24 (fun k => (Z k ∨ w2.heap.size ≤ k) ∧ k < w3.heap.size) (some ad) cn pN, rdO k24 Z A0 c0 x.f3] w10 := by
              have h_ := S
              rw [hset.out] at h_
              exact h_
            obtain ⟨P2, hP2⟩ : ∃ q, q = P.set pos (i : Int) := ⟨_, rfl⟩
            rw [← hP2] at S
            replace hP2 := Aside0.mk hP2
            have Sd := S.keep (below_drew1 (Below.refl w10.heap.size w10))
            clear S hq0 hq1 hq2 hq3 hqf0 hqf1 hqf2 hqf3 hcP hfP hx3 hgP hoPs
            have E : (St w (fun k => k < w.heap.size ∨ (w2.heap.size ≤ k ∧ k < w3.heap.size)) (r16L g5 n (.slice (some ad) pN.length cn) (.slice (some ⟨gP, 0, none⟩) n cP) (.slice (some ⟨gZ, 0, none⟩) n cZ) (.slice (some ⟨gK, 0, none⟩) n cK) P2 (ofP x).Z us KK ii.toNat kl kk [blk g4 39 #[.slice none 0 0, .slice none 0 0, .slice none 0 0, .slice none 0 0], blk g2 24 #[.int .i64 x.f0, .string x.f1, .string x.f2, .slice A0 x.f3.length c0]] (fun _ => false) (.bool false) (.bool false)) w10.drew ∧ Same w (fun k => k < w.heap.size ∨ (w2.heap.size ≤ k ∧ k < w3.heap.size)) w10.drew w10.drew) :=
              ⟨Sd.st.emp_new.perm (List.perm_middle (l₁ := [blk g5 39 #[.slice (some ad) pN.length cn, .slice (some ⟨gP, 0, none⟩) n cP, .slice (some ⟨gZ, 0, none⟩) n cZ, .slice (some ⟨gK, 0, none⟩) n cK], row (.slice (some ⟨gP, 0, none⟩) n cP) 3 1 n (ints P2), row (.slice (some ⟨gZ, 0, none⟩) n cZ) 3 1 n (ints (ofP x).Z), row (.slice (some ⟨gK, 0, none⟩) n cK) 36 1 n us, grp (inn us KK)])).symm, Same.refl _ _ _⟩
            refine start_ (n := 13) (S := fun w' => True) (ds := []) #[false, false, false, false, false, false, false, false, false, false, false, false, false] (by kernel_rfl) rfl rfl trivial (fun hHeld => ?_)
            refine with_tabW rof.tab16 rof.bits16 (fun HT_ HW_ => ?_)
            generalize w10.drew = w16 at E Sd hHeld ⊢
            refine pure_ (i := 0) (N := some 75) (v := ?_) (a' := ?_) #[true, false, false, false, false, false, false, false, false, false, false, false, false] rfl rfl (any_of HT_.out (by kernel_rfl)) (fun _ _ _ h => h) (Or.inl ⟨by rfl, ?_⟩) ?_ ?_
            rotate_left
            · intro w'
              go_simp
              with_reducible rfl
            rotate_left
            · simp only [Act.put, List.setIfInBounds_toArray, List.set_cons_zero, List.set_cons_succ, i64_w, i32_w]
              rfl
            refine pure_ (i := 2) (N := some 77) (v := ?_) (a' := ?_) #[true, false, true, false, false, false, false, false, false, false, false, false, false] rfl rfl (any_of HT_.out (by kernel_rfl)) (fun _ _ _ h => h) (Or.inl ⟨by rfl, ?_⟩) ?_ ?_
            rotate_left
            · intro w'
              go_simp
              with_reducible rfl
            rotate_left
            · simp only [Act.put, List.setIfInBounds_toArray, List.set_cons_zero, List.set_cons_succ, i64_w, i32_w]
              rfl
            refine pure_ (i := 3) (N := some 78) (v := ?_) (a' := ?_) #[true, false, true, true, false, false, false, false, false, false, false, false, false] rfl rfl (any_of HT_.out (by kernel_rfl)) (fun _ _ _ h => h) (Or.inl ⟨by rfl, ?_⟩) ?_ ?_
            rotate_left
            · intro w'
              go_simp
              with_reducible rfl
            rotate_left
            · simp only [Act.put, List.setIfInBounds_toArray, List.set_cons_zero, List.set_cons_succ, i64_w, i32_w]
              rfl
            refine pure_ (i := 5) (N := some 80) (v := ?_) (a' := ?_) #[true, false, true, true, false, true, false, false, false, false, false, false, false] rfl rfl (any_of HT_.out (by kernel_rfl)) (fun _ _ _ h => h) (Or.inl ⟨by rfl, ?_⟩) ?_ ?_
            rotate_left
            · intro w'
              go_simp
              with_reducible rfl
            rotate_left
            · simp only [Act.put, List.setIfInBounds_toArray, List.set_cons_zero, List.set_cons_succ, i64_w, i32_w]
              rfl
            refine pure_ (i := 8) (N := some 83) (v := ?_) (a' := ?_) #[true, false, true, true, false, true, false, false, true, false, false, false, false] rfl rfl (any_of HT_.out (by kernel_rfl)) (fun _ _ _ h => h) (Or.inl ⟨by rfl, ?_⟩) ?_ ?_
            rotate_left
            · intro w'
              go_simp
              with_reducible rfl
            rotate_left
            · simp only [Act.put, List.setIfInBounds_toArray, List.set_cons_zero, List.set_cons_succ, i64_w, i32_w]
              rfl
            refine inv_at [1, 4, 6, 7, 9, 10, 11, 12] (fun a0_ b a w' => ∃ (tt : Value) (uu : Value), a = putSel a0_ b [(1, 76, .slice (some ⟨gK, 0, none⟩) n cK), (4, 79, .slice (some ⟨gK, 0, none⟩) n cK), (6, 81, .pointer (some ⟨gK, ii.toNat, none⟩)), (7, 82, ui), (9, 84, tt), (10, 85, uu), (11, 86, .pointer (some ⟨gK, ii.toNat, none⟩))] ∧ ((St w (fun k => k < w.heap.size ∨ (w2.heap.size ≤ k ∧ k < w3.heap.size)) (r16L g5 n (.slice (some ad) pN.length cn) (.slice (some ⟨gP, 0, none⟩) n cP) (.slice (some ⟨gZ, 0, none⟩) n cZ) (.slice (some ⟨gK, 0, none⟩) n cK) P2 (ofP x).Z us KK ii.toNat kl kk [blk g4 39 #[.slice none 0 0, .slice none 0 0, .slice none 0 0, .slice none 0 0], blk g2 24 #[.int .i64 x.f0, .string x.f1, .string x.f2, .slice A0 x.f3.length c0]] b tt uu) w' ∧ Same w (fun k => k < w.heap.size ∨ (w2.heap.size ≤ k ∧ k < w3.heap.size)) w16 w'))) HT_.out HW_.out (by kernel_rfl) (by kernel_rfl) ?_ ?_ ?_
            · exact ⟨.bool false, .bool false, by simp only [putSel, Bool.false_eq_true, if_false], E⟩
            · skip
              clear E
              refine steps_cons ?_ ?_
              · rintro b a w' ⟨tt, uu, ha, Q_E⟩ hb_ hon hoff
                refine ⟨_, rfl, fun K hK => ?_⟩
                have e75 : a.tmps[75]? = some (.pointer (some ⟨g5, 3, none⟩)) := by rw [ha]; exact (putSel_off rfl).trans rfl
                replace ha := Aside0.mk ha
                have E := Aside0.mk Q_E
                have hc_ : w'.cell? ⟨g5, 3, none⟩ = some (.slice (some ⟨gK, 0, none⟩) n cK) := (blk_cell (E.out.1.at_blk (i := 0) rfl) 3).trans rfl
                refine value_ (w1 := w') (v := .slice (some ⟨gK, 0, none⟩) n cK) (by rfl) rfl ?_ ?_
                · go_simp
                  (try simp only [i64_w])
                  try rfl
                refine hK.out _ _ ⟨tt, uu, (by rw [ha.out]; exact putSel_upk 0 hb_ rfl rfl rfl), Q_E⟩
              refine steps_cons ?_ ?_
              · rintro b a w' ⟨tt, uu, ha, Q_E⟩ hb_ hon hoff
                refine ⟨_, rfl, fun K hK => ?_⟩
                have e78 : a.tmps[78]? = some (.pointer (some ⟨g5, 3, none⟩)) := by rw [ha]; exact (putSel_off rfl).trans rfl
                replace ha := Aside0.mk ha
                have E := Aside0.mk Q_E
                have hc_ : w'.cell? ⟨g5, 3, none⟩ = some (.slice (some ⟨gK, 0, none⟩) n cK) := (blk_cell (E.out.1.at_blk (i := 0) rfl) 3).trans rfl
                refine value_ (w1 := w') (v := .slice (some ⟨gK, 0, none⟩) n cK) (by rfl) rfl ?_ ?_
                · go_simp
                  (try simp only [i64_w])
                  try rfl
                refine hK.out _ _ ⟨tt, uu, (by rw [ha.out]; exact putSel_upk 1 hb_ rfl rfl rfl), Q_E⟩
              refine steps_cons ?_ ?_
              · rintro b a w' ⟨tt, uu, ha, Q_E⟩ hb_ hon hoff
                refine ⟨_, rfl, fun K hK => ?_⟩
                have e79 : a.tmps[79]? = some (.slice (some ⟨gK, 0, none⟩) n cK) := by rw [ha]; exact putSel_on (e := (4, 79, .slice (some ⟨gK, 0, none⟩) n cK)) 1 rfl rfl (hon 4 (by kernel_rfl)) rfl
                have e80 : a.tmps[80]? = some (.int .i64 ii) := by rw [ha]; exact (putSel_off rfl).trans rfl
                replace ha := Aside0.mk ha
                have E := Aside0.mk Q_E
                refine value_ (w1 := w') (v := .pointer (some ⟨gK, ii.toNat, none⟩)) (by rfl) rfl ?_ ?_
                · go_simp
                  (try simp only [i64_w])
                  try rfl
                refine hK.out _ _ ⟨tt, uu, (by rw [ha.out]; exact putSel_upk 2 hb_ rfl rfl rfl), Q_E⟩
              refine steps_cons ?_ ?_
              · rintro b a w' ⟨tt, uu, ha, Q_E⟩ hb_ hon hoff
                refine ⟨_, rfl, fun K hK => ?_⟩
                have e81 : a.tmps[81]? = some (.pointer (some ⟨gK, ii.toNat, none⟩)) := by rw [ha]; exact putSel_on (e := (6, 81, .pointer (some ⟨gK, ii.toNat, none⟩))) 2 rfl rfl (hon 6 (by kernel_rfl)) rfl
                replace ha := Aside0.mk ha
                have E := Aside0.mk Q_E
                obtain ⟨_, _, ⟨t_, ht_, hc_⟩, hf_⟩ := own_set' (E.out.1.at_row (i := 3) (by simp only [r16L, (hoff 12 (by kernel_rfl))]; rfl)) hiu undef
                have et_ : t_ = ui := Option.some.inj (ht_.symm.trans hui.out)
                rw [et_] at hc_
                refine value_ (w1 := w') (v := ui) (by rfl) rfl ?_ ?_
                · go_simp
                  (try simp only [i64_w])
                  try rfl
                refine hK.out _ _ ⟨tt, uu, (by rw [ha.out]; exact putSel_upk 3 hb_ rfl rfl rfl), Q_E⟩
              refine steps_cons ?_ ?_
              · rintro b a w' ⟨tt, uu, ha, Q_E⟩ hb_ hon hoff
                refine ⟨_, rfl, fun K hK => ?_⟩
                have e83 : a.tmps[83]? = some (.int .i64 kk) := by rw [ha]; exact (putSel_off rfl).trans rfl
                replace ha := Aside0.mk ha
                have E := Aside0.mk Q_E
                refine value_ (w1 := w'.alloc (.cells #[.int .i64 kk] 3)) (v := (.slice (some ⟨w'.heap.size, 0, none⟩) 1 1)) (by rfl) rfl ?_ ?_
                · go_simp
                  try rfl
                have S2_ := E.out.1.lit (i := 5) (by simp only [r16L, hb_]; rfl) 3 1 1 (by decide) (by decide) [.int .i64 kk] rfl
                have S3_ : (St w (fun k => k < w.heap.size ∨ (w2.heap.size ≤ k ∧ k < w3.heap.size)) (r16L g5 n (.slice (some ad) pN.length cn) (.slice (some ⟨gP, 0, none⟩) n cP) (.slice (some ⟨gZ, 0, none⟩) n cZ) (.slice (some ⟨gK, 0, none⟩) n cK) P2 (ofP x).Z us KK ii.toNat kl kk [blk g4 39 #[.slice none 0 0, .slice none 0 0, .slice none 0 0, .slice none 0 0], blk g2 24 #[.int .i64 x.f0, .string x.f1, .string x.f2, .slice A0 x.f3.length c0]] (up b 9) (.slice (some ⟨w'.heap.size, 0, none⟩) 1 1) uu) (w'.alloc (.cells #[.int .i64 kk] 3)) ∧ Same w (fun k => k < w.heap.size ∨ (w2.heap.size ≤ k ∧ k < w3.heap.size)) w16 (w'.alloc (.cells #[.int .i64 kk] 3))) := ⟨by have h_ := S2_.1; simp only [r16L, List.cons_append, List.nil_append, List.set_cons_zero, List.set_cons_succ, List.setIfInBounds_toArray, up, Nat.reduceEqDiff, reduceIte, cond_true, cond_false, hb_, (hoff 10 (by kernel_rfl)), (hoff 12 (by kernel_rfl))] at h_ ⊢; exact h_, E.out.2.trans S2_.2⟩
                refine hK.out _ _ ⟨(.slice (some ⟨w'.heap.size, 0, none⟩) 1 1), uu, (by rw [ha.out]; exact putSel_upk 4 hb_ rfl rfl rfl), S3_⟩
              refine steps_cons ?_ ?_
              · rintro b a w' ⟨tt, uu, ha, Q_E⟩ hb_ hon hoff
                refine ⟨_, rfl, fun K hK => ?_⟩
                have e82 : a.tmps[82]? = some (ui) := by rw [ha]; exact putSel_on (e := (7, 82, ui)) 3 rfl rfl (hon 7 (by kernel_rfl)) rfl
                have e84 : a.tmps[84]? = some (tt) := by rw [ha]; exact putSel_on (e := (9, 84, tt)) 4 rfl rfl (hon 9 (by kernel_rfl)) rfl
                replace ha := Aside0.mk ha
                have E := Aside0.mk Q_E
                have hi5_ : (r16L g5 n (.slice (some ad) pN.length cn) (.slice (some ⟨gP, 0, none⟩) n cP) (.slice (some ⟨gZ, 0, none⟩) n cZ) (.slice (some ⟨gK, 0, none⟩) n cK) P2 (ofP x).Z us KK ii.toNat kl kk [blk g4 39 #[.slice none 0 0, .slice none 0 0, .slice none 0 0, .slice none 0 0], blk g2 24 #[.int .i64 x.f0, .string x.f1, .string x.f2, .slice A0 x.f3.length c0]] b tt uu)[4]? = some (grp (inn us KK)) := by simp only [r16L, hb_]; rfl
                refine app_step (by rfl) (.tmp 82) (.tmp 84) 36 3 (.int .i64 0) 1 8 rfl Try.underlying36 info3 rfl (by decide) (by decide) ui tt kl.length (ints kl) [.int .i64 kk] (eval_of e82) (eval_of e84) (by simp [Value.oneCell']) (E.out.1.sub_row hi5_ hinn) (E.out.1.at_row (i := 5) (by simp only [r16L, (hon 9 (by kernel_rfl))]; rfl)) (by omega) ?_
                intro v1 w1 ho hg hat
                have S2_ := E.out.1.sub_upd hi5_ hinn (row_step ho hg hat)
                have S3_ : (St w (fun k => k < w.heap.size ∨ (w2.heap.size ≤ k ∧ k < w3.heap.size)) (r16L g5 n (.slice (some ad) pN.length cn) (.slice (some ⟨gP, 0, none⟩) n cP) (.slice (some ⟨gZ, 0, none⟩) n cZ) (.slice (some ⟨gK, 0, none⟩) n cK) P2 (ofP x).Z us KK ii.toNat kl kk [blk g4 39 #[.slice none 0 0, .slice none 0 0, .slice none 0 0, .slice none 0 0], blk g2 24 #[.int .i64 x.f0, .string x.f1, .string x.f2, .slice A0 x.f3.length c0]] (up b 10) tt v1) w1 ∧ Same w (fun k => k < w.heap.size ∨ (w2.heap.size ≤ k ∧ k < w3.heap.size)) w16 w1) := ⟨by have h_ := S2_.1; simp only [r16L, List.cons_append, List.nil_append, List.set_cons_zero, List.set_cons_succ, List.setIfInBounds_toArray, up, Nat.reduceEqDiff, reduceIte, cond_true, cond_false, hb_, (hon 9 (by kernel_rfl)), (hoff 12 (by kernel_rfl))] at h_ ⊢; exact h_, E.out.2.trans S2_.2⟩
                refine hK.out _ _ ⟨tt, v1, (by rw [ha.out]; exact putSel_upk 5 hb_ rfl rfl rfl), S3_⟩
              refine steps_cons ?_ ?_
              · rintro b a w' ⟨tt, uu, ha, Q_E⟩ hb_ hon hoff
                refine ⟨_, rfl, fun K hK => ?_⟩
                have e76 : a.tmps[76]? = some (.slice (some ⟨gK, 0, none⟩) n cK) := by rw [ha]; exact putSel_on (e := (1, 76, .slice (some ⟨gK, 0, none⟩) n cK)) 0 rfl rfl (hon 1 (by kernel_rfl)) rfl
                have e77 : a.tmps[77]? = some (.int .i64 ii) := by rw [ha]; exact (putSel_off rfl).trans rfl
                replace ha := Aside0.mk ha
                have E := Aside0.mk Q_E
                refine value_ (w1 := w') (v := .pointer (some ⟨gK, ii.toNat, none⟩)) (by rfl) rfl ?_ ?_
                · go_simp
                  (try simp only [i64_w])
                  try rfl
                refine hK.out _ _ ⟨tt, uu, (by rw [ha.out]; exact putSel_upk 6 hb_ rfl rfl rfl), Q_E⟩
              refine steps_cons ?_ ?_
              · rintro b a w' ⟨tt, uu, ha, Q_E⟩ hb_ hon hoff
                refine ⟨_, rfl, fun K hK => ?_⟩
                have e86 : a.tmps[86]? = some (.pointer (some ⟨gK, ii.toNat, none⟩)) := by rw [ha]; exact putSel_on (e := (11, 86, .pointer (some ⟨gK, ii.toNat, none⟩))) 6 rfl rfl (hon 11 (by kernel_rfl)) rfl
                have e85 : a.tmps[85]? = some (uu) := by rw [ha]; exact putSel_on (e := (10, 85, uu)) 5 rfl rfl (hon 10 (by kernel_rfl)) rfl
                replace ha := Aside0.mk ha
                have E := Aside0.mk Q_E
                have hi4_ : (r16L g5 n (.slice (some ad) pN.length cn) (.slice (some ⟨gP, 0, none⟩) n cP) (.slice (some ⟨gZ, 0, none⟩) n cZ) (.slice (some ⟨gK, 0, none⟩) n cK) P2 (ofP x).Z us KK ii.toNat kl kk [blk g4 39 #[.slice none 0 0, .slice none 0 0, .slice none 0 0, .slice none 0 0], blk g2 24 #[.int .i64 x.f0, .string x.f1, .string x.f2, .slice A0 x.f3.length c0]] b tt uu)[3]? = some (row (.slice (some ⟨gK, 0, none⟩) n cK) 36 1 n us) := by simp only [r16L, hb_]; rfl
                obtain ⟨ho_, hg_, ⟨t_, ht_, hc_⟩, hf_⟩ := own_set' (E.out.1.at_row hi4_) hiu uu
                obtain ⟨A_, c_, en_⟩ := own_slice (E.out.1.sub_row (i := 4) (j := ii.toNat) (L := (inn us KK).set ii.toNat (row uu 3 1 (kl.length + 1) (ints kl ++ [.int .i64 kk]))) (by simp only [r16L, (hon 10 (by kernel_rfl))]; rfl) (by rw [List.getElem?_set_self (by have := (List.getElem?_eq_some_iff.1 hinn).1; exact this)]))
                refine skip_ (w1 := w'.setCell ⟨gK, ii.toNat, none⟩ uu) (by rfl) rfl ?_ ?_
                · rw [en_] at e85 ⊢
                  go_simp
                  try rfl
                have S2_ := E.out.1.row_upd hi4_ ho_ hg_ (.inl rfl)
                have S3_ : (St w (fun k => k < w.heap.size ∨ (w2.heap.size ≤ k ∧ k < w3.heap.size)) (r16L g5 n (.slice (some ad) pN.length cn) (.slice (some ⟨gP, 0, none⟩) n cP) (.slice (some ⟨gZ, 0, none⟩) n cZ) (.slice (some ⟨gK, 0, none⟩) n cK) P2 (ofP x).Z us KK ii.toNat kl kk [blk g4 39 #[.slice none 0 0, .slice none 0 0, .slice none 0 0, .slice none 0 0], blk g2 24 #[.int .i64 x.f0, .string x.f1, .string x.f2, .slice A0 x.f3.length c0]] (up b 12) tt uu) (w'.setCell ⟨gK, ii.toNat, none⟩ uu) ∧ Same w (fun k => k < w.heap.size ∨ (w2.heap.size ≤ k ∧ k < w3.heap.size)) w16 (w'.setCell ⟨gK, ii.toNat, none⟩ uu)) := ⟨by have h_ := S2_.1; simp only [r16L, List.cons_append, List.nil_append, List.set_cons_zero, List.set_cons_succ, List.setIfInBounds_toArray, up, Nat.reduceEqDiff, reduceIte, cond_true, cond_false, hb_, (hon 10 (by kernel_rfl)), (hon 9 (by kernel_rfl))] at h_ ⊢; exact h_, E.out.2.trans S2_.2⟩
                refine hK.out _ _ ⟨tt, uu, (by rw [ha.out]; exact putSel_none (v := undef) rfl), S3_⟩
              exact steps_nil
            · rintro b a w' hall ⟨tt, uu, ha, Q_E⟩
              clear E
              have hb1_ := hall 1 (by kernel_rfl)
              have hb4_ := hall 4 (by kernel_rfl)
              have hb6_ := hall 6 (by kernel_rfl)
              have hb7_ := hall 7 (by kernel_rfl)
              have hb9_ := hall 9 (by kernel_rfl)
              have hb10_ := hall 10 (by kernel_rfl)
              have hb11_ := hall 11 (by kernel_rfl)
              have hb12_ := hall 12 (by kernel_rfl)
              subst ha
              simp only [putSel, hb1_, hb4_, hb6_, hb7_, hb9_, hb10_, hb11_, hb12_, if_true, Act.put, List.setIfInBounds_toArray, List.set_cons_zero, List.set_cons_succ]
              have E := Aside0.mk Q_E
              clear Q_E
              have S2_ := E.out; simp only [r16L, cond_true, hb9_, hb10_, hb12_] at S2_
              clear hall hb1_ hb4_ hb6_ hb7_ hb9_ hb10_ hb11_ hb12_
              replace S2_ := Sd.of S2_
              have S := (S2_.perm (List.perm_middle (l₁ := [blk g5 39 #[.slice (some ad) pN.length cn, .slice (some ⟨gP, 0, none⟩) n cP, .slice (some ⟨gZ, 0, none⟩) n cZ, .slice (some ⟨gK, 0, none⟩) n cK], row (.slice (some ⟨gP, 0, none⟩) n cP) 3 1 n (ints P2), row (.slice (some ⟨gZ, 0, none⟩) n cZ) 3 1 n (ints (ofP x).Z), row (.slice (some ⟨gK, 0, none⟩) n cK) 36 1 n (us.set ii.toNat uu), grp ((inn us KK).set ii.toNat (row uu 3 1 (kl.length + 1) (ints kl ++ [.int .i64 kk])))]))).drop
              have hlen : us.length = KK.length := by
                rw [hul.out, hKe.out]; simp only [List.length_append, List.length_take, List.length_cons, List.length_replicate]
                have := hKl2'.out; have := hiN.out; omega
              replace S : Stt w (fun k => k < w.heap.size ∨ (w2.heap.size ≤ k ∧ k < w3.heap.size)) (PL g5 n (.slice (some ad) pN.length cn) (.slice (some ⟨gP, 0, none⟩) n cP) (.slice (some ⟨gZ, 0, none⟩) n cZ) (.slice (some ⟨gK, 0, none⟩) n cK) P2 (ofP x).Z (us.set ii.toNat uu) (KK.set ii.toNat (kl ++ [kk])) [blk g4 39 #[.slice none 0 0, .slice none 0 0, .slice none 0 0, .slice none 0 0], blk g2 24 #[.int .i64 x.f0, .string x.f1, .string x.f2, .slice A0 x.f3.length c0]]) [rdO k24 (fun k => (Z k ∨ w2.heap.size ≤ k) ∧ k < w3.heap.size) (some ad) cn pN, rdO k24 Z A0 c0 x.f3] w' := by
                have e : inn (us.set ii.toNat uu) (KK.set ii.toNat (kl ++ [kk])) = (inn us KK).set ii.toNat (row uu 3 1 (kl.length + 1) (ints kl ++ [.int .i64 kk])) := by
                  rw [inn_set _ _ hlen]; simp [ints]
                unfold PL
                rw [e]
                exact S
              clear S2_ E Sd
              have hq2 := (box4 (S.at_blk 0 rfl)).1.2.2.1
              obtain ⟨_, _, ⟨tZ, htZ, hcZ⟩, _⟩ := own_set' (S.rowAt 2 rfl) (k := kk.toNat) (by rw [hkt.out]; exact hpn) undef
              have etZ : tZ = .int .i64 sz := by
                rw [hkt.out] at htZ
                simp only [ints, List.getElem?_map, hZk2.out, Option.map_some] at htZ
                injection htZ with htZ
                rw [hsz.out]
                exact htZ.symm
              rw [etZ] at hcZ
              have hjw : wrap64 (jj + 1) = ((j + 1 : Nat) : Int) := by have := hjj.out; have := hyl.out; have := hyn.out; have := hys.out; unfold wrap64; omega
              have hkw : wrap64 (kk + sz) = ((pos + nsz kid : Nat) : Int) := by have := hkk.out.1; have := hsz.out; unfold wrap64; omega
              have hrel3 : Aside0 (PInv (ofP x).P P2 i (pos + nsz kid) ∧ (us.set ii.toNat uu).length = n ∧ KK.set ii.toNat (kl ++ [kk]) = (ofP x).K.take i ++ places (y.f3.take (j + 1)) (i + 1) :: List.replicate (n - (i + 1)) []) := by
                refine ⟨hP2.out ▸ hPI2, by rw [List.length_set]; exact hul.out, ?_⟩
                rw [hKe.out, hit.out, List.set_append_right _ _ (by rw [List.length_take]; omega), hplc.out, hkk.out.1]
                have : i - ((ofP x).K.take i).length = 0 := by rw [List.length_take]; have := hiN.out; have := hKl2'.out; omega
                rw [this]; rfl
              have hpos2 : Aside0 (pos + nsz kid = i + 1 + nszL (y.f3.take (j + 1))) := ⟨by rw [htk.out]; have := hkk.out.2; omega⟩
              replace hrel3 := Aside0.mk hrel3
              replace hjw := Aside0.mk hjw
              replace hkw := Aside0.mk hkw
              replace hpos2 := Aside0.mk hpos2
              clear htZ etZ hlen
              go_wp2
              go_roundg (y.f3.length - (j + 1))
              case measure => have := hgk3.out; omega
              case rel => exact ⟨wrap64 (jj + 1), j + 1, wrap64 (kk + sz), pos + nsz kid, P2, us.set ii.toNat uu, KK.set ii.toNat (kl ++ [kk]), rfl, rfl, ⟨hjw.out⟩, ⟨hkw.out, hpos2.out.out⟩, by omega, rfl, hrel3.out, S⟩
          · have hjb := decide_eq_false hjl
            have hje : j = y.f3.length := by have := hjj.out; omega
            have hiw : wrap64 (ii + 1) = ((i + 1 : Nat) : Int) := by have := hii.out; have := hiN.out; have := hn; unfold wrap64; omega
            have hrel2 : Aside0 (PInv (ofP x).P P (i + 1) (i + 1 + 1) ∧ us.length = n ∧ KK = (ofP x).K.take (i + 1) ++ List.replicate (n - (i + 1)) []) := by
              have hp0 := hkk.out.2
              rw [hje, List.take_length] at hp0 hKe
              rw [hp0] at hPI
              refine ⟨PInv.next hlay (by rw [hPl.out, hn.out]) hPI hly, hul, ?_⟩
              rw [hKe]
              have hki := layK_K hly
              have hkl_ := (List.getElem?_eq_some_iff.1 hki).1
              rw [List.take_succ_eq_append_getElem hkl_, List.append_assoc]
              congr 1
              have e : (ofP x).K[i] = places y.f3 (i + 1) := (List.getElem?_eq_some_iff.1 hki).2
              rw [e]; rfl
            replace hrel2 := Aside0.mk hrel2
            replace hiw := Aside0.mk hiw
            replace hiN := Aside0.mk hiN
            clear hst2 hst hPI hul hKe hje
            go_wp2
            go_roundg (n - (i + 1))
            case measure => have := hgk; have := hiN.out.out; omega
            case rel => exact ⟨wrap64 (ii + 1), i + 1, P, us, KK, by first | rfl | (simp; done), ⟨hiw.out⟩, by have := hiN.out.out; omega, rfl, hrel2.out, S⟩
      · have hib := decide_eq_false hin
        have hie : i = n := by have := hNl.out; have := hii.out; omega
        obtain ⟨hPI, hul, hKe⟩ := hst.out
        rw [hie] at hPI hKe
        have hPe : P = (ofP x).P := by
          rw [hn.out] at hPI
          exact PInv.fin hlay (by rw [hPl.out, hn.out]) hPI
        have hKe2 : KK = (ofP x).K := by
          rw [hKe, List.take_of_length_le (by rw [hKl.out]; exact Nat.le_refl _)]; simp
        rw [hPe, hKe2] at S
        replace hul := Aside0.mk hul
        clear hst hPI hKe hPe hKe2 hie hii hgk hi
        obtain ⟨⟨e0, e1, e2, e3⟩, e4, e5, e6, e7⟩ := box4 (S.at_blk 5 rfl)
        go_wp2_with (first | ((with_reducible refine gate_store (t := 39) (p := 4) (v := .tmp 94) rfl ?_); refine store_event ?hg (t := 39) (p := 4) (v := .tmp 94) ?ho ?hN (w1 := ?wq_5) ?hr ?_; (case hg => rfl); (case ho => rfl); (case hN => rfl); (case hr => first | (go_simp; done) | (go_simp; rfl)); intro w20 hw_; replace S := (S.perm (front_perm (i := 5) rfl)).set4 (.slice An pN.length cn) (.slice (some ⟨gP, 0, none⟩) n cP) (.slice (some ⟨gZ, 0, none⟩) n cZ) (.slice (some ⟨gK, 0, none⟩) n cK); rw [← hw_] at S; clear hw_))
        have hbk := S.at_blk 0 rfl
        have hO := PL.out S.drop.st (by rw [hPl.out]) (by rw [hZl.out]) hul.out (by rw [hKl.out])
        refine bodyPost_ret (results_cell_row rfl _ _ g4 39 _ (0, 0) _ rfl hbk hu39 rfl rfl) rfl ?_
        obtain ⟨_, _, q1_, r1⟩ := rd_R hO.1
        obtain ⟨_, _, q2_, r2⟩ := rd_R hO.2.1
        obtain ⟨_, _, q3_, r3⟩ := rd_S hO.2.2
        injection q1_ with qa_ _ qb_
        injection q2_ with qc_ _ qd_
        injection q3_ with qe_ _ qf_
        subst qa_ qb_ qc_ qd_ qe_ qf_
        refine ⟨An, cn, some ⟨gP, 0, none⟩, cP, some ⟨gZ, 0, none⟩, cZ, some ⟨gK, 0, none⟩, cK, ?_, ⟨?_⟩, S.below⟩
        · rw [← hpN.out, hPl.out, hZl.out, hKl.out]
        · intro a ha
          simp only [List.mem_cons, List.not_mem_nil, or_false] at ha
          have hoN := S.rdo 0 rfl
          rcases ha with rfl | rfl | rfl | rfl
          · rw [← hpN.out]
            exact ⟨hoN.1, Kd.F_mono (Kd.F_bound hoN.2.1) (fun k hk => hk.1.1.elim (fun h_ => .inl h_) (fun h_ => .inr ⟨Nat.le_trans hw2.out h_, hk.2⟩))⟩
          · exact ⟨r1.1, Kd.F_mono r1.2 (fun k hk => .inr hk)⟩
          · exact ⟨r2.1, Kd.F_mono r2.2 (fun k hk => .inr hk)⟩
          · exact ⟨r3.1, Kd.F_mono r3.2 (fun k hk => .inr hk)⟩
end Go.Proofs.Ytfmlpkeaiohknaa.Q
/-! ScriptPairs' calls: Of of any pairs, the reference's plan and Right. -/
set_option linter.unusedVariables false
set_option linter.unusedSimpArgs false
namespace Go.Proofs.Ytfmlpkeaiohknaa.Q
open Go Go.RowKit Go.Lib Go.Sort Go.Proofs.YtfmlpkeaiohknaaW.PrintWords Go.Proofs.YtfmlpkeaiohknaaW.PrintLast Go.Proofs.YtfmlpkeaiohknaaW.PrintMore Go.Proofs.YtfmlpkeaiohknaaW.SL
/-- What Of answers: 0 for right pairs; else 8 and no edits. -/
theorem of_any (x y : S24) (l : List (Int × Int)) (hx : nsz x ≤ 1000) (hy : nsz y ≤ 1000) (hl : l.length ≤ 1000) (W : World) (A B P : Option Addr) (c d e : Nat) (hA : Kd.C k24 W A x.f3.length x.f3) (hc : x.f3.length ≤ c) (hB : Kd.C k24 W B y.f3.length y.f3) (hd : y.f3.length ≤ d) (hP : Kd.C kP W P l.length l) (he : l.length ≤ e) :
    Calls Try.prog 15 #[.agg #[.int .i64 x.f0, .string x.f1, .string x.f2, .slice A x.f3.length c], .agg #[.int .i64 y.f0, .string y.f1, .string y.f2, .slice B y.f3.length d], .slice P l.length e] W fun e w' => Below W.heap.size W w' ∧ match rightK (ofP x).N (ofP y).N l with
      | true => ∃ (A1 : Option Addr) (n1 c1 : Nat), e = .returned (.tuple #[.slice A1 n1 c1, .int .i64 0])
      | false => e = .returned (.tuple #[.slice none 0 0, .int .i64 8]) := by
  have hpx := planOk hx
  have hpy := planOk hy
  obtain ⟨sF, hsF⟩ : ∃ sF, rightK (ofP x).N (ofP y).N l = true → ofK (ofP x).N (ofP x).P (ofP y).N (ofP y).K l = some sF := by
    cases h : rightK (ofP x).N (ofP y).N l with
    | false => exact ⟨⟨[], 0, [], []⟩, fun h => by cases h⟩
    | true => obtain ⟨sF, h2⟩ := of_some hpx hpy hl h; exact ⟨sF, fun _ => h2⟩
  refine (sof_calls x y l W (A := A) (c := c) (B := B) (d := d) (P := P) (e := e) hA hc hB hd hP he hpx hy hl (planB hy) sF hsF).mono ?_
  rintro e w' ⟨hb, h⟩
  refine ⟨hb, ?_⟩
  cases hr : rightK (ofP x).N (ofP y).N l with
  | false => rw [hr] at h; exact h
  | true =>
    rw [hr] at h
    obtain ⟨v, rfl, hR⟩ := h
    obtain ⟨A1, c1, rfl, _⟩ := rd_R hR
    exact ⟨A1, _, c1, rfl⟩
theorem rplan_S {w0 W : World} {Z : Nat → Prop} {L : List Asr} {F : List FA} (S : Stt w0 Z L F W) (x : S24) (m : Int) (hm : (nsz x : Int) ≤ m) (hm2 : m ≤ 1000000) {A : Option Addr} {c : Nat} (i : Nat) (hi : F[i]? = some (rdV k24 A c x.f3)) :
    Calls Try.prog 12 #[.agg #[.int .i64 x.f0, .string x.f1, .string x.f2, .slice A x.f3.length c], .int .i64 m] W fun e w' => ∃ q : A8, e = .returned (.agg (q.u (ofP x))) ∧ Stt w0 (fun k => Z k ∨ (W.heap.size ≤ k ∧ k < w'.heap.size)) L (q.F (ofP x) ++ F) w' := by
  refine (rof_calls x m hm hm2 A c W Z S.st.zlt (S.rdL i hi) (S.rd i hi).2).mono ?_
  rintro e w' ⟨An, cn, Ap, cp, Az, cz, Ak, ck, rfl, hP, hb⟩
  exact ⟨⟨An, cn, Ap, cp, Az, cz, Ak, ck⟩, rfl, S.callZ hb (F' := A8.F ⟨An, cn, Ap, cp, Az, cz, Ak, ck⟩ (ofP x)) (fun a ha => hP.f a ha)⟩
end Go.Proofs.Ytfmlpkeaiohknaa.Q
-- Written by a program of this session (wip/gen_k8.py) for this claim; Lean checks it.
/-! known, walked. -/
set_option linter.unusedVariables false
set_option linter.unusedSimpArgs false
namespace Go.Proofs.Ytfmlpkeaiohknaa.Q
open Go Go.RowKit Go.Lib Go.Sort Go.Proofs.YtfmlpkeaiohknaaW.PrintWords Go.Proofs.YtfmlpkeaiohknaaW.PrintLast Go.Proofs.YtfmlpkeaiohknaaW.PrintMore Go.Proofs.YtfmlpkeaiohknaaW.SL
attribute [local go_sem] max2_int min2_int max_two min_two max_three min_three max_four min_four
theorem stt_as {w0 w : World} {Z : Nat → Prop} {L : List Asr} {F : List FA} (S : Stt w0 Z L F w) : ∃ q, q = w ∧ Stt w0 Z L F q := ⟨w, rfl, S⟩
set_option maxHeartbeats 16000000 in
set_option maxRecDepth 100000 in
theorem known_calls (w : World) : Calls Try.prog 7 #[] w fun e w' => e = .returned (.bool true) ∧ Below w.heap.size w w' := by
  have S : Stt w (fun k => k < w.heap.size) [] [] w := Stt.start w (by intro a ha; cases ha)
  have m1 := trivial
  have m2 := trivial
  have m3 := trivial
  have hu24 := Try.underlying24
  have hu22 := Try.underlying22
  have hu50 := Try.underlying50
  have hu44 := Try.underlying44
  have hu54 := Try.underlying54
  have hu29 := Try.underlying29
  go_enter Try.func7, Try.ntmps7
  go_upto_region 2 with (first | (go_at_call 19; clear m1; refine (kn_name _ _).mono ?_; rintro e_ w1 ⟨A1, c1, rfl, hb1, hN1⟩; replace S := S.call hb1 (F' := [rdV k24 A1 c1 []]) (by intro a ha; rw [List.mem_singleton] at ha; subst ha; exact hN1); clear hb1 hN1) | ((with_reducible refine gate_dst (N := 1) rfl ?_); refine box_event ?hg (N := 1) ?hd (cs := #[.int .i64 0, .string (⟨#[]⟩ : ByteArray), .string (⟨#[]⟩ : ByteArray), .slice none 0 0]) (t := 24) ?hr ?_; (case hd => rfl); (case hg => rfl); (case hr => first | (go_simp; done) | (go_simp; rfl)); intro ga hg_ w2 hbox hb; replace S := (S.box (t := 24) (cs := #[.int .i64 9, .string xS, .string eS, .slice A1 0 c1]) rfl (heap_alloc_new w1 _) (below_alloc (Below.refl _ _) _)).box hg_ hbox hb; clear hbox hb hg_; obtain ⟨⟨t0, t1, t2, t3⟩, t4, t5, t6, t7⟩ := box4 (S.at_blk 0 rfl)))
  replace S := S.set4 (.int .i64 20) (.string (⟨#[]⟩ : ByteArray)) (.string (⟨#[]⟩ : ByteArray)) (.slice (some ⟨w1.heap.size, 0, none⟩) 1 1)
  clear t0 t1 t2 t3 t4 t5 t6 t7
  obtain ⟨wA, hwA, S⟩ := stt_as S
  rw [← hwA]
  clear hwA
  go_upto_region 3 with (first | (go_at_call 19; clear m2; refine (kn_name _ _).mono ?_; rintro e_ w3 ⟨A2, c2, rfl, hb1, hN1⟩; replace S := S.call hb1 (F' := [rdV k24 A2 c2 []]) (by intro a ha; rw [List.mem_singleton] at ha; subst ha; exact hN1); clear hb1 hN1) | (go_at_call 19; clear m3; refine (kn_name _ _).mono ?_; rintro e_ w4 ⟨A3, c3, rfl, hb1, hN1⟩; replace S := S.call hb1 (F' := [rdV k24 A3 c3 []]) (by intro a ha; rw [List.mem_singleton] at ha; subst ha; exact hN1); clear hb1 hN1) | ((with_reducible refine gate_dst (N := 2) rfl ?_); refine box_event ?hg (N := 2) ?hd (cs := #[.int .i64 0, .string (⟨#[]⟩ : ByteArray), .string (⟨#[]⟩ : ByteArray), .slice none 0 0]) (t := 24) ?hr ?_; (case hd => rfl); (case hg => rfl); (case hr => first | (go_simp; done) | (go_simp; rfl)); intro gb hg_ w5 hbox hb; replace S := (S.box (t := 24) (cs := #[.int .i64 9, .string yS, .string eS, .slice A2 0 c2, .int .i64 9, .string xS, .string eS, .slice A3 0 c3]) rfl (heap_alloc_new w4 _) (below_alloc (Below.refl _ _) _)).box hg_ hbox hb; clear hbox hb hg_; obtain ⟨⟨t0, t1, t2, t3⟩, t4, t5, t6, t7⟩ := box4 (S.at_blk 0 rfl)))
  replace S := S.set4 (.int .i64 20) (.string (⟨#[]⟩ : ByteArray)) (.string (⟨#[]⟩ : ByteArray)) (.slice (some ⟨w4.heap.size, 0, none⟩) 2 2)
  clear t0 t1 t2 t3 t4 t5 t6 t7
  obtain ⟨wB, hwB, S⟩ := stt_as S
  rw [← hwB]
  clear hwB
  obtain ⟨⟨t0, t1, t2, t3⟩, t4, t5, t6, t7⟩ := box4 (S.at_blk 2 rfl)
  obtain ⟨⟨u0, u1, u2, u3⟩, u4, u5, u6, u7⟩ := box4 (S.at_blk 0 rfl)
  replace S := Aside0.mk S
  go_upto_region 4 with (go_at_call 15; have S2 := S.out.box (t := 50) (cs := #[.int .i64 0, .int .i64 0, .int .i64 1, .int .i64 2]) rfl (heap_alloc_new wB _) (below_alloc (Below.refl _ _) _); refine (kn_of _ _ _ _ (lit_X (S2.at_blk 4 rfl) (S2.rdC 2 rfl)) (lit_YX (S2.at_blk 2 rfl) (S2.rdC 1 rfl) (S2.rdC 0 rfl)) (lit_prs (S2.at_blk 0 rfl))).mono ?_; rintro e_ w7 ⟨A4, c4, rfl, hb1, hN1⟩; replace S := Aside0.mk (Stt.call S2 hb1 (F' := [rdV k54 A4 c4 [kE 9 eS yS]]) (by intro a ha; rw [List.mem_singleton] at ha; subst ha; exact hN1)); clear S2 hb1 hN1; clear t0 t1 t2 t3 t4 t5 t6 t7; clear u0 u1 u2 u3 u4 u5 u6 u7)
  replace S := S.out
  obtain ⟨⟨t0, t1, t2, t3⟩, t4, t5, t6, t7⟩ := box4 (S.at_blk 3 rfl)
  obtain ⟨⟨u0, u1, u2, u3⟩, u4, u5, u6, u7⟩ := box4 (S.at_blk 1 rfl)
  replace S := Aside0.mk S
  go_upto_region 5 with (first | (go_at_call 10; refine (kn_ap _ _ _ _ (lit_X (S.out.at_blk 4 rfl) (S.out.rdC 3 rfl)) (S.out.rdC 0 rfl) (S.out.rdL 0 rfl)).mono ?_; rintro e_ w8 ⟨A5, c5, rfl, hb1, hN1⟩; replace S := Aside0.mk (Stt.call S.out hb1 (F' := [rdV k24 A5 c5 [nY, nX]]) (by intro a ha; rw [List.mem_singleton] at ha; subst ha; exact hN1)); clear hb1 hN1; clear t0 t1 t2 t3 t4 t5 t6 t7; clear u0 u1 u2 u3 u4 u5 u6 u7) | ((with_reducible refine gate_dst (N := 5) rfl ?_); refine box_event ?hg (N := 5) ?hd (cs := #[.int .i64 0, .string (⟨#[]⟩ : ByteArray), .string (⟨#[]⟩ : ByteArray), .slice none 0 0]) (t := 24) ?hr ?_; (case hd => rfl); (case hg => rfl); (case hr => first | (go_simp; done) | (go_simp; rfl)); intro g5 hg_ w9 hbox hb; replace S := Aside0.mk (S.out.box hg_ hbox hb); clear hbox hb hg_; obtain ⟨⟨v0, v1, v2, v3⟩, v4, v5, v6, v7⟩ := box4 (S.out.at_blk 0 rfl)))
  replace S := S.out.set4 (.int .i64 20) (.string (⟨#[]⟩ : ByteArray)) (.string (⟨#[]⟩ : ByteArray)) (.slice A5 2 c5)
  clear v0 v1 v2 v3 v4 v5 v6 v7
  obtain ⟨wC, hwC, S⟩ := stt_as S
  rw [← hwC]
  clear hwC
  obtain ⟨⟨t0, t1, t2, t3⟩, t4, t5, t6, t7⟩ := box4 (S.at_blk 4 rfl)
  replace S := Aside0.mk S
  go_upto_region 6 with (first | (go_at_call 10; have S2 := S.out.box (t := 54) (cs := #[.int .i64 2, .int .i64 0, .int .i64 0, .int .i64 0, .int .i64 0, .string eS, .string eS]) rfl (heap_alloc_new wC _) (below_alloc (Below.refl _ _) _); refine (kn_gone _ _ _ (lit_X (S2.at_blk 6 rfl) (S2.rdC 4 rfl)) (lit_gone (S2.at_blk 0 rfl))).mono ?_; rintro e_ w10 ⟨rfl, hb1⟩; replace S := Aside0.mk (Stt.keep S2 hb1); clear S2 hb1; clear t0 t1 t2 t3 t4 t5 t6 t7) | ((with_reducible refine gate_dst (N := 8) rfl ?_); refine box_event ?hg (N := 8) ?hd (cs := #[.int .i64 0, .string (⟨#[]⟩ : ByteArray), .string (⟨#[]⟩ : ByteArray), .slice none 0 0]) (t := 24) ?hr ?_; (case hd => rfl); (case hg => rfl); (case hr => first | (go_simp; done) | (go_simp; rfl)); intro g8 hg_ w11 hbox hb; replace S := Aside0.mk (S.out.box hg_ hbox hb); clear hbox hb hg_; obtain ⟨⟨v0, v1, v2, v3⟩, v4, v5, v6, v7⟩ := box4 (S.out.at_blk 0 rfl)))
  replace S := S.out.set4 (.int .i64 0) (.string (⟨#[]⟩ : ByteArray)) (.string (⟨#[]⟩ : ByteArray)) (.slice none 0 0)
  clear v0 v1 v2 v3 v4 v5 v6 v7
  obtain ⟨wD, hwD, S⟩ := stt_as S
  rw [← hwD]
  clear hwD
  obtain ⟨⟨t0, t1, t2, t3⟩, t4, t5, t6, t7⟩ := box4 (S.at_blk 2 rfl)
  obtain ⟨⟨u0, u1, u2, u3⟩, u4, u5, u6, u7⟩ := box4 (S.at_blk 4 rfl)
  have hed := S.rdC 1 rfl
  obtain ⟨ade, e_, q0, q1_, q2_, q3_, q4_, q5_, q6_⟩ := at_T54 hed 0 (by decide) (by decide)
  subst e_
  have e0_ : ade.add ((0 : Int).toNat * 7) = ade := by simp [Addr.add]
  rw [e0_] at q0
  replace q0 : wD.cell? ade = some (.int .i64 1) := q0
  clear q1_ q2_ q3_ q4_ q5_ q6_ e0_ hed
  replace S := Aside0.mk S
  go_wp2_with (go_at_call 14; refine (kn_same _ _ _ _ _ (S.out.rdC 0 rfl) (S.out.rdL 0 rfl) (lit_YX (S.out.at_blk 5 rfl) (S.out.rdC 3 rfl) (S.out.rdC 2 rfl)) (Nat.le_refl _)).mono ?_; rintro e_ w12 ⟨rfl, hb1⟩; have HF := Aside0.mk ((Stt.keep S.out hb1).below); clear hb1)
  go_ret
  exact ⟨rfl, HF.out⟩
end Go.Proofs.Ytfmlpkeaiohknaa.Q
-- Written by a program of this session (wip/gen_s9.py) for this claim; Lean checks it.
/-! ScriptPairs, walked: it answers true. -/
set_option linter.unusedVariables false
set_option linter.unusedSimpArgs false
namespace Go.Proofs.Ytfmlpkeaiohknaa.Q
open Go Go.RowKit Go.Lib Go.Sort Go.Proofs.YtfmlpkeaiohknaaW.PrintWords Go.Proofs.YtfmlpkeaiohknaaW.PrintLast Go.Proofs.YtfmlpkeaiohknaaW.PrintMore Go.Proofs.YtfmlpkeaiohknaaW.SL
attribute [local go_sem] max2_int min2_int max_two min_two max_three min_three max_four min_four
set_option maxHeartbeats 16000000 in
set_option maxRecDepth 100000 in
theorem pairs_few (x y : S24) (l : List (Int × Int)) (A B P : Option Addr) (c d e : Nat) (w : World) (S : Stt w (fun k => k < w.heap.size) [] [rdV kP P e l, rdV k24 B d y.f3, rdV k24 A c x.f3] w) (bA bB : Bool)
    (HFA : ∀ (W : World) (A : Option Addr) (c : Nat), Kd.C k24 W A x.f3.length x.f3 → x.f3.length ≤ c → Calls Try.prog 6 #[.agg #[.int .i64 x.f0, .string x.f1, .string x.f2, .slice A x.f3.length c], .int .i64 120] W fun e w' => e = .returned (.bool bA) ∧ Below W.heap.size W w')
    (HFB : ∀ (W : World) (A : Option Addr) (c : Nat), Kd.C k24 W A y.f3.length y.f3 → y.f3.length ≤ c → Calls Try.prog 6 #[.agg #[.int .i64 y.f0, .string y.f1, .string y.f2, .slice A y.f3.length c], .int .i64 120] W fun e w' => e = .returned (.bool bB) ∧ Below W.heap.size W w')
    (h : bA = false ∨ bB = false ∨ 300 < l.length) :
    Calls Try.prog 4 #[.agg #[.int .i64 x.f0, .string x.f1, .string x.f2, .slice A x.f3.length c], .agg #[.int .i64 y.f0, .string y.f1, .string y.f2, .slice B y.f3.length d], .slice P l.length e] w fun e w' => e = .returned (.bool true) ∧ Below w.heap.size w w' := by
  replace S := Aside0.mk S
  replace HFA := Aside0.mk HFA
  replace HFB := Aside0.mk HFB
  obtain ⟨n, hn⟩ : ∃ n, l.length = n := ⟨_, rfl⟩
  rw [hn] at h ⊢
  replace hn := Aside0.mk hn
  have hu24 := Try.underlying24
  have hu44 := Try.underlying44
  have m1 := trivial
  have m2 := trivial
  by_cases h3 : 300 < n
  · have d3 : decide ((300 : Int) < (n : Int)) = true := decide_eq_true (by omega)
    have d3c : (300 : Int) < (n : Int) := by omega
    clear h h3
    cases bA <;> cases bB <;> (
      go_enter Try.func4, Try.ntmps4
      go_wp2_with (first | ((with_reducible refine gate_dst (N := 3) rfl ?_); refine box_event ?hg (N := 3) ?hd (cs := #[.int .i64 x.f0, .string x.f1, .string x.f2, .slice A x.f3.length c]) (t := 24) ?hr ?_; (case hd => rfl); (case hg => rfl); (case hr => first | (go_simp; done) | (go_simp; rfl)); intro ga hg_ w1 hbox hb; replace S := Aside0.mk (S.out.box hg_ hbox hb); clear hbox hb hg_; obtain ⟨⟨t0, t1, t2, t3⟩, t4, t5, t6, t7⟩ := box4 (S.out.at_blk 0 rfl)) | ((with_reducible refine gate_dst (N := 4) rfl ?_); refine box_event ?hg (N := 4) ?hd (cs := #[.int .i64 y.f0, .string y.f1, .string y.f2, .slice B y.f3.length d]) (t := 24) ?hr ?_; (case hd => rfl); (case hg => rfl); (case hr => first | (go_simp; done) | (go_simp; rfl)); intro gb hg_ w2 hbox hb; replace S := Aside0.mk (S.out.box hg_ hbox hb); clear hbox hb hg_; clear t0 t1 t2 t3 t4 t5 t6 t7; obtain ⟨⟨t0, t1, t2, t3⟩, t4, t5, t6, t7⟩ := box4 (S.out.at_blk 1 rfl); obtain ⟨⟨u0, u1, u2, u3⟩, u4, u5, u6, u7⟩ := box4 (S.out.at_blk 0 rfl)) | (go_at_call 6; clear m1; refine (HFA.out _ _ _ (S.out.rdC 2 rfl) (S.out.rdL 2 rfl)).mono ?_; rintro e_ w3 ⟨rfl, hb1⟩; replace S := Aside0.mk (S.out.keep hb1); clear hb1; clear t0 t1 t2 t3 t4 t5 t6 t7; clear u0 u1 u2 u3 u4 u5 u6 u7; obtain ⟨⟨t0, t1, t2, t3⟩, t4, t5, t6, t7⟩ := box4 (S.out.at_blk 1 rfl); obtain ⟨⟨u0, u1, u2, u3⟩, u4, u5, u6, u7⟩ := box4 (S.out.at_blk 0 rfl)) | (go_at_call 6; clear m2; refine (HFB.out _ _ _ (S.out.rdC 1 rfl) (S.out.rdL 1 rfl)).mono ?_; rintro e_ w4 ⟨rfl, hb1⟩; replace S := Aside0.mk (S.out.keep hb1); clear hb1; clear t0 t1 t2 t3 t4 t5 t6 t7; clear u0 u1 u2 u3 u4 u5 u6 u7; obtain ⟨⟨t0, t1, t2, t3⟩, t4, t5, t6, t7⟩ := box4 (S.out.at_blk 1 rfl); obtain ⟨⟨u0, u1, u2, u3⟩, u4, u5, u6, u7⟩ := box4 (S.out.at_blk 0 rfl)) | (go_at_call 7; refine (known_calls _).mono ?_; rintro e_ w5 ⟨rfl, hb1⟩; replace S := Aside0.mk (S.out.keep hb1); clear hb1))
      go_ret
      exact ⟨rfl, S.out.below⟩)
  · have d3 : decide ((300 : Int) < (n : Int)) = false := decide_eq_false (by omega)
    have d3c : ¬ (300 : Int) < (n : Int) := by omega
    cases bA with
    | false =>
      clear h h3
      go_enter Try.func4, Try.ntmps4
      go_wp2_with (first | ((with_reducible refine gate_dst (N := 3) rfl ?_); refine box_event ?hg (N := 3) ?hd (cs := #[.int .i64 x.f0, .string x.f1, .string x.f2, .slice A x.f3.length c]) (t := 24) ?hr ?_; (case hd => rfl); (case hg => rfl); (case hr => first | (go_simp; done) | (go_simp; rfl)); intro ga hg_ w1 hbox hb; replace S := Aside0.mk (S.out.box hg_ hbox hb); clear hbox hb hg_; obtain ⟨⟨t0, t1, t2, t3⟩, t4, t5, t6, t7⟩ := box4 (S.out.at_blk 0 rfl)) | ((with_reducible refine gate_dst (N := 4) rfl ?_); refine box_event ?hg (N := 4) ?hd (cs := #[.int .i64 y.f0, .string y.f1, .string y.f2, .slice B y.f3.length d]) (t := 24) ?hr ?_; (case hd => rfl); (case hg => rfl); (case hr => first | (go_simp; done) | (go_simp; rfl)); intro gb hg_ w2 hbox hb; replace S := Aside0.mk (S.out.box hg_ hbox hb); clear hbox hb hg_; clear t0 t1 t2 t3 t4 t5 t6 t7; obtain ⟨⟨t0, t1, t2, t3⟩, t4, t5, t6, t7⟩ := box4 (S.out.at_blk 1 rfl); obtain ⟨⟨u0, u1, u2, u3⟩, u4, u5, u6, u7⟩ := box4 (S.out.at_blk 0 rfl)) | (go_at_call 6; clear m1; refine (HFA.out _ _ _ (S.out.rdC 2 rfl) (S.out.rdL 2 rfl)).mono ?_; rintro e_ w3 ⟨rfl, hb1⟩; replace S := Aside0.mk (S.out.keep hb1); clear hb1; clear t0 t1 t2 t3 t4 t5 t6 t7; clear u0 u1 u2 u3 u4 u5 u6 u7; obtain ⟨⟨t0, t1, t2, t3⟩, t4, t5, t6, t7⟩ := box4 (S.out.at_blk 1 rfl); obtain ⟨⟨u0, u1, u2, u3⟩, u4, u5, u6, u7⟩ := box4 (S.out.at_blk 0 rfl)) | (go_at_call 6; clear m2; refine (HFB.out _ _ _ (S.out.rdC 1 rfl) (S.out.rdL 1 rfl)).mono ?_; rintro e_ w4 ⟨rfl, hb1⟩; replace S := Aside0.mk (S.out.keep hb1); clear hb1; clear t0 t1 t2 t3 t4 t5 t6 t7; clear u0 u1 u2 u3 u4 u5 u6 u7; obtain ⟨⟨t0, t1, t2, t3⟩, t4, t5, t6, t7⟩ := box4 (S.out.at_blk 1 rfl); obtain ⟨⟨u0, u1, u2, u3⟩, u4, u5, u6, u7⟩ := box4 (S.out.at_blk 0 rfl)) | (go_at_call 7; refine (known_calls _).mono ?_; rintro e_ w5 ⟨rfl, hb1⟩; replace S := Aside0.mk (S.out.keep hb1); clear hb1))
      go_ret
      exact ⟨rfl, S.out.below⟩
    | true =>
      cases bB with
      | false =>
        clear h h3
        go_enter Try.func4, Try.ntmps4
        go_wp2_with (first | ((with_reducible refine gate_dst (N := 3) rfl ?_); refine box_event ?hg (N := 3) ?hd (cs := #[.int .i64 x.f0, .string x.f1, .string x.f2, .slice A x.f3.length c]) (t := 24) ?hr ?_; (case hd => rfl); (case hg => rfl); (case hr => first | (go_simp; done) | (go_simp; rfl)); intro ga hg_ w1 hbox hb; replace S := Aside0.mk (S.out.box hg_ hbox hb); clear hbox hb hg_; obtain ⟨⟨t0, t1, t2, t3⟩, t4, t5, t6, t7⟩ := box4 (S.out.at_blk 0 rfl)) | ((with_reducible refine gate_dst (N := 4) rfl ?_); refine box_event ?hg (N := 4) ?hd (cs := #[.int .i64 y.f0, .string y.f1, .string y.f2, .slice B y.f3.length d]) (t := 24) ?hr ?_; (case hd => rfl); (case hg => rfl); (case hr => first | (go_simp; done) | (go_simp; rfl)); intro gb hg_ w2 hbox hb; replace S := Aside0.mk (S.out.box hg_ hbox hb); clear hbox hb hg_; clear t0 t1 t2 t3 t4 t5 t6 t7; obtain ⟨⟨t0, t1, t2, t3⟩, t4, t5, t6, t7⟩ := box4 (S.out.at_blk 1 rfl); obtain ⟨⟨u0, u1, u2, u3⟩, u4, u5, u6, u7⟩ := box4 (S.out.at_blk 0 rfl)) | (go_at_call 6; clear m1; refine (HFA.out _ _ _ (S.out.rdC 2 rfl) (S.out.rdL 2 rfl)).mono ?_; rintro e_ w3 ⟨rfl, hb1⟩; replace S := Aside0.mk (S.out.keep hb1); clear hb1; clear t0 t1 t2 t3 t4 t5 t6 t7; clear u0 u1 u2 u3 u4 u5 u6 u7; obtain ⟨⟨t0, t1, t2, t3⟩, t4, t5, t6, t7⟩ := box4 (S.out.at_blk 1 rfl); obtain ⟨⟨u0, u1, u2, u3⟩, u4, u5, u6, u7⟩ := box4 (S.out.at_blk 0 rfl)) | (go_at_call 6; clear m2; refine (HFB.out _ _ _ (S.out.rdC 1 rfl) (S.out.rdL 1 rfl)).mono ?_; rintro e_ w4 ⟨rfl, hb1⟩; replace S := Aside0.mk (S.out.keep hb1); clear hb1; clear t0 t1 t2 t3 t4 t5 t6 t7; clear u0 u1 u2 u3 u4 u5 u6 u7; obtain ⟨⟨t0, t1, t2, t3⟩, t4, t5, t6, t7⟩ := box4 (S.out.at_blk 1 rfl); obtain ⟨⟨u0, u1, u2, u3⟩, u4, u5, u6, u7⟩ := box4 (S.out.at_blk 0 rfl)) | (go_at_call 7; refine (known_calls _).mono ?_; rintro e_ w5 ⟨rfl, hb1⟩; replace S := Aside0.mk (S.out.keep hb1); clear hb1))
        go_ret
        exact ⟨rfl, S.out.below⟩
      | true => rcases h with h | h | h; cases h; cases h; exact absurd h h3
set_option maxHeartbeats 16000000 in
set_option maxRecDepth 100000 in
theorem pairs_main (x y : S24) (l : List (Int × Int)) (A B P : Option Addr) (c d e : Nat) (w : World) (S : Stt w (fun k => k < w.heap.size) [] [rdV kP P e l, rdV k24 B d y.f3, rdV k24 A c x.f3] w)
    (HFA : ∀ (W : World) (A : Option Addr) (c : Nat), Kd.C k24 W A x.f3.length x.f3 → x.f3.length ≤ c → Calls Try.prog 6 #[.agg #[.int .i64 x.f0, .string x.f1, .string x.f2, .slice A x.f3.length c], .int .i64 120] W fun e w' => e = .returned (.bool true) ∧ Below W.heap.size W w')
    (HFB : ∀ (W : World) (A : Option Addr) (c : Nat), Kd.C k24 W A y.f3.length y.f3 → y.f3.length ≤ c → Calls Try.prog 6 #[.agg #[.int .i64 y.f0, .string y.f1, .string y.f2, .slice A y.f3.length c], .int .i64 120] W fun e w' => e = .returned (.bool true) ∧ Below W.heap.size W w')
    (hx1 : nsz x ≤ 120) (hy1 : nsz y ≤ 120) (h : ¬ 300 < l.length) :
    Calls Try.prog 4 #[.agg #[.int .i64 x.f0, .string x.f1, .string x.f2, .slice A x.f3.length c], .agg #[.int .i64 y.f0, .string y.f1, .string y.f2, .slice B y.f3.length d], .slice P l.length e] w fun e w' => e = .returned (.bool true) ∧ Below w.heap.size w w' := by
  have hx2 := planOk (show nsz x ≤ 1000 by omega)
  have hy2 := planOk (show nsz y ≤ 1000 by omega)
  have HNN := Aside0.mk (⟨hx1, hy1⟩ : _ ∧ _)
  have HNA := Aside0.mk (⟨by rw [hx2.len]; omega, by rw [hy2.len]; omega⟩ : (ofP x).N.length ≤ 1000000 ∧ (ofP y).N.length ≤ 1000000)
  have HL1 := Aside0.mk (show l.length ≤ 1000 by omega)
  have HOF := fun W hA hB hP => of_any x y l (by omega) (by omega) HL1.out W A B P c d e hA (S.rdL 2 rfl) hB (S.rdL 1 rfl) hP (S.rdL 0 rfl)
  have HRR := fun (W : World) (p8 q8 : A8) (hA : Kd.C k24 W p8.an (ofP x).N.length (ofP x).N) (hca : (ofP x).N.length ≤ p8.cn) (hB : Kd.C k24 W q8.an (ofP y).N.length (ofP y).N) (hcb : (ofP y).N.length ≤ q8.cn) (hP : Kd.C kP W P l.length l) => rright_calls (ofP x).N (ofP y).N l (Ap := p8.ap) (Az := p8.az) (Ak := p8.ak) (Bp := q8.ap) (Bz := q8.az) (Bk := q8.ak) (cp := p8.cp) (cz := p8.cz) (ck := p8.ck) (dp := q8.cp) (dz := q8.cz) (dk := q8.ck) (a1 := (ofP x).P.length) (a2 := (ofP x).Z.length) (a3 := (ofP x).K.length) (b1 := (ofP y).P.length) (b2 := (ofP y).Z.length) (b3 := (ofP y).K.length) W hA hca hB hcb hP (S.rdL 0 rfl) HNA.out.1 HNA.out.2 (by have := HL1.out; omega)
  have d3 : decide ((300 : Int) < (l.length : Int)) = false := decide_eq_false (by omega)
  have d3c : ¬ (300 : Int) < (l.length : Int) := by omega
  obtain ⟨R, hR⟩ : ∃ R, rightK (ofP x).N (ofP y).N l = R := ⟨_, rfl⟩
  simp only [hR] at HOF HRR
  obtain ⟨n, hn⟩ : ∃ n, l.length = n := ⟨_, rfl⟩
  simp only [hn] at HOF HRR d3 d3c ⊢
  replace S := Aside0.mk S
  replace HFA := Aside0.mk HFA
  replace HFB := Aside0.mk HFB
  replace HOF := Aside0.mk HOF
  replace HRR := Aside0.mk HRR
  replace hn := Aside0.mk hn
  clear hx1 hy1 hx2 hy2 h hR
  have hu24 := Try.underlying24
  have hu44 := Try.underlying44
  have hu45 := True.intro
  have m1 := trivial
  have m2 := trivial
  have m3 := trivial
  have m4 := trivial
  cases R with
  | true =>
    go_enter Try.func4, Try.ntmps4
    go_upto_region 4 with (first | ((with_reducible refine gate_dst (N := 3) rfl ?_); refine box_event ?hg (N := 3) ?hd (cs := #[.int .i64 x.f0, .string x.f1, .string x.f2, .slice A x.f3.length c]) (t := 24) ?hr ?_; (case hd => rfl); (case hg => rfl); (case hr => first | (go_simp; done) | (go_simp; rfl)); intro ga hg_ w1 hbox hb; replace S := Aside0.mk (S.out.box hg_ hbox hb); clear hbox hb hg_; obtain ⟨⟨t0, t1, t2, t3⟩, t4, t5, t6, t7⟩ := box4 (S.out.at_blk 0 rfl)) | ((with_reducible refine gate_dst (N := 4) rfl ?_); refine box_event ?hg (N := 4) ?hd (cs := #[.int .i64 y.f0, .string y.f1, .string y.f2, .slice B y.f3.length d]) (t := 24) ?hr ?_; (case hd => rfl); (case hg => rfl); (case hr => first | (go_simp; done) | (go_simp; rfl)); intro gb hg_ w2 hbox hb; replace S := Aside0.mk (S.out.box hg_ hbox hb); clear hbox hb hg_; clear t0 t1 t2 t3 t4 t5 t6 t7; obtain ⟨⟨t0, t1, t2, t3⟩, t4, t5, t6, t7⟩ := box4 (S.out.at_blk 1 rfl); obtain ⟨⟨u0, u1, u2, u3⟩, u4, u5, u6, u7⟩ := box4 (S.out.at_blk 0 rfl)) | (go_at_call 6; clear m1; refine (HFA.out _ _ _ (S.out.rdC 2 rfl) (S.out.rdL 2 rfl)).mono ?_; rintro e_ w3 ⟨rfl, hb1⟩; replace S := Aside0.mk (S.out.keep hb1); clear hb1; clear t0 t1 t2 t3 t4 t5 t6 t7; clear u0 u1 u2 u3 u4 u5 u6 u7; obtain ⟨⟨t0, t1, t2, t3⟩, t4, t5, t6, t7⟩ := box4 (S.out.at_blk 1 rfl); obtain ⟨⟨u0, u1, u2, u3⟩, u4, u5, u6, u7⟩ := box4 (S.out.at_blk 0 rfl)) | (go_at_call 6; clear m2; refine (HFB.out _ _ _ (S.out.rdC 1 rfl) (S.out.rdL 1 rfl)).mono ?_; rintro e_ w4 ⟨rfl, hb1⟩; replace S := Aside0.mk (S.out.keep hb1); clear hb1; clear t0 t1 t2 t3 t4 t5 t6 t7; clear u0 u1 u2 u3 u4 u5 u6 u7; obtain ⟨⟨t0, t1, t2, t3⟩, t4, t5, t6, t7⟩ := box4 (S.out.at_blk 1 rfl); obtain ⟨⟨u0, u1, u2, u3⟩, u4, u5, u6, u7⟩ := box4 (S.out.at_blk 0 rfl)) | (go_at_call 15; refine (HOF.out _ (S.out.rdC 2 rfl) (S.out.rdC 1 rfl) (by rw [← hn.out]; exact S.out.rdC 0 rfl)).mono ?_; rintro e_ w6 ⟨hb1, ⟨A1, n1, c1, rfl⟩⟩; replace S := Aside0.mk (S.out.keep hb1); clear hb1; clear t0 t1 t2 t3 t4 t5 t6 t7; clear u0 u1 u2 u3 u4 u5 u6 u7; obtain ⟨⟨t0, t1, t2, t3⟩, t4, t5, t6, t7⟩ := box4 (S.out.at_blk 1 rfl); obtain ⟨⟨u0, u1, u2, u3⟩, u4, u5, u6, u7⟩ := box4 (S.out.at_blk 0 rfl)))
    go_region_held3 (fun w' => w'.cell? ⟨ga, 0, none⟩ = some (.int .i64 x.f0) ∧ w'.cell? ⟨ga, 1, none⟩ = some (.string x.f1) ∧ w'.cell? ⟨ga, 2, none⟩ = some (.string x.f2) ∧ w'.cell? ⟨ga, 3, none⟩ = some (.slice A x.f3.length c) ∧ w'.cell? ⟨gb, 0, none⟩ = some (.int .i64 y.f0) ∧ w'.cell? ⟨gb, 1, none⟩ = some (.string y.f1) ∧ w'.cell? ⟨gb, 2, none⟩ = some (.string y.f2) ∧ w'.cell? ⟨gb, 3, none⟩ = some (.slice B y.f3.length d)) (first | (refine ⟨?_, ?_, ?_, ?_, ?_, ?_, ?_, ?_⟩ <;> assumption) | go_keep) (first
      | (go_at_call 12; clear m3; refine (rplan_S S.out.drew x 121 (by have := HNN.out; omega) (by decide) 2 rfl).mono ?_; rintro e_ w7 ⟨p8, rfl, S_⟩; have S5 := Aside0.mk S_; clear S_; clear t0 t1 t2 t3 t4 t5 t6 t7; clear u0 u1 u2 u3 u4 u5 u6 u7; obtain ⟨⟨t0, t1, t2, t3⟩, t4, t5, t6, t7⟩ := box4 (S5.out.at_blk 1 rfl); obtain ⟨⟨u0, u1, u2, u3⟩, u4, u5, u6, u7⟩ := box4 (S5.out.at_blk 0 rfl))
      | (go_at_call 12; clear m4; refine (rplan_S S5.out y 121 (by have := HNN.out; omega) (by decide) 5 rfl).mono ?_; rintro e_ w8 ⟨q8, rfl, S_⟩; have S6 := Aside0.mk S_; clear S_; clear t0 t1 t2 t3 t4 t5 t6 t7; clear u0 u1 u2 u3 u4 u5 u6 u7; obtain ⟨⟨t0, t1, t2, t3⟩, t4, t5, t6, t7⟩ := box4 (S6.out.at_blk 1 rfl); obtain ⟨⟨u0, u1, u2, u3⟩, u4, u5, u6, u7⟩ := box4 (S6.out.at_blk 0 rfl))
      | (go_at_call 16; refine (HRR.out w8 p8 q8 (S6.out.rdC 4 rfl) (S6.out.rdL 4 rfl) (S6.out.rdC 0 rfl) (S6.out.rdL 0 rfl) (by rw [← hn.out]; exact S6.out.rdC 8 rfl)).mono ?_; rintro e_ w9 ⟨rfl, hb1⟩; have S7 := Aside0.mk (S6.out.keep hb1); clear hb1; clear t0 t1 t2 t3 t4 t5 t6 t7; clear u0 u1 u2 u3 u4 u5 u6 u7; obtain ⟨⟨t0, t1, t2, t3⟩, t4, t5, t6, t7⟩ := box4 (S7.out.at_blk 1 rfl); obtain ⟨⟨u0, u1, u2, u3⟩, u4, u5, u6, u7⟩ := box4 (S7.out.at_blk 0 rfl)))
    all_goals (
      go_wp2_with ((go_at_call 7; refine (known_calls _).mono ?_; rintro e_ w10 ⟨rfl, hb1⟩; replace S7 := Aside0.mk (S7.out.keep hb1); clear hb1))
      go_ret
      exact ⟨rfl, S7.out.below⟩)
  | false =>
    go_enter Try.func4, Try.ntmps4
    go_upto_region 4 with (first | ((with_reducible refine gate_dst (N := 3) rfl ?_); refine box_event ?hg (N := 3) ?hd (cs := #[.int .i64 x.f0, .string x.f1, .string x.f2, .slice A x.f3.length c]) (t := 24) ?hr ?_; (case hd => rfl); (case hg => rfl); (case hr => first | (go_simp; done) | (go_simp; rfl)); intro ga hg_ w1 hbox hb; replace S := Aside0.mk (S.out.box hg_ hbox hb); clear hbox hb hg_; obtain ⟨⟨t0, t1, t2, t3⟩, t4, t5, t6, t7⟩ := box4 (S.out.at_blk 0 rfl)) | ((with_reducible refine gate_dst (N := 4) rfl ?_); refine box_event ?hg (N := 4) ?hd (cs := #[.int .i64 y.f0, .string y.f1, .string y.f2, .slice B y.f3.length d]) (t := 24) ?hr ?_; (case hd => rfl); (case hg => rfl); (case hr => first | (go_simp; done) | (go_simp; rfl)); intro gb hg_ w2 hbox hb; replace S := Aside0.mk (S.out.box hg_ hbox hb); clear hbox hb hg_; clear t0 t1 t2 t3 t4 t5 t6 t7; obtain ⟨⟨t0, t1, t2, t3⟩, t4, t5, t6, t7⟩ := box4 (S.out.at_blk 1 rfl); obtain ⟨⟨u0, u1, u2, u3⟩, u4, u5, u6, u7⟩ := box4 (S.out.at_blk 0 rfl)) | (go_at_call 6; clear m1; refine (HFA.out _ _ _ (S.out.rdC 2 rfl) (S.out.rdL 2 rfl)).mono ?_; rintro e_ w3 ⟨rfl, hb1⟩; replace S := Aside0.mk (S.out.keep hb1); clear hb1; clear t0 t1 t2 t3 t4 t5 t6 t7; clear u0 u1 u2 u3 u4 u5 u6 u7; obtain ⟨⟨t0, t1, t2, t3⟩, t4, t5, t6, t7⟩ := box4 (S.out.at_blk 1 rfl); obtain ⟨⟨u0, u1, u2, u3⟩, u4, u5, u6, u7⟩ := box4 (S.out.at_blk 0 rfl)) | (go_at_call 6; clear m2; refine (HFB.out _ _ _ (S.out.rdC 1 rfl) (S.out.rdL 1 rfl)).mono ?_; rintro e_ w4 ⟨rfl, hb1⟩; replace S := Aside0.mk (S.out.keep hb1); clear hb1; clear t0 t1 t2 t3 t4 t5 t6 t7; clear u0 u1 u2 u3 u4 u5 u6 u7; obtain ⟨⟨t0, t1, t2, t3⟩, t4, t5, t6, t7⟩ := box4 (S.out.at_blk 1 rfl); obtain ⟨⟨u0, u1, u2, u3⟩, u4, u5, u6, u7⟩ := box4 (S.out.at_blk 0 rfl)) | (go_at_call 15; refine (HOF.out _ (S.out.rdC 2 rfl) (S.out.rdC 1 rfl) (by rw [← hn.out]; exact S.out.rdC 0 rfl)).mono ?_; rintro e_ w6 ⟨hb1, rfl⟩; replace S := Aside0.mk (S.out.keep hb1); clear hb1; clear t0 t1 t2 t3 t4 t5 t6 t7; clear u0 u1 u2 u3 u4 u5 u6 u7; obtain ⟨⟨t0, t1, t2, t3⟩, t4, t5, t6, t7⟩ := box4 (S.out.at_blk 1 rfl); obtain ⟨⟨u0, u1, u2, u3⟩, u4, u5, u6, u7⟩ := box4 (S.out.at_blk 0 rfl)))
    go_region_held3 (fun w' => w'.cell? ⟨ga, 0, none⟩ = some (.int .i64 x.f0) ∧ w'.cell? ⟨ga, 1, none⟩ = some (.string x.f1) ∧ w'.cell? ⟨ga, 2, none⟩ = some (.string x.f2) ∧ w'.cell? ⟨ga, 3, none⟩ = some (.slice A x.f3.length c) ∧ w'.cell? ⟨gb, 0, none⟩ = some (.int .i64 y.f0) ∧ w'.cell? ⟨gb, 1, none⟩ = some (.string y.f1) ∧ w'.cell? ⟨gb, 2, none⟩ = some (.string y.f2) ∧ w'.cell? ⟨gb, 3, none⟩ = some (.slice B y.f3.length d)) (first | (refine ⟨?_, ?_, ?_, ?_, ?_, ?_, ?_, ?_⟩ <;> assumption) | go_keep) (first
      | (go_at_call 12; clear m3; refine (rplan_S S.out.drew x 121 (by have := HNN.out; omega) (by decide) 2 rfl).mono ?_; rintro e_ w7 ⟨p8, rfl, S_⟩; have S5 := Aside0.mk S_; clear S_; clear t0 t1 t2 t3 t4 t5 t6 t7; clear u0 u1 u2 u3 u4 u5 u6 u7; obtain ⟨⟨t0, t1, t2, t3⟩, t4, t5, t6, t7⟩ := box4 (S5.out.at_blk 1 rfl); obtain ⟨⟨u0, u1, u2, u3⟩, u4, u5, u6, u7⟩ := box4 (S5.out.at_blk 0 rfl))
      | (go_at_call 12; clear m4; refine (rplan_S S5.out y 121 (by have := HNN.out; omega) (by decide) 5 rfl).mono ?_; rintro e_ w8 ⟨q8, rfl, S_⟩; have S6 := Aside0.mk S_; clear S_; clear t0 t1 t2 t3 t4 t5 t6 t7; clear u0 u1 u2 u3 u4 u5 u6 u7; obtain ⟨⟨t0, t1, t2, t3⟩, t4, t5, t6, t7⟩ := box4 (S6.out.at_blk 1 rfl); obtain ⟨⟨u0, u1, u2, u3⟩, u4, u5, u6, u7⟩ := box4 (S6.out.at_blk 0 rfl))
      | (go_at_call 16; refine (HRR.out w8 p8 q8 (S6.out.rdC 4 rfl) (S6.out.rdL 4 rfl) (S6.out.rdC 0 rfl) (S6.out.rdL 0 rfl) (by rw [← hn.out]; exact S6.out.rdC 8 rfl)).mono ?_; rintro e_ w9 ⟨rfl, hb1⟩; have S7 := Aside0.mk (S6.out.keep hb1); clear hb1; clear t0 t1 t2 t3 t4 t5 t6 t7; clear u0 u1 u2 u3 u4 u5 u6 u7; obtain ⟨⟨t0, t1, t2, t3⟩, t4, t5, t6, t7⟩ := box4 (S7.out.at_blk 1 rfl); obtain ⟨⟨u0, u1, u2, u3⟩, u4, u5, u6, u7⟩ := box4 (S7.out.at_blk 0 rfl)))
    all_goals (
      go_wp2_with ((go_at_call 7; refine (known_calls _).mono ?_; rintro e_ w10 ⟨rfl, hb1⟩; replace S7 := Aside0.mk (S7.out.keep hb1); clear hb1))
      go_ret
      exact ⟨rfl, S7.out.below⟩)
theorem pairs_walk (x y : S24) (l : List (Int × Int)) (A B P : Option Addr) (c d e : Nat) (w : World) (hA : Kd.C k24 w A x.f3.length x.f3) (hc : x.f3.length ≤ c) (hB : Kd.C k24 w B y.f3.length y.f3) (hd : y.f3.length ≤ d) (hP : Kd.C kP w P l.length l) (he : l.length ≤ e) :
    Calls Try.prog 4 #[.agg #[.int .i64 x.f0, .string x.f1, .string x.f2, .slice A x.f3.length c], .agg #[.int .i64 y.f0, .string y.f1, .string y.f2, .slice B y.f3.length d], .slice P l.length e] w fun e w' => e = .returned (.bool true) ∧ Below w.heap.size w w' := by
  have S : Stt w (fun k => k < w.heap.size) [] [rdV kP P e l, rdV k24 B d y.f3, rdV k24 A c x.f3] w := Stt.start w (by intro a ha; simp only [List.mem_cons, List.not_mem_nil, or_false] at ha; rcases ha with rfl | rfl | rfl; exact ⟨he, Kd.C_F kP_heap hP⟩; exact ⟨hd, Kd.C_F k24_heap hB⟩; exact ⟨hc, Kd.C_F k24_heap hA⟩)
  obtain ⟨bA, hA1, HFA⟩ := few_calls x 120 (by decide) (by decide)
  obtain ⟨bB, hB1, HFB⟩ := few_calls y 120 (by decide) (by decide)
  by_cases h : bA = false ∨ bB = false ∨ 300 < l.length
  · exact pairs_few x y l A B P c d e w S bA bB HFA HFB h
  · simp only [not_or] at h
    have h1 : bA = true := by simpa using h.1
    have h2 : bB = true := by simpa using h.2.1
    subst h1 h2
    exact pairs_main x y l A B P c d e w S HFA HFB (by have := (hA1 rfl).1; omega) (by have := (hB1 rfl).1; omega) h.2.2
end Go.Proofs.Ytfmlpkeaiohknaa.Q
