/- The texts of this claim that lie below its row, in their order: GRp GRq. -/
import Derived.Test.YtfmlpkeaiohknaaZA9
set_option linter.unusedVariables false
set_option linter.unusedSimpArgs false
open Bool renaming false -> BK
open Go.RowKit renaming wrap64 -> Pq
open List renaming length_cons -> PX, map_cons -> Py, filter_cons_of_neg -> QB, filter_cons_of_pos -> Qv, length_nil -> Qu, nil_append -> Pu, length_map -> PM, nodup_cons -> Qn, mem_of_getElem? -> Pm, mem_map -> PF, getElem?_map -> PU, mem_cons -> Qg, getElem?_cons_zero -> QR
open Nat renaming le_trans -> Qo
open Option renaming bind_some -> Pj
open Option.some renaming injEq -> QA
namespace Go.Proofs.Q
open Go.RowKit Go.Proofs.V.Words Go.Proofs.V.Last Go.Proofs.V.More
def As (k : Kn) : DD := ⟨k.id, ⟨k.kind, k.text, k.trail, []⟩, k.kids⟩
theorem Iy {done : List DD} {k : DD} {r : List DD} : Ai (done ++ k :: r) (done.length : Int) = k := by
 unfold Ai;simp
theorem GH {done : List Int} {k : Int} {r : List Int} : rd (done ++ k :: r) (done.length : Int) = k := by
 unfold rd;simp
theorem KI (id : Int) : ∀ (r done : List DD), done.length + r.length <= 1000000 -> Ev (fun k => Bc.l0 k (done ++ r) id (done.length : Int)) (C4 id (r.map (·.f0)) done.length)
 | [], done, h => Ev.step (Ev.of fun k => by rw [Bc.l0, if_neg (by simp)]; rfl)
 | x :: r, done, h => by
  simp only [PX] at h;by_cases e : x.f0 = id
  ·refine Ev.step (Ev.of fun k => ?_);rw [Bc.l0, if_pos (by simp; omega), if_pos (by omega), Iy, if_pos e];simp [C4, e]
  ·have ih := KI id r (done ++ [x]) (by simp; omega);have e2 : C4 id ((x :: r).map (·.f0)) done.length = C4 id (r.map (·.f0)) (done ++ [x]).length := by
    rw [Py, C4, if_neg e]; simp
   rw [e2];refine Ev.step (Ev.congr ih fun k => ?_)
   show Bc.l0 (k + 1) _ _ _ = _
   rw [Bc.l0, if_pos (by simp; omega), if_pos (by omega), Iy, if_neg e, Ik (by omega) (by omega)];simp
theorem NU (id : Int) : ∀ (r done : List Int), done.length + r.length <= 1000000 -> Ev (fun k => B0.l0 k (done ++ r) id (done.length : Int)) (C4 id r done.length)
 | [], done, h => Ev.step (Ev.of fun k => by rw [B0.l0, if_neg (by simp)]; rfl)
 | x :: r, done, h => by
  simp only [PX] at h;by_cases e : x = id
  ·refine Ev.step (Ev.of fun k => ?_);rw [B0.l0, if_pos (by simp; omega), if_pos (by omega), GH, if_pos e];simp [C4, e]
  ·have ih := NU id r (done ++ [x]) (by simp; omega);have e2 : C4 id (x :: r) done.length = C4 id r (done ++ [x]).length := by
    rw [C4, if_neg e]; simp
   rw [e2];refine Ev.step (Ev.congr ih fun k => ?_)
   show B0.l0 (k + 1) _ _ _ = _
   rw [B0.l0, if_pos (by simp; omega), if_pos (by omega), GH, if_neg e, Ik (by omega) (by omega)];simp
theorem JW (id : Int) (l : List Int) (h : l.length <= 1000000) : Ev (fun k => B0.f k l id) (AO l id) := by
 have := NU id l [] (by simpa using h);exact this
theorem Jf (id : Int) (l : List DD) (h : l.length <= 1000000) : Ev (fun k => Bc.f k l id) (AO (l.map (·.f0)) id) := by
 have := KI id l [] (by simpa using h);exact this
def JX (id : Int) : List DD -> Nat -> Int
 | [], _ => -1
 | x :: r, n => if id ∈ x.f2 then (n : Int) else JX id r (n + 1)
theorem KJ (id : Int) : ∀ (r done : List DD), done.length + r.length <= 1000000 -> (∀ x ∈ r, x.f2.length <= 1000000) -> Ev (fun k => AI.l0 k (done ++ r) id (done.length : Int)) (JX id r done.length)
 | [], done, h, _ => Ev.step (Ev.of fun k => by rw [AI.l0, if_neg (by simp)]; rfl)
 | x :: r, done, h, hk => by
  simp only [PX] at h;have hi := JW id x.f2 (hk x (by simp));have hgo : ∀ k, AI.l0 (k + 1) (done ++ x :: r) id (done.length : Int) = (B0.f k x.f2 id).bind fun t209 => (if t209 >= 0 then (some (done.length : Int)) else (AI.l0 k (done ++ x :: r) id ((done.length : Int) + 1))) := fun k => by
   rw [AI.l0, if_pos (by simp; omega), if_pos (by omega), Iy, Ik (by omega) (by omega)]
  by_cases e : id ∈ x.f2
  ·have hp : AO x.f2 id >= 0 := (Cz _ _).2 e;rw [JX, if_pos e];exact Ev.step (Ev.congr (Ev.bind hi (f := fun k t209 => (if t209 >= 0 then (some (done.length : Int)) else (AI.l0 k (done ++ x :: r) id ((done.length : Int) + 1)))) (Ev.of fun k => by rw [if_pos hp])) hgo)
  ·have hp : ¬ AO x.f2 id >= 0 := fun h => e ((Cz _ _).1 h)
   have ih := KJ id r (done ++ [x]) (by simp; omega) (fun y hy => hk y (by simp [hy]));rw [JX, if_neg e];have e3 : (done ++ [x]).length = done.length + 1 := by simp
   rw [e3] at ih;exact Ev.step (Ev.congr (Ev.bind hi (f := fun k t209 => (if t209 >= 0 then (some (done.length : Int)) else (AI.l0 k (done ++ x :: r) id ((done.length : Int) + 1)))) (Ev.congr ih fun k => by rw [if_neg hp]; simp)) hgo)
theorem F9 (id : Int) : ∀ (r done out : List Int), done.length + r.length <= 1000000 -> out.length <= done.length -> Ev (fun k => AX.l0 k (done ++ r) id out (done.length : Int)) (out ++ r.filter fun y => decide (y ≠ id))
 | [], done, out, h, _ => Ev.step (Ev.of fun k => by rw [AX.l0, if_neg (by simp)]; simp)
 | x :: r, done, out, h, ho => by
  simp only [PX] at h;have e3 : ((done ++ [x]).length : Int) = (done.length : Int) + 1 := by simp
  by_cases e : x = id
  ·have ih := F9 id r (done ++ [x]) out (by simp; omega) (by simp; omega);rw [QB (by simp [e])];refine Ev.step (Ev.congr ih fun k => ?_)
   show AX.l0 (k + 1) _ _ _ _ = _
   rw [AX.l0, if_pos (by simp; omega), if_pos (by omega), GH, if_pos e, Ik (by omega) (by omega), e3];simp
  ·have ih := F9 id r (done ++ [x]) (out ++ [x]) (by simp; omega) (by simp; omega);rw [Qv (by simp [e])];have e9 : out ++ [x] ++ r.filter (fun y => decide (y ≠ id)) = out ++ x :: r.filter (fun y => decide (y ≠ id)) := by simp
   rw [e9] at ih;refine Ev.step (Ev.congr ih fun k => ?_)
   show AX.l0 (k + 1) _ _ _ _ = _
   rw [AX.l0, if_pos (by simp; omega), if_pos (by omega), GH, if_neg e, if_pos (by omega), Ik (by omega) (by omega), e3];simp
def Nb (l : List Int) (after : Int) : Nat := if after = -1 then 0 else (AO l after + 1).toNat
theorem Oi (l : List Int) (id after : Int) (h : l.length <= 1000000) : Ev (fun k => AW.f k l id after) (Bx l (Nb l after) id) := by
 have hi := JW after l h;have hb := DL l after;unfold AW.f;refine Ev.bind hi (Ev.of fun k => ?_);by_cases e : after = -1
 ·rw [if_pos e, Pj, if_pos (by omega), if_pos (by simp), Pj, if_pos (by simp), Pj, if_pos (by simp; omega)];unfold Bx Nb;rw [if_pos e];simp
 ·have hw : Pq (AO l after + 1) = AO l after + 1 := Ik (by omega) (by omega);have hl : (l.take (AO l after + 1).toNat).length <= l.length := by rw [List.length_take]; exact Nat.min_le_right _ _
  have hl2 : (l.drop (AO l after + 1).toNat).length <= l.length := by rw [List.length_drop]; exact Nat.sub_le _ _
  rw [if_neg e, Pj, hw, if_pos (by omega), if_pos (by omega), if_pos (by simp only [Qu]; omega), Pj, if_pos (by simp only [Pu]; omega), Pj, if_pos (by simp only [Pu, List.length_append, PX, Qu]; omega)];unfold Bx Nb;rw [if_neg e];simp
theorem NV : ∀ (r done : List Dm), done.length + r.length <= 1000000 -> Ev (fun k => Br.l0 k (done ++ r) (done.map fun x => (⟨x.f0, x.f1, x.f2, x.f3, x.f4, x.f5, x.f6⟩ : Ee)) (done.length : Int)) ((done ++ r).map fun x => (⟨x.f0, x.f1, x.f2, x.f3, x.f4, x.f5, x.f6⟩ : Ee))
 | [], done, h => Ev.step (Ev.of fun k => by rw [Br.l0, if_neg (by simp)]; simp)
 | x :: r, done, h => by
  simp only [PX] at h;have ih := NV r (done ++ [x]) (by simp; omega);have e3 : ((done ++ [x]).length : Int) = (done.length : Int) + 1 := by simp
  rw [e3] at ih;have e4 : done ++ [x] ++ r = done ++ x :: r := by simp
  rw [e4] at ih;refine Ev.step (Ev.congr ih fun k => ?_)
  show Br.l0 (k + 1) _ _ _ = _
  have hr : AV (done ++ x :: r) (done.length : Int) = x := by unfold AV; simp
  rw [Br.l0, if_pos (by simp; omega), if_pos (by omega), if_pos (by rw [PM]; omega), hr, Ik (by omega) (by omega)];simp
def Ny (x : Ee) : Dm := ⟨x.f0, x.f1, x.f2, x.f3, x.f4, x.f5.extract 0 (min x.f5.size 100), x.f6.extract 0 (min x.f6.size 100)⟩
theorem Jg : ∀ (r done : List Ee), done.length <= 60 -> Ev (fun k => AK.l0 k (done ++ r) (done.map Ny) (done.length : Int)) ((done ++ r.take (60 - done.length)).map Ny)
 | [], done, h => Ev.step (Ev.of fun k => by rw [AK.l0, if_neg (by simp)]; simp)
 | x :: r, done, h => by
  by_cases h60 : done.length = 60
  ·refine Ev.step (Ev.of fun k => ?_);rw [AK.l0, if_pos (by simp; omega), if_neg (by omega), h60];simp
  ·have ih := Jg r (done ++ [x]) (by simp; omega);have e3 : ((done ++ [x]).length : Int) = (done.length : Int) + 1 := by simp
   have e5 : 60 - done.length = (60 - (done ++ [x]).length) + 1 := by simp; omega
   rw [e5, List.take_succ_cons];rw [e3] at ih;have e4 : done ++ [x] ++ r = done ++ x :: r := by simp
   rw [e4] at ih;have e6 : done ++ [x] ++ r.take (60 - (done ++ [x]).length) = done ++ x :: r.take (60 - (done ++ [x]).length) := by simp
   rw [e6] at ih;have hr : Ao (done ++ x :: r) (done.length : Int) = x := by unfold Ao; simp
   have m1 : ∀ n : Nat, (mn (n : Int) 100).toNat = min n 100 /\ 0 <= mn (n : Int) 100 /\ mn (n : Int) 100 <= (n : Int) := fun n => by unfold mn; omega
   refine Ev.step (Ev.congr ih fun k => ?_)
   show AK.l0 (k + 1) _ _ _ = _
   rw [AK.l0, if_pos (by simp; omega), if_pos (by omega), if_pos (by omega), hr, if_pos (m1 _).2.1, if_pos (m1 _).2.2, if_pos (m1 _).2.1, if_pos (m1 _).2.2, if_pos (by rw [PM]; omega), (m1 _).1, (m1 _).1, Ik (by omega) (by omega)];simp [Ny]
section
variable {ks : List Kn}
theorem Jh (ks : List Kn) : (ks.map As).map (·.f0) = ks.map (·.id) := by rw [List.map_map]; rfl
theorem GI (I : CQ ks) (id : Int) : ∀ (l : List Kn) (n : Nat), (∀ k ∈ l, k ∈ ks) -> JX id (l.map As) n = match CG ks id with
  | some q => C4 q (l.map (·.id)) n
  | none => -1
 | [], n, _ => by
  rw [List.map_nil, JX];cases CG ks id <;> rfl
 | x :: r, n, h => by
  have ih := GI I id r (n + 1) (fun k hk => h k (by simp [hk]));have hx := LH I (h x (by simp)) (y := id);rw [Py, JX];by_cases e : id ∈ x.kids
  ·rw [if_pos (show id ∈ (As x).f2 from e), hx.1 e];simp [C4]
  ·rw [if_neg (show ¬ id ∈ (As x).f2 from e), ih];cases hp : CG ks id with
   | none => rfl
   | some q =>
    have hne : ¬ x.id = q := fun e2 => e (hx.2 (by rw [hp, e2]))
    simp only [Py];rw [C4, if_neg hne]
theorem Ea : ∀ (l : List Int) (n : Nat) (x : Int) (j : Nat), l.Nodup -> l[j]? = some x -> C4 x l n = ((n + j : Nat) : Int)
 | [], n, x, j, _, h => by simp at h
 | y :: r, n, x, 0, _, h => by
  simp at h;rw [C4, if_pos h]; simp
 | y :: r, n, x, j + 1, hd, h => by
  rw [Qn] at hd;have h2 : r[j]? = some x := by simpa using h
  rw [C4, if_neg (fun e => hd.1 (by rw [e]; exact Pm h2)), Ea r (n + 1) x j hd.2 h2]
  congr 1; omega
theorem Cp (I : CQ ks) {y : Int} (h : y ∈ ks.map (·.id)) : ∃ (j : Nat) (k : Kn), ks[j]? = some k /\ k.id = y /\ CY ks y = some k /\ AO (ks.map (·.id)) y = (j : Int) /\ j < ks.length := by
 obtain ⟨k, hk, rfl⟩ := PF.1 h;obtain ⟨j, hj⟩ := List.getElem?_of_mem hk;refine ⟨j, k, hj, rfl, E4 I.nodup hk, ?_, (List.getElem?_eq_some_iff.1 hj).1⟩;have := Ea (ks.map (·.id)) 0 k.id j I.nodup (by rw [PU, hj]; rfl);rw [Nat.zero_add] at this;exact this
theorem DT {y : Int} (h : y ∉ ks.map (·.id)) : AO (ks.map (·.id)) y = -1 := by
 have h1 := DL (ks.map (·.id)) y;have h2 := Cz (ks.map (·.id)) y;have : ¬ 0 <= AO (ks.map (·.id)) y := fun h3 => h (h2.1 h3)
 omega
theorem Fa (I : CQ ks) (hl : ks.length <= 1000000) (hk : ∀ k ∈ ks, k.kids.length <= 1000000) (id : Int) : Ev (fun k => AI.f k (ks.map As) id) (match CG ks id with
    | some q => AO (ks.map (·.id)) q
    | none => -1) := by
  have h := KJ id (ks.map As) [] (by simpa using hl) (fun x hx => by obtain ⟨k, hk2, rfl⟩ := PF.1 hx; exact hk k hk2);have e := GI I id ks 0 (fun k hk => hk);rw [show ([] : List DD).length = 0 from rfl, e] at h;exact h
end
theorem Fx : ∀ (a b : List Int), a.Nodup -> (∀ x ∈ a, x ∈ b) -> a.length <= b.length
 | [], b, _, _ => Nat.zero_le _
 | x :: a, b, hd, hs => by
  rw [Qn] at hd;have hx : x ∈ b := hs x (by simp);have ih := Fx a (b.erase x) hd.2 (fun y hy => (List.mem_erase_of_ne (fun e => hd.1 (by rw [<- e]; exact hy))).2 (hs y (by simp [hy])));rw [List.length_erase_of_mem hx] at ih;have : 0 < b.length := List.length_pos_of_mem hx;simp only [PX];omega
section
variable {ks : List Kn}
theorem CQ.kidsLen (I : CQ ks) {k : Kn} (hk : k ∈ ks) : k.kids.length <= ks.length := by
 have := Fx k.kids (ks.map (·.id)) (I.kdup k hk) (fun x hx => by obtain ⟨y, hy, e, _⟩ := I.kids k hk x hx; exact PF.2 ⟨y, hy, e⟩);simpa using this
theorem I1 {j : Nat} {k : Kn} (h : ks[j]? = some k) : Ai (ks.map As) (j : Int) = As k := by
 unfold Ai;rw [Int.toNat_natCast, List.getD_eq_getElem?_getD, PU, h];rfl
theorem MM (I : CQ ks) (hl : ks.length <= 1000000) {d : Int -> Nat} (hd : ∀ k ∈ ks, ∀ p, k.par = some p -> d p < d k.id) (top : Int) : ∀ (m : Nat) (cur : Int) (vis : List Int), d cur <= m -> cur ∈ ks.map (·.id) -> vis.Nodup -> (∀ v ∈ vis, v ∈ ks.map (·.id) /\ d cur < d v) ->
  ∃ b, Ev (fun k => AN.l0 k (ks.map As) cur top (vis.length : Int)) b /\ (b = true ↔ E6 ks cur top) := by
 intro m
 induction m with
 | zero =>
  intro cur vis hm hc hv hs;have hle := Fx (cur :: vis) (ks.map (·.id)) (Qn.2 ⟨fun h => by have := (hs cur h).2; omega, hv⟩) (fun x hx => by rcases Qg.1 hx with rfl | hx; exact hc; exact (hs x hx).1);simp only [PX, PM] at hle;by_cases e : cur = top
  ·exact ⟨true, Ev.step (Ev.of fun k => by rw [AN.l0, if_pos (by simp; omega), if_pos e]), by rw [e]; simp [E6.refl]⟩
  ·have hp : CG ks cur = none := by
    cases hp : CG ks cur with
    | none => rfl
    | some q =>
     unfold CG at hp;obtain ⟨j, k, hj, hki, hg, _, _⟩ := Cp I hc;rw [hg] at hp;have := hd k (Pm hj) q hp;rw [hki] at this; omega
   have hpe := Fa I hl (fun k hk => Qo (I.kidsLen hk) hl) cur;rw [hp] at hpe;replace hpe : Ev (fun k => AI.f k (ks.map As) cur) (-1) := hpe;refine ⟨BK, Ev.step (Ev.congr (Ev.bind hpe (f := fun k t215 => (if t215 < 0 then (some BK) else (if 0 <= t215 then (if t215 < ((ks.map As).length : Int) then (AN.l0 k (ks.map As) ((Ai (ks.map As) t215).f0) top (Pq ((vis.length : Int) + 1))) else (none)) else (none)))) (Ev.of fun k => by rw [if_pos (by omega)])) fun k => ?_), ?_⟩
   ·show AN.l0 (k + 1) _ _ _ _ = _
    rw [AN.l0, if_pos (by simp; omega), if_neg e]
   ·constructor
    ·intro h; cases h
    ·intro h;rcases E6.iff.1 h with h | ⟨p, hp2, _⟩
     ·exact absurd h e
     ·have : CG ks cur = some p := hp2;rw [hp] at this; cases this
 | succ m ih =>
  intro cur vis hm hc hv hs;have hle := Fx (cur :: vis) (ks.map (·.id)) (Qn.2 ⟨fun h => by have := (hs cur h).2; omega, hv⟩) (fun x hx => by rcases Qg.1 hx with rfl | hx; exact hc; exact (hs x hx).1);simp only [PX, PM] at hle;by_cases e : cur = top
  ·exact ⟨true, Ev.step (Ev.of fun k => by rw [AN.l0, if_pos (by simp; omega), if_pos e]), by rw [e]; simp [E6.refl]⟩
  ·have hpe := Fa I hl (fun k hk => Qo (I.kidsLen hk) hl) cur;have hgo : ∀ k, AN.l0 (k + 1) (ks.map As) cur top (vis.length : Int) = (AI.f k (ks.map As) cur).bind fun t215 => (if t215 < 0 then (some BK) else (if 0 <= t215 then (if t215 < ((ks.map As).length : Int) then (AN.l0 k (ks.map As) ((Ai (ks.map As) t215).f0) top (Pq ((vis.length : Int) + 1))) else (none)) else (none))) := fun k => by
    rw [AN.l0, if_pos (by simp; omega), if_neg e]
   cases hp : CG ks cur with
   | none =>
    rw [hp] at hpe;replace hpe : Ev (fun k => AI.f k (ks.map As) cur) (-1) := hpe;refine ⟨BK, Ev.step (Ev.congr (Ev.bind hpe (f := fun k t215 => (if t215 < 0 then (some BK) else (if 0 <= t215 then (if t215 < ((ks.map As).length : Int) then (AN.l0 k (ks.map As) ((Ai (ks.map As) t215).f0) top (Pq ((vis.length : Int) + 1))) else (none)) else (none)))) (Ev.of fun k => by rw [if_pos (by omega)])) hgo), ?_⟩;constructor
    ·intro h; cases h
    ·intro h;rcases E6.iff.1 h with h | ⟨p, hp2, _⟩
     ·exact absurd h e
     ·have : CG ks cur = some p := hp2;rw [hp] at this; cases this
   | some q =>
    have hp2 := hp;unfold CG at hp2;obtain ⟨j, k, hj, hki, hg, _, _⟩ := Cp I hc;rw [hg] at hp2;have hkm := Pm hj;have hdk := hd k hkm q hp2;rw [hki] at hdk;obtain ⟨qk, hqm, hqi, _⟩ := I.par k hkm q hp2;have hqid : q ∈ ks.map (·.id) := PF.2 ⟨qk, hqm, hqi⟩;obtain ⟨jq, kq, hjq, hkqi, _, hplq, hjql⟩ := Cp I hqid;rw [hp] at hpe;simp only [hplq] at hpe;obtain ⟨b, hb, hbt⟩ := ih q (cur :: vis) (by omega) hqid (Qn.2 ⟨fun h => by have := (hs cur h).2; omega, hv⟩) (fun v hv2 => by
     rcases Qg.1 hv2 with rfl | hv2
     ·exact ⟨hc, hdk⟩
     ·have := hs v hv2; exact ⟨this.1, by omega⟩)
    refine ⟨b, Ev.step (Ev.congr (Ev.bind hpe (f := fun k t215 => (if t215 < 0 then (some BK) else (if 0 <= t215 then (if t215 < ((ks.map As).length : Int) then (AN.l0 k (ks.map As) ((Ai (ks.map As) t215).f0) top (Pq ((vis.length : Int) + 1))) else (none)) else (none)))) (Ev.congr hb fun k => ?_)) hgo), ?_⟩
    ·rw [if_neg (by omega), if_pos (by omega), if_pos (by simp; omega), I1 hjq, Ik (by omega) (by omega)]
     show AN.l0 k _ kq.id top _ = _
     rw [hkqi];simp
    ·rw [hbt];constructor
     ·intro h;exact E6.iff.2 (.inr ⟨q, hp, h⟩)
     ·intro h;rcases E6.iff.1 h with h | ⟨p, hp3, h⟩
      ·exact absurd h e
      ·have h4 : CG ks cur = some p := hp3;rw [hp] at h4;injection h4 with h4
       rw [h4]; exact h
theorem LJ (I : CQ ks) (hl : ks.length <= 1000000) {cur : Int} (hc : cur ∈ ks.map (·.id)) (top : Int) : ∃ b, Ev (fun k => AN.f k (ks.map As) cur top) b /\ (b = true ↔ E6 ks cur top) := by
 obtain ⟨d, hd⟩ := I.rank;exact MM I hl hd top (d cur) cur [] (Nat.le_refl _) hc List.nodup_nil (fun v h => by cases h)
theorem I3 {f : Int -> B8} (l : List DD) (n0 : Int) (a : Int) (b c : ByteArray) (s0 : List B8) (a' : Int) (b' c' : ByteArray) : ∀ (r done : List Int), (∀ y ∈ r, Ev (fun k => Ay.f k l y) ((f y).f0, (f y).f1, (f y).f2, (f y).f3)) -> done.length + r.length <= 1000000 ->
    Ev (fun k => Ay.l0 k l (done.length : Int) n0 a b c s0 (done ++ r) a' b' c' (done.map f)) (a', b', c', (done ++ r).map f)
  | [], done, _, _ => Ev.step (Ev.of fun k => by rw [Ay.l0, if_neg (by simp)]; simp)
  | y :: r, done, h, hn => by
    simp only [PX] at hn;have ih := I3 (f := f) l n0 a b c s0 a' b' c' r (done ++ [y]) (fun z hz => h z (by simp [hz])) (by simp; omega);have e3 : ((done ++ [y]).length : Int) = (done.length : Int) + 1 := by simp
    have e4 : done ++ [y] ++ r = done ++ y :: r := by simp
    rw [e3, e4, List.map_append] at ih;have ey : (⟨(f y).f0, (f y).f1, (f y).f2, (f y).f3⟩ : B8) = f y := by cases f y; rfl
    refine Ev.step (Ev.congr (Ev.bind (h y (by simp)) (f := fun k bt228 => (if (done.map f).length < 2199023255552 then (Ay.l0 k l ((done.length : Int) + 1) n0 a b c s0 (done ++ y :: r) a' b' c' (done.map f ++ [(⟨bt228.1, bt228.2.1, bt228.2.2.1, bt228.2.2.2⟩ : B8)])) else (none))) (Ev.congr ih fun k => ?_)) fun k => ?_)
    · rw [if_pos (by rw [PM]; omega)];dsimp only;rw [ey];rfl
    · show Ay.l0 (k + 1) _ _ _ _ _ _ _ _ _ _ _ _ = _
      rw [Ay.l0, if_pos (by simp; omega), if_pos (by omega), GH, Ik (by omega) (by omega)]
theorem MN (I : CQ ks) (hl : ks.length <= 1000000) : ∀ k ∈ ks, Ev (fun n => Ay.f n (ks.map As) k.id) ((BH ks k.id).f0, (BH ks k.id).f1, (BH ks k.id).f2, (BH ks k.id).f3) := by
 obtain ⟨d, hd⟩ := I.rank;obtain ⟨M, hM⟩ : ∃ M, ∀ k ∈ ks, d k.id <= M := by
  clear hd hl I
  induction ks with
  | nil => exact ⟨0, fun h hh => by cases hh⟩
  | cons x r ih =>
   obtain ⟨M, hM⟩ := ih;refine ⟨max M (d x.id), fun h hh => ?_⟩;rcases Qg.1 hh with e | hh
   ·rw [e]; exact Nat.le_max_right _ _
   ·exact Qo (hM h hh) (Nat.le_max_left _ _)
 have key : ∀ (m : Nat) (k : Kn), k ∈ ks -> M + 1 - d k.id <= m -> Ev (fun n => Ay.f n (ks.map As) k.id) ((BH ks k.id).f0, (BH ks k.id).f1, (BH ks k.id).f2, (BH ks k.id).f3) := by
  intro m
  induction m with
  | zero => intro k hk h; have := hM k hk; omega
  | succ m ih =>
   intro k hk hm;obtain ⟨j, k', hj, hki, hg, hpl, hjl⟩ := Cp I (PF.2 ⟨k, hk, rfl⟩);have hkk : k' = k := Eu I.nodup (Pm hj) hk hki;subst hkk;have hf := Jf k'.id (ks.map As) (by simpa using hl);rw [Jh, hpl] at hf;rw [EQ I hk];have hL := I3 (f := BH ks) (ks.map As) (As k').f0 (As k').f1.f0 (As k').f1.f1 (As k').f1.f2 (As k').f1.f3 k'.kind k'.text k'.trail k'.kids [] (fun y hy => by
    obtain ⟨z, hz, e1, e2⟩ := I.kids k' hk y hy;have h3 := hd z hz _ e2;have h4 := hM z hz;have := ih z hz (by omega);rw [e1] at this;exact this) (by have := I.kidsLen hk; simp; omega)
   refine Ev.step (Ev.congr (Ev.bind hf (f := fun k t223 => (if 0 <= t223 then (if t223 < ((ks.map As).length : Int) then (Ay.l0 k (ks.map As) 0 ((Ai (ks.map As) t223).f0) ((Ai (ks.map As) t223).f1.f0) ((Ai (ks.map As) t223).f1.f1) ((Ai (ks.map As) t223).f1.f2) ((Ai (ks.map As) t223).f1.f3) ((Ai (ks.map As) t223).f2) ((Ai (ks.map As) t223).f1.f0) ((Ai (ks.map As) t223).f1.f1) ((Ai (ks.map As) t223).f1.f2) ([] : List (B8))) else (none)) else (none))) (Ev.congr hL fun k => ?_)) fun k => by rw [Ay.f]);rw [if_pos (by omega), if_pos (by simp; omega), I1 hj];rfl
 exact fun k hk => key (M + 1) k hk (by omega)
theorem EB : ∀ {ks : List Kn}, (ks.map (·.id)).Nodup -> ∀ {j : Nat} {k : Kn} {f : Kn -> Kn}, ks[j]? = some k -> BN ks k.id f = ks.set j (f k)
 | [], _, j, k, f, h => by simp at h
 | x :: r, hn, 0, k, f, h => by
  simp only [QR, QA] at h;subst h;rw [Py, Qn] at hn;have := KA (g := r) (i := x.id) (f := f) hn.1;unfold BN at this ⊢;rw [Py, if_pos rfl, this];rfl
 | x :: r, hn, j + 1, k, f, h => by
  rw [Py, Qn] at hn;have h2 : r[j]? = some k := by simpa using h
  have ih := EB hn.2 (f := f) h2;unfold BN at ih ⊢;rw [Py, ih, if_neg (fun e => hn.1 (by rw [e]; exact PF.2 ⟨k, Pm h2, rfl⟩))];rfl
theorem GJ : ∀ {ks : List Kn}, (ks.map (·.id)).Nodup -> ∀ {j : Nat} {k : Kn}, ks[j]? = some k -> ks.filter (fun y => decide (y.id ≠ k.id)) = ks.take j ++ ks.drop (j + 1)
 | [], _, j, k, h => by simp at h
 | x :: r, hn, 0, k, h => by
  simp only [QR, QA] at h;subst h;rw [Py, Qn] at hn;rw [QB (by simp)];simp only [List.take_zero, Pu, List.drop_succ_cons, List.drop_zero];refine List.filter_eq_self.2 fun y hy => ?_
  simp only [decide_eq_true_eq];intro e;exact hn.1 (by rw [<- e]; exact PF.2 ⟨y, hy, rfl⟩)
 | x :: r, hn, j + 1, k, h => by
  rw [Py, Qn] at hn;have h2 : r[j]? = some k := by simpa using h
  have ih := GJ hn.2 h2;rw [Qv (by simp only [decide_eq_true_eq]; intro e; exact hn.1 (by rw [e]; exact PF.2 ⟨k, Pm h2, rfl⟩)), ih];rfl
end
end Go.Proofs.Q
