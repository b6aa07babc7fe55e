/- The texts of this claim that lie below its row, in their order: WLast WQPut WApart WArr WZeros WFoot WKept WShare WN WNEv WMore MWords MSL MSM. -/
import Derived.OrdersHeld
import Derived.Deep.RegionHeld3
import Derived.Laws.BitsLemmas
import Derived.RowKit
import Derived.Test.YtfmlpkeaiohknaaZA0
set_option linter.unusedVariables false
set_option linter.unusedSimpArgs false
open Array renaming getElem?_eq_some_iff -> R3, getElem?_eq_none -> RI, setIfInBounds_comm -> Sx
open Bool renaming false -> BK, and_eq_true -> PI, or_eq_true -> Rg
open Go renaming Program -> Qc, World -> Pe, mem_ready -> Sh, Value -> Pd, ready_mono -> RU, yielded -> QP, undef -> Pc, execOp -> Rz, Operand -> Rt, TypeId -> Q9, wpList -> QD, bytes -> Qz
open Go.Builtin renaming max2 -> QS, min2 -> QT, max_ -> Rk, min_ -> Rl
open Go.Oper renaming wp -> QE
open Go.Region renaming Mode -> Qr, binds -> Qt, ready -> Qe, noSelect -> Sj, free -> Sq, wanted -> PR
open Go.RowKit.Below renaming refl -> Pn, heap_setCell -> QI
open Go.Value renaming ownBlock -> PT
open Go.World renaming block_lt_of_cell? -> Pb, cell? -> Sk, setCell -> SD
open Iff renaming rfl -> RY
open Int renaming toNat_natCast -> PO
open List renaming range -> Rw, all_eq_true -> Q7, mem_cons -> Qg, length_zipIdx -> Sb, getElem?_eq_some_iff -> Pf, getElem?_eq_getElem -> Pg, getElem?_eq_none -> QC, getD_eq_getElem?_getD -> Pt, length_append -> PK, getElem?_append_left -> PQ, getElem?_append_right -> PY, getElem?_take -> PW, foldlM_cons -> QW, foldlM_nil -> R4
open Nat renaming lt_or_ge -> Rj, zero_add -> R1, le_refl -> Ps, le_trans -> Qo, le_mul_of_pos_right -> QO, lt_of_lt_of_le -> QU, zero_le -> Qa
open Ne renaming symm -> Ry
open Option renaming map_eq_some_iff -> Qb
open Option.some renaming inj -> Px
open Prod.mk renaming injEq -> QQ
-- PRINTED BY print.sh 35421559b90ae4d0a3588c463048766b98c2df88dd9212a6774a882060cdf62d: not written by this session
namespace Go.Proofs.V.Last
section
variable {P : Qc} {ops : Array Oper} {Q : Exit -> Act -> Pe -> Prop} {md : Qr} {S : Pe -> Prop} {ds : List Nat}
def Region.reachB (md : Qr) (ops : Array Oper) (i : Nat) : Nat -> Nat -> Bool
 | 0, _ => BK
 | fuel + 1, d => match ops[d]? with
  | some o => o.after.any fun e => Qt md e && (e.on == i || Region.reachB md ops i fuel e.on)
  | none => BK
def Region.closedB (md : Qr) (ops : Array Oper) (listed : Array Bool) : Bool :=
 (Rw ops.size).all fun j => !listed.getD j BK || match ops[j]? with
  | some o => o.after.all fun e => !Region.binds md e || listed.getD e.on BK
  | none => true
def Region.lastB (md : Qr) (ops : Array Oper) (listed : Array Bool) (ds : List Nat) (i : Nat) : Bool :=
 ds.all fun d => listed.getD d true || Region.reachB md ops i ops.size d
def Cr (md : Qr) (ops : Array Oper) (listed : Array Bool) : Prop :=
 ∀ j oj, ops[j]? = some oj -> listed.getD j BK = true -> ∀ e ∈ oj.after, Qt md e = true -> listed.getD e.on BK = true
theorem Region.closedB_spec {listed : Array Bool} (h : Region.closedB md ops listed = true) : Cr md ops listed := by
 intro j oj hj hl e he hb;have hlt : j < ops.size := (R3.1 hj).1;have h1 := Q7.1 h j (List.mem_range.2 hlt);simp only [hl, hj, Bool.not_true, Bool.false_or] at h1;have h2 := Array.all_eq_true_iff_forall_mem.1 h1 e he;simpa [hb] using h2
theorem Cr.set {listed : Array Bool} {i : Nat} (h : Cr md ops listed) (hi : i ∈ Qe md ops listed) : Cr md ops (listed.setIfInBounds i true) := by
 obtain ⟨_, oi, hoi, hall⟩ := Sh.1 hi;intro j oj hj hl e he hb;by_cases hij : i = j
 ·subst hij;have : oj = oi := Px (hj.symm.trans hoi);subst this;exact getD_set_true (hall e he hb)
 ·rw [getD_set_ne BK hij] at hl;exact getD_set_true (h j oj hj hl e he hb)
theorem Region.reach_listed {listed : Array Bool} {i : Nat} (hc : Cr md ops listed) : ∀ (fuel d : Nat), Region.reachB md ops i fuel d = true -> listed.getD d BK = true -> listed.getD i BK = true
 | 0, _, h, _ => by simp [Region.reachB] at h
 | fuel + 1, d, h, hl => by
  unfold Region.reachB at h;cases ho : ops[d]? with
  | none => rw [ho] at h; simp at h
  | some o =>
   rw [ho] at h;obtain ⟨e, he, h1⟩ := Array.any_eq_true'.1 h;simp only [PI, Rg, beq_iff_eq] at h1;have hle := hc d o ho hl e he h1.1;rcases h1.2 with h2 | h2
   ·rw [<- h2]; exact hle
   ·exact Region.reach_listed hc fuel e.on h2 hle
theorem Region.reach_not_ready {listed : Array Bool} {i d fuel : Nat} (hc : Cr md ops listed) (hr : Region.reachB md ops i fuel d = true) (hun : listed.getD i true = BK) : d ∉ Qe md ops listed := by
 intro hd;obtain ⟨_, o, ho, hall⟩ := Sh.1 hd;have hi : listed.getD i BK = true := by
  cases fuel with
  | zero => simp [Region.reachB] at hr
  | succ n =>
   unfold Region.reachB at hr;rw [ho] at hr;obtain ⟨e, he, h1⟩ := Array.any_eq_true'.1 hr;simp only [PI, Rg, beq_iff_eq] at h1;have hle := hall e he h1.1;rcases h1.2 with h2 | h2
   ·rw [<- h2]; exact hle
   ·exact Region.reach_listed hc n e.on h2 hle
 rcases Rj i listed.size with h' | h'
 ·simp [h'] at hun hi;rw [hun] at hi;cases hi
 ·simp [RI h'] at hun
def Bi (P : Qc) (md : Qr) (ops : Array Oper) (Q : Exit -> Act -> Pe -> Prop) (S : Pe -> Prop) (ds : List Nat) : Nat -> Array Bool -> Act -> Pe -> Prop
 | 0, listed, a, w => Qe md ops listed = [] /\ Q .normal a w
 | fuel + 1, listed, a, w =>
  (Qe md ops listed = [] -> Q .normal a w) /\
  ∀ i ∈ Qe md ops listed, wpOp P ops Q i (fun a' w' => (i ∉ ds -> S w -> S w') /\ Bi P md ops Q S ds fuel (listed.setIfInBounds i true) a' w') a w
theorem EW : ∀ (fuel : Nat) (listed : Array Bool) (a : Act) (w : Pe), Bi P md ops Q S ds fuel listed a w -> wpAny P md ops Q fuel listed a w
 | 0, _, _, _, h => h
 | fuel + 1, _, _, _, h => ⟨h.1, fun i hi => wpOp_mono (fun a' w' h' => EW fuel _ a' w' h'.2) (h.2 i hi)⟩
theorem Gb {i : Nat} {oi : Oper} {v : Pd} (hi : ops[i]? = some oi) (hsel : ∀ (j : Nat) (o : Oper) cs b, ops[j]? = some o -> o.op ≠ .select cs b)
  (hQ : ∀ c a w, Q (.panic c) (a.put oi.dst v) w -> Q (.panic c) a w) (n : Nat) :
  ∀ (fuel : Nat) (listed : Array Bool) (a : Act) (w : Pe),
   (∀ j oj, ops[j]? = some oj -> j ≠ i -> listed.getD j true = BK -> (∀ e ∈ oj.after, Qt md e = true -> e.on ≠ i) -> oi.apart ops oj = true) ->
   Cr md ops listed -> (∀ d ∈ ds, listed.getD d true = BK -> Region.reachB md ops i n d = true) ->
   i ∈ Qe md ops listed -> YieldsIf P ops S oi v a -> S w ->
   Bi P md ops Q S ds fuel (listed.setIfInBounds i true) (a.put oi.dst v) w -> Bi P md ops Q S ds (fuel + 1) listed a w := by
 intro fuel
 induction fuel with
 | zero =>
  intro listed a w _ _ _ hr hy hS H;refine ⟨fun h => (by rw [h] at hr; cases hr), fun j hj => ?_⟩;by_cases hji : j = i
  ·subst hji; exact hy.wpOp hi hS ⟨fun _ h => h, H⟩
  ·have := RU hj hji;rw [H.1] at this;cases this
 | succ fuel ih =>
  intro listed a w hfree hc hd hr hy hS H;refine ⟨fun h => (by rw [h] at hr; cases hr), fun j hj => ?_⟩;by_cases hji : j = i
  ·subst hji; exact hy.wpOp hi hS ⟨fun _ h => h, H⟩
  ·have h1 := H.2 j (RU hj hji);obtain ⟨hjun, oj, hoj, hall⟩ := Sh.1 hj;have hiun := (Sh.1 hr).1;have hnot : ∀ e ∈ oj.after, Qt md e = true -> e.on ≠ i := fun e he hb heq => by
    have h1 := hall e he hb;rw [heq] at h1;rcases Rj i listed.size with h' | h'
    ·simp [h'] at hiun h1; rw [hiun] at h1; cases h1
    ·simp [RI h'] at h1
   have hjd : j ∉ ds := fun hm => Region.reach_not_ready hc (hd j hm hjun) hiun hj
   have h2 := wpOp_putIf hoj (hfree j oj hoj hji hjun hnot) (fun cs b => hsel i oi cs b hi) (fun cs b => hsel j oj cs b hoj) hQ hy h1;have hfree' : ∀ k ok, ops[k]? = some ok -> k ≠ i -> (listed.setIfInBounds j true).getD k true = BK ->
     (∀ e ∈ ok.after, Qt md e = true -> e.on ≠ i) -> oi.apart ops ok = true := fun k ok hk hki hun hno => by
    refine hfree k ok hk hki ?_ hno;by_cases hjk : j = k
    ·subst hjk; exact hjun
    ·rw [getD_set_ne true hjk] at hun; exact hun
   have hd' : ∀ d ∈ ds, (listed.setIfInBounds j true).getD d true = BK -> Region.reachB md ops i n d = true := fun d hm hun => by
    refine hd d hm ?_;by_cases hjk : j = d
    ·subst hjk; exact hjun
    ·rw [getD_set_ne true hjk] at hun; exact hun
   refine wpOp_mono (fun a' w' h3 => ⟨h3.2.1, ih (listed.setIfInBounds j true) a' w' hfree' (hc.set hj) hd' (RU hr (Ry hji)) h3.1 (h3.2.1 hjd hS) ?_⟩) h2;rw [Sx _ _ hji];exact h3.2.2
theorem Ha {i : Nat} {oi : Oper} {v : Pd} (hi : ops[i]? = some oi) (hsel : ∀ (j : Nat) (o : Oper) cs b, ops[j]? = some o -> o.op ≠ .select cs b)
  (hQ : ∀ c a w, Q (.panic c) (a.put oi.dst v) w -> Q (.panic c) a w) :
  ∀ (fuel : Nat) (listed : Array Bool) (a : Act) (w : Pe),
   (∀ j oj, ops[j]? = some oj -> j ≠ i -> listed.getD j true = BK -> (∀ e ∈ oj.after, Qt md e = true -> e.on ≠ i) -> oi.apart ops oj = true) ->
   i ∈ Qe md ops listed -> Yields P ops oi v a ->
   Bi P md ops Q S ds fuel (listed.setIfInBounds i true) (a.put oi.dst v) w -> Bi P md ops Q S ds (fuel + 1) listed a w := by
 intro fuel
 induction fuel with
 | zero =>
  intro listed a w _ hr hy H;refine ⟨fun h => (by rw [h] at hr; cases hr), fun j hj => ?_⟩;by_cases hji : j = i
  ·subst hji; exact (hy.yieldsIf (S := fun _ => True)).wpOp hi trivial ⟨fun _ h => h, H⟩
  ·have := RU hj hji;rw [H.1] at this;cases this
 | succ fuel ih =>
  intro listed a w hfree hr hy H;refine ⟨fun h => (by rw [h] at hr; cases hr), fun j hj => ?_⟩;by_cases hji : j = i
  ·subst hji; exact (hy.yieldsIf (S := fun _ => True)).wpOp hi trivial ⟨fun _ h => h, H⟩
  ·have h1 := H.2 j (RU hj hji);obtain ⟨hjun, oj, hoj, hall⟩ := Sh.1 hj;have hiun := (Sh.1 hr).1;have hnot : ∀ e ∈ oj.after, Qt md e = true -> e.on ≠ i := fun e he hb heq => by
    have h1 := hall e he hb;rw [heq] at h1;rcases Rj i listed.size with h' | h'
    ·simp [h'] at hiun h1; rw [hiun] at h1; cases h1
    ·simp [RI h'] at h1
   have h2 := wpOp_put hoj (hfree j oj hoj hji hjun hnot) (fun cs b => hsel i oi cs b hi) (fun cs b => hsel j oj cs b hoj) hQ hy h1;have hfree' : ∀ k ok, ops[k]? = some ok -> k ≠ i -> (listed.setIfInBounds j true).getD k true = BK ->
     (∀ e ∈ ok.after, Qt md e = true -> e.on ≠ i) -> oi.apart ops ok = true := fun k ok hk hki hun hno => by
    refine hfree k ok hk hki ?_ hno;by_cases hjk : j = k
    ·subst hjk; exact hjun
    ·rw [getD_set_ne true hjk] at hun; exact hun
   refine wpOp_mono (fun a' w' h3 => ⟨h3.2.1, ih (listed.setIfInBounds j true) a' w' hfree' (RU hr (Ry hji)) h3.1 ?_⟩) h2;rw [Sx _ _ hji];exact h3.2.2
theorem Gn {i : Nat} {oi : Oper} {v : Pd} {fuel : Nat} {listed : Array Bool} {a : Act} {w : Pe} (hi : ops[i]? = some oi)
  (hs : Sj ops = true) (hf : Sq md ops listed i = true) (hr : (Qe md ops listed).contains i = true)
  (hc : Region.closedB md ops listed = true) (hl : Region.lastB md ops listed ds i = true)
  (hQ : ∀ c a w, Q (.panic c) (a.put oi.dst v) w -> Q (.panic c) a w) (hy : YieldsIf P ops S oi v a) (hS : S w)
  (h : Bi P md ops Q S ds fuel (listed.setIfInBounds i true) (a.put oi.dst v) w) : Bi P md ops Q S ds (fuel + 1) listed a w :=
 Gb hi (Region.noSelect_spec hs) hQ ops.size fuel listed a w (Region.free_spec hi hf) (Region.closedB_spec hc)
  (fun d hm hun => by have := Q7.1 hl d hm; rw [hun] at this; simpa using this) (by simpa using hr) hy hS h
theorem Hb {rs : List Nat} {fuel : Nat} {listed : Array Bool} {a : Act} {w : Pe} (hr : Qe md ops listed = rs) (hne : rs ≠ [])
  (h : ∀ i ∈ rs, wpOp P ops Q i (fun a' w' => (i ∉ ds -> S w -> S w') /\ Bi P md ops Q S ds fuel (listed.setIfInBounds i true) a' w') a w) : Bi P md ops Q S ds (fuel + 1) listed a w :=
 ⟨fun h0 => absurd (hr ▸ h0) hne, hr ▸ h⟩
theorem Gp {listed : Array Bool} {a : Act} {w : Pe} (hr : Qe md ops listed = []) (h : Q .normal a w) :
  ∀ fuel, Bi P md ops Q S ds fuel listed a w
 | 0 => ⟨hr, h⟩
 | _ + 1 => ⟨fun _ => h, by rw [hr]; simp⟩
theorem Gq {id : Nat} {a : Act} {w : Pe} (hm : P.follows .mixedOrders = true)
  (h : Bi P .any ops Q S ds ops.size (Array.replicate ops.size BK) a { w with drawn := w.drawn + 1 }) : (Code.region id ops true).wp P Q a w :=
 wp_region_any hm (EW _ _ _ _ h)
end
section
variable {P : Qc} {ops : Array Oper} {Q : Exit -> Act -> Pe -> Prop} {md : Qr} {S : Pe -> Prop} {ds : List Nat}
def Cb (P : Qc) (md : Qr) (ops : Array Oper) (Q : Exit -> Act -> Pe -> Prop) (S : Pe -> Prop) (ds : List Nat) (fuel : Nat) (listed : Array Bool) (a : Act) (w : Pe) (rs : List Nat) : Prop :=
 ∀ i ∈ rs, wpOp P ops Q i (fun a' w' => (i ∉ ds -> S w -> S w') /\ Bi P md ops Q S ds fuel (listed.setIfInBounds i true) a' w') a w
theorem Cb.nil {fuel : Nat} {listed : Array Bool} {a : Act} {w : Pe} : Cb P md ops Q S ds fuel listed a w [] := fun _ h => by cases h
theorem Cb.cons {fuel : Nat} {listed : Array Bool} {a : Act} {w : Pe} {i : Nat} {o : Oper} {rs : List Nat} (ho : ops[i]? = some o) (hd : i ∉ ds)
  (h : ∀ K' : Act -> Pe -> Prop, Shut (∀ a w, S w -> (S w -> Bi P md ops Q S ds fuel (listed.setIfInBounds i true) a w) -> K' a w) -> if PR o (QP ops a.tmps) = true then QE P o a w K' Q else K' (a.put o.dst Pc) w)
  (hs : Cb P md ops Q S ds fuel listed a w rs) : Cb P md ops Q S ds fuel listed a w (i :: rs) := fun j hj => by
 rcases Qg.1 hj with rfl | hj
 ·exact wpOp_step ho (fun K' hK => h K' (fun a w hS hW => hK a w ⟨fun _ _ => hS, hW hS⟩))
 ·exact hs j hj
theorem Cb.cons_last {fuel : Nat} {listed : Array Bool} {a : Act} {w : Pe} {i : Nat} {o : Oper} {rs : List Nat} (ho : ops[i]? = some o) (hd : i ∈ ds)
  (h : ∀ K' : Act -> Pe -> Prop, Shut (∀ a w, Bi P md ops Q S ds fuel (listed.setIfInBounds i true) a w -> K' a w) -> if PR o (QP ops a.tmps) = true then QE P o a w K' Q else K' (a.put o.dst Pc) w)
  (hs : Cb P md ops Q S ds fuel listed a w rs) : Cb P md ops Q S ds fuel listed a w (i :: rs) := fun j hj => by
 rcases Qg.1 hj with rfl | hj
 ·exact wpOp_step ho (fun K' hK => h K' (fun a w hW => hK a w ⟨fun hn => absurd hd hn, hW⟩))
 ·exact hs j hj
theorem Ec {rs : List Nat} {fuel : Nat} {listed : Array Bool} {a : Act} {w : Pe} (hr : Qe md ops listed = rs) (hne : rs ≠ [])
  (h : Cb P md ops Q S ds fuel listed a w rs) : Bi P md ops Q S ds (fuel + 1) listed a w := Hb hr hne h
theorem Cu {id n : Nat} {a : Act} {w : Pe} (l : Array Bool) (hm : P.follows .mixedOrders = true) (hn : ops.size = n) (hl : Array.replicate n BK = l) (hS : S w.drew)
  (h : S w.drew -> Bi P .any ops Q S ds n l a w.drew) : (Code.region id ops true).wp P Q a w := by
 subst hn;subst hl;exact Gq hm (h hS)
def IM (md : Qr) (ops : Array Oper) (ds : List Nat) (l l' : Array Bool) (i : Nat) : Bool :=
 Sj ops && Sq md ops l i && (Qe md ops l).contains i && Region.closedB md ops l && Region.lastB md ops l ds i && (l.setIfInBounds i true == l')
theorem take_ {i : Nat} {N : Option Tmp} {oi : Oper} {v : Pd} {fuel : Nat} {l : Array Bool} {a : Act} {w : Pe} (l' : Array Bool) (hi : ops[i]? = some oi) (hN : oi.dst = N) (hc : IM md ops ds l l' i = true)
  (hQ : ∀ c a w, Q (.panic c) (a.put oi.dst v) w -> Q (.panic c) a w) (hy : YieldsIf P ops S oi v a) (hS : S w) {a' : Act} (ha : a.put N v = a')
  (h : Bi P md ops Q S ds fuel l' a' w) : Bi P md ops Q S ds (fuel + 1) l a w := by
 subst ha;subst hN;simp only [IM, PI, beq_iff_eq] at hc;obtain ⟨⟨⟨⟨⟨h1, h2⟩, h3⟩, h4⟩, h5⟩, h6⟩ := hc;subst h6;exact Gn hi h1 h2 h3 h4 h5 hQ hy hS h
def Nd (md : Qr) (ops : Array Oper) (l l' : Array Bool) (i : Nat) : Bool :=
 Sj ops && Sq md ops l i && (Qe md ops l).contains i && (l.setIfInBounds i true == l')
theorem AM {i : Nat} {N : Option Tmp} {oi : Oper} {v : Pd} {fuel : Nat} {l : Array Bool} {a : Act} {w : Pe} (l' : Array Bool) (hi : ops[i]? = some oi) (hN : oi.dst = N) (hc : Nd md ops l l' i = true)
  (hQ : ∀ c a w, Q (.panic c) (a.put oi.dst v) w -> Q (.panic c) a w) (hy : Yields P ops oi v a) {a' : Act} (ha : a.put N v = a')
  (h : Bi P md ops Q S ds fuel l' a' w) : Bi P md ops Q S ds (fuel + 1) l a w := by
 subst ha;subst hN;simp only [Nd, PI, beq_iff_eq] at hc;obtain ⟨⟨⟨h1, h2⟩, h3⟩, h6⟩ := hc;subst h6;exact Ha hi (Region.noSelect_spec h1) hQ fuel l a w (Region.free_spec hi h2) (by simpa using h3) hy h
def FC (md : Qr) (ops : Array Oper) (l l' : Array Bool) (i : Nat) : Bool := (Qe md ops l == [i]) && (l.setIfInBounds i true == l')
theorem DC {i : Nat} {N : Option Tmp} {oi : Oper} {fuel : Nat} {l : Array Bool} {a : Act} {w : Pe} (l' : Array Bool) (hi : ops[i]? = some oi) (hN : oi.dst = N) (hc : FC md ops l l' i = true) (hd : i ∉ ds)
  (h : ∀ K : Act -> Pe -> Prop, Shut (∀ a' w', S w' -> (S w' -> Bi P md ops Q S ds fuel l' a' w') -> K a' w') -> if PR oi (QP ops a.tmps) = true then QE P oi a w K Q else K (a.put N Pc) w) :
  Bi P md ops Q S ds (fuel + 1) l a w := by
 subst hN;simp only [FC, PI, beq_iff_eq] at hc;obtain ⟨h1, h2⟩ := hc;subst h2;exact Ec h1 (by simp) (Cb.cons hi hd (fun K hK => h K hK) Cb.nil)
theorem NL {i : Nat} {N : Option Tmp} {oi : Oper} {fuel : Nat} {l : Array Bool} {a : Act} {w : Pe} (l' : Array Bool) (hi : ops[i]? = some oi) (hN : oi.dst = N) (hc : FC md ops l l' i = true) (hd : i ∈ ds)
  (h : ∀ K : Act -> Pe -> Prop, Shut (∀ a' w', Bi P md ops Q S ds fuel l' a' w' -> K a' w') -> if PR oi (QP ops a.tmps) = true then QE P oi a w K Q else K (a.put N Pc) w) :
  Bi P md ops Q S ds (fuel + 1) l a w := by
 subst hN;simp only [FC, PI, beq_iff_eq] at hc;obtain ⟨h1, h2⟩ := hc;subst h2;exact Ec h1 (by simp) (Cb.cons_last hi hd (fun K hK => h K hK) Cb.nil)
theorem Fi {l : Array Bool} {a : Act} {w : Pe} {n : Nat} (hr : (Qe md ops l == []) = true) (h : Q .normal a w) : Bi P md ops Q S ds n l a w := Gp (by simpa using hr) h n
theorem CF {fuel : Nat} {l : Array Bool} {a a' : Act} {w : Pe} (ha : a = a') (h : Bi P md ops Q S ds fuel l a' w) : Bi P md ops Q S ds fuel l a w := by
 subst ha;exact h
theorem OB {oi : Oper} {N : Option Tmp} {a : Act} {w : Pe} {K : Act -> Pe -> Prop} (f : FuncId) (args : Array Pd) (hw : PR oi (QP ops a.tmps) = true) (hN : oi.dst = N) (hrun : (Rz a.eval oi).run P w = .ok (.enter f args) w)
  (h : Calls P f args w fun e w' => ∃ v, e = .returned v /\ K (a.put N v) w') : if PR oi (QP ops a.tmps) = true then QE P oi a w K Q else K (a.put N Pc) w := by
 rw [if_pos hw];subst hN;unfold QE;rw [hrun, Oper.upon_enter];refine h.mono fun e w'' hh => ?_
 obtain ⟨v, rfl, hk⟩ := hh;exact hk
theorem Kf {f : FuncId} {fn : Func} (hf : P.funcs[f]? = some fn) (hname : (fn.name == "runtime.NumGoroutine") = BK) (hb : fn.body.isSome = true) (args : Array Pd) (w : Pe) : (callFunc f args).run P w = .ok (.enter f args) w := by
 have h1 : fn.name ≠ "runtime.NumGoroutine" := by simpa using hname
 obtain ⟨c, hc⟩ := Option.isSome_iff_exists.1 hb;simp [callFunc, hf, h1, hc]
theorem Du {oi : Oper} {N : Option Tmp} {a : Act} {w : Pe} {K : Act -> Pe -> Prop} {f : FuncId} {fn : Func} {as : Array Rt} {ts : Array Q9} (hf : P.funcs[f]? = some fn) (hname : (fn.name == "runtime.NumGoroutine") = BK) (hb : fn.body.isSome = true) (args : Array Pd)
  (hw : PR oi (QP ops a.tmps) = true) (hN : oi.dst = N) (hop : oi.op = .call { callee := .value (.func f), args := as, argTypes := ts }) (hargs : as.map a.eval = args)
  (h : Calls P f args w fun e w' => ∃ v, e = .returned v /\ K (a.put N v) w') : if PR oi (QP ops a.tmps) = true then QE P oi a w K Q else K (a.put N Pc) w := by
 refine OB f args hw hN ?_ h;have he := Kf hf hname hb args w;unfold Rz;simp [hop, resolve, Deferred.ofValue, invoke, Act.eval, hargs, he]
theorem Cv {rest : List Oper} {oi : Oper} {a : Act} {w : Pe} (N : Option Tmp) (hd : oi.dst = N) (hg : oi.guard = none) {f : FuncId} {fn : Func} {as : Array Rt} {ts : Array Q9} (hf : P.funcs[f]? = some fn) (hname : (fn.name == "runtime.NumGoroutine") = BK) (hb : fn.body.isSome = true) (args : Array Pd)
  (hop : oi.op = .call { callee := .value (.func f), args := as, argTypes := ts }) (hargs : as.map a.eval = args)
  (h : Calls P f args w fun e w' => ∃ v, e = .returned v /\ QD P ops Q rest (a.put N v) w') : QD P ops Q (oi :: rest) a w := by
 refine wpList_plain hg fun K hK => ?_
 have he := Kf hf hname hb args w;have hrun : (Rz a.eval oi).run P w = .ok (.enter f args) w := by
  unfold Rz;simp [hop, resolve, Deferred.ofValue, invoke, Act.eval, hargs, he]
 unfold QE;rw [hrun, Oper.upon_enter];refine h.mono fun e w'' hh => ?_
 obtain ⟨v, rfl, hk⟩ := hh;subst hd;exact hK _ _ hk
theorem Be {oi : Oper} {N : Option Tmp} {a : Act} {w w1 : Pe} {v : Pd} {K : Act -> Pe -> Prop} (hw : PR oi (QP ops a.tmps) = true) (hN : oi.dst = N) (hrun : (Rz a.eval oi).run P w = .ok (.value v) w1)
  (h : K (a.put N v) w1) : if PR oi (QP ops a.tmps) = true then QE P oi a w K Q else K (a.put N Pc) w := by
 rw [if_pos hw];subst hN;unfold QE;rw [hrun];exact h
theorem DG {oi : Oper} {a : Act} {w w1 : Pe} {K : Act -> Pe -> Prop} (hw : PR oi (QP ops a.tmps) = true) (hN : oi.dst = none) (hrun : (Rz a.eval oi).run P w = .ok .skip w1)
  (h : K a w1) : if PR oi (QP ops a.tmps) = true then QE P oi a w K Q else K (a.put none Pc) w := by
 rw [if_pos hw];unfold QE;rw [hrun]
 show K (a.put oi.dst Pc) w1
 rw [hN];exact h
theorem Ar (n : Int) : IntKind.i64.wrap n = Go.RowKit.wrap64 n := by unfold Go.RowKit.wrap64; exact IntKind.wrap_i64 n
theorem AB (n : Int) : IntKind.i32.wrap n = Go.RowKit.wrap32 n := by unfold Go.RowKit.wrap32; exact IntKind.wrap_i32 n
end
end Go.Proofs.V.Last
-- PRINTED BY print.sh 35421559b90ae4d0a3588c463048766b98c2df88dd9212a6774a882060cdf62d: not written by this session
namespace Go.Proofs.V.Words
open Go.RowKit
namespace Kd
section
variable {α : Type} {d : Kd α} {e base g o n cap : Nat} {ok okp : Nat -> Prop} {w W : Pe} {v : Pd} {xs : List α}
end
section
variable {α : Type} {enc : α -> Pd} {h1 : ∀ x, (enc x).oneCell' = true} {e base g o n cap : Nat} {ok : Nat -> Prop} {W : Pe} {xs : List α}
end
end Kd
-- PRINTED BY print.sh 35421559b90ae4d0a3588c463048766b98c2df88dd9212a6774a882060cdf62d: not written by this session
namespace Kd
def tag {α : Type} (f : Nat -> Nat) (d : Kd α) : Kd (α × Nat) where
 sz := d.sz
 E := d.E
 K := fun w x cs => d.K w x.1 cs
 M := fun w base ok x cs => d.M w base (fun k => ok k /\ f k = x.2) x.1 cs
 K_len := fun h => d.K_len h
 K_one := fun h => d.K_one h
 K_below := fun hb h => d.K_below hb h
 K_of_M := fun h => d.K_of_M h
 M_mono := fun hok h => d.M_mono (fun k hk => ⟨hok k hk.1, hk.2⟩) h
 M_bound := fun h => d.M_mono (fun _ hk => ⟨⟨hk.1.1, hk.2⟩, hk.1.2⟩) (d.M_bound h)
 M_move := fun hm h => d.M_move (fun k hk => hm k hk.1) h
 M_lower := fun hb h => d.M_lower hb h
def raw (sz : Nat) : Kd (List Pd) where
 sz := sz
 E := []
 K := fun _ x cs => cs = x /\ cs.length = sz /\ ∀ u ∈ cs, u.oneCell' = true
 M := fun _ _ _ x cs => cs = x /\ cs.length = sz /\ ∀ u ∈ cs, u.oneCell' = true
 K_len := fun h => h.2.1
 K_one := fun h => h.2.2
 K_below := fun _ h => h
 K_of_M := fun h => h
 M_mono := fun _ h => h
 M_bound := fun h => h
 M_move := fun _ h => h
 M_lower := fun _ h => h
def S {α : Type} (d : Kd α) (e : Nat) (w : Pe) (base : Nat) (ok : Nat -> Prop) (v : Pd) (xs : List α) : Prop := ∃ f, (tag f d).R e w base ok v xs.zipIdx
section
variable {α β : Type} {d : Kd α} {d' : Kd β} {e e' : Nat} {w w1 W : Pe} {base b : Nat} {ok ok' okv oku : Nat -> Prop} {u v : Pd} {xs : List α} {ys : List β}
theorem zip_at {xs : List α} {j : Nat} {p : α} (h : xs[j]? = some p) : xs.zipIdx[j]? = some (p, j) := by rw [List.getElem?_zipIdx, h, R1]; rfl
theorem S_R (h : S d e w base ok v xs) : d.R e w base ok v xs := by
 obtain ⟨f, h0, inner, ho, hr⟩ := h;rw [Sb] at ho;exact ⟨h0, inner, ho, by have := hr.1; rw [Sb] at this; exact this, fun j p hj => d.M_mono (fun _ hk => hk.1) (hr.2 j (p, j) (zip_at hj))⟩
theorem R_head {ad : Addr} {n cap : Nat} (h : d.R e w base ok (.slice (some ad) n cap) xs) : ∃ g, ad = ⟨g, 0, none⟩ := by
 obtain ⟨_, inner, ho, hr⟩ := h;rcases ho.2 with ⟨hv, _⟩ | ⟨g, cap', cur, hv, _⟩
 ·cases hv
 ·injection hv with ha _ _
  injection ha with ha
  exact ⟨g, ha⟩
theorem R_tight (hE : d.E = []) (h : d.R e w base ok v xs) : d.R e w base (fun k => some k = v.ownBlock) v xs := by
 obtain ⟨h0, inner, ho, hr⟩ := h;refine ⟨fun k hk => hk.symm, inner, ho, hr.imp_ (fun p c hp => d.M_mono (fun k hk => ?_) (d.M_bound hp))⟩;obtain ⟨_, _, _, q, hq, _⟩ := hk;rw [hE] at hq;cases hq
theorem S_nil (d : Kd α) (e : Nat) (w : Pe) (base : Nat) (ok : Nat -> Prop) : S d e w base ok (.slice none 0 0) [] := ⟨fun _ => 0, R_nil _ _ _ _ _⟩
theorem S_bound (h : S d e w base ok v xs) : S d e w base (fun k => ok k /\ base <= k /\ k < w.heap.size /\ ∃ q, q ∈ e :: d.E /\ ∃ cells, w.heap[k]? = some (.cells cells q (0, 0))) v xs := by
 obtain ⟨f, h⟩ := h;exact ⟨f, R_bound h⟩
end
section
variable {α β : Type} {d : Kd α} {d' : Kd β} {e e' g : Nat} {w w1 W : Pe} {base b : Nat} {ok ok' okv oku : Nat -> Prop} {u v : Pd} {xs : List α} {ys : List β}
end
section
variable {P : Qc} {ops : Array Oper} {rest : List Oper} {o : Oper} {a : Act} {Q : Exit -> Act -> Pe -> Prop} {Kc : Act -> Pe -> Prop} {α : Type}
theorem reps_tag {d : Kd α} {w : Pe} {base : Nat} {ok : Nat -> Prop} {xs : List α} {inner : List Pd} (okj : Nat -> Nat -> Prop) (hap : ∀ i j k, okj i k -> okj j k -> i = j) (hok : ∀ j k, okj j k -> ok k)
  (hl : inner.length = xs.length * d.sz) (hrep : ∀ j x, xs[j]? = some x -> d.M w base (okj j) x ((inner.drop (j * d.sz)).take d.sz)) : ∃ f, Cj ((tag f d).M w base ok) d.sz xs.zipIdx inner := by
 refine ⟨fun k => open Classical in if h : ∃ j, okj j k then h.choose else 0, by rw [Sb]; exact hl, fun j p hj => ?_⟩;rw [List.getElem?_zipIdx, R1] at hj;obtain ⟨x, hx, rfl⟩ := Qb.1 hj;refine d.M_mono (fun k hk => ⟨hok j k hk, ?_⟩) (hrep j x hx);have h : ∃ j, okj j k := ⟨j, hk⟩;exact (dif_pos h).trans (hap _ _ k h.choose_spec hk)
end
def gap {α : Type} (f : Nat -> Nat) (d : Kd α) (i : Nat) (c : List Pd) : Kd (α × Nat) where
 sz := d.sz
 E := d.E
 K := fun w x cs => (x.2 = i -> cs = c /\ cs.length = d.sz /\ ∀ u ∈ cs, u.oneCell' = true) /\ (x.2 ≠ i -> d.K w x.1 cs)
 M := fun w base ok x cs => (x.2 = i -> cs = c /\ cs.length = d.sz /\ ∀ u ∈ cs, u.oneCell' = true) /\ (x.2 ≠ i -> d.M w base (fun k => ok k /\ f k = x.2) x.1 cs)
 K_len := fun {w x cs} h => by
  by_cases hx : x.2 = i
  ·exact (h.1 hx).2.1
  ·exact d.K_len (h.2 hx)
 K_one := fun {w x cs} h => by
  by_cases hx : x.2 = i
  ·exact (h.1 hx).2.2
  ·exact d.K_one (h.2 hx)
 K_below := fun hb h => ⟨h.1, fun hx => d.K_below hb (h.2 hx)⟩
 K_of_M := fun h => ⟨h.1, fun hx => d.K_of_M (h.2 hx)⟩
 M_mono := fun hok h => ⟨h.1, fun hx => d.M_mono (fun k hk => ⟨hok k hk.1, hk.2⟩) (h.2 hx)⟩
 M_bound := fun h => ⟨h.1, fun hx => d.M_mono (fun _ hk => ⟨⟨hk.1.1, hk.2⟩, hk.1.2⟩) (d.M_bound (h.2 hx))⟩
 M_move := fun hm h => ⟨h.1, fun hx => d.M_move (fun k hk => hm k hk.1) (h.2 hx)⟩
 M_lower := fun hb h => ⟨h.1, fun hx => d.M_lower hb (h.2 hx)⟩
def H {α : Type} (d : Kd α) (e : Nat) (w : Pe) (base : Nat) (ok : Nat -> Prop) (v : Pd) (xs : List α) (i : Int) (oki : Nat -> Prop) (c : List Pd) : Prop :=
 (∀ k, oki k -> ok k) /\ ∃ f, (gap f d i.toNat c).R e w base (fun k => ok k /\ ¬ oki k) v xs.zipIdx
section
variable {α β : Type} {d : Kd α} {e e' g n cap : Nat} {w w1 W : Pe} {base : Nat} {ok ok' oki okp : Nat -> Prop} {u v : Pd} {xs : List α} {i : Int} {c : List Pd}
end
section
variable {P : Qc} {ops : Array Oper} {rest : List Oper} {o : Oper} {a : Act} {Q : Exit -> Act -> Pe -> Prop} {α : Type}
end
end Kd
-- PRINTED BY print.sh 35421559b90ae4d0a3588c463048766b98c2df88dd9212a6774a882060cdf62d: not written by this session
namespace Kd
section
variable {α : Type} {n : Nat} {d : Kd α} {hs : 0 < d.sz} {w : Pe} {base : Nat} {ok : Nat -> Prop} {xs : List α} {cs : List Pd}
end
section
variable {α : Type} {n : Nat} {enc : α -> Pd} {h1 : ∀ x, (enc x).oneCell' = true} {hs : 0 < (scalar enc h1).sz} {w : Pe} {base : Nat} {ok : Nat -> Prop} {xs : List α} {cs : List Pd}
end
end Kd
-- PRINTED BY print.sh 35421559b90ae4d0a3588c463048766b98c2df88dd9212a6774a882060cdf62d: not written by this session
section
variable {P : Qc}
end
namespace Kd
section
variable {P : Qc} {ops : Array Oper} {rest : List Oper} {o : Oper} {a : Act} {Q : Exit -> Act -> Pe -> Prop} {Kc : Act -> Pe -> Prop} {α : Type}
end
section
variable {α : Type} {d : Kd α} {e : Nat} {w : Pe} {base : Nat} {ok : Nat -> Prop} {v : Pd} {xs : List α}
end
section
variable {P : Qc} {ops : Array Oper} {rest : List Oper} {o : Oper} {a : Act} {Q : Exit -> Act -> Pe -> Prop} {Kc : Act -> Pe -> Prop} {α : Type}
end
end Kd
-- PRINTED BY print.sh 35421559b90ae4d0a3588c463048766b98c2df88dd9212a6774a882060cdf62d: not written by this session
namespace Kd
structure Heap {α : Type} (d : Kd α) : Prop where
 K : ∀ {w w1 : Pe} {x : α} {cs : List Pd}, (∀ k, k < w.heap.size -> w1.heap[k]? = w.heap[k]?) -> d.K w x cs -> d.K w1 x cs
theorem Cc {w w1 : Pe} (hb : ∀ k, k < w.heap.size -> w1.heap[k]? = w.heap[k]?) {a : Addr} {v : Pd} (h : w.cell? a = some v) : w1.cell? a = some v := by
 have := hb a.block (Pb w a h);simpa [Sk, this] using h
theorem Heap.C {α : Type} {d : Kd α} (hd : Heap d) {w w1 : Pe} {A : Option Addr} {n : Nat} {xs : List α} (hb : ∀ k, k < w.heap.size -> w1.heap[k]? = w.heap[k]?) (h : d.C w A n xs) : d.C w1 A n xs :=
 ⟨h.1, h.2.1, fun hn => by
  obtain ⟨ad, e, hc⟩ := h.2.2 hn;refine ⟨ad, e, fun j p hj => ?_⟩;obtain ⟨c, hs, hr, hcell⟩ := hc j p hj;exact ⟨c, hs, hd.K hb hr, fun i u hu => Cc hb (hcell i u hu)⟩⟩
theorem heap_int (k : IntKind) : Heap (Kd.int k) := ⟨fun _ h => h⟩
theorem heap_string : Heap Kd.string := ⟨fun _ h => h⟩
theorem heap_slice {α : Type} {d : Kd α} (e : Nat) (hd : Heap d) : Heap (slice e d) := ⟨by
 rintro w w1 x cs hb ⟨A, c, rfl, hl, hr⟩;exact ⟨A, c, rfl, hl, hd.C hb hr⟩⟩
theorem heap_pair {α β : Type} {a : Kd α} {b : Kd β} (ha : Heap a) (hb' : Heap b) : Heap (pair a b) := ⟨by
 rintro w w1 x cs hb ⟨c0, c1, rfl, h0, h1⟩;exact ⟨c0, c1, rfl, ha.K hb h0, hb'.K hb h1⟩⟩
theorem heap_iso {α β : Type} {d : Kd α} (f : β -> α) (hd : Heap d) : Heap (iso d f) := ⟨fun hb h => hd.K hb h⟩
theorem heap_bot {α : Type} (sz : Nat) (E : List Nat) : Heap (bot sz E : Kd α) := ⟨fun _ h => h⟩
theorem heap_upto {α : Type} {F : Kd α -> Kd α} {sz : Nat} {E : List Nat} (hF : ∀ d, Heap d -> Heap (F d)) : ∀ n, Heap (upto F sz E n)
 | 0 => heap_bot sz E
 | n + 1 => hF _ (heap_upto hF n)
theorem heap_fix {α : Type} {F : Kd α -> Kd α} {sz : Nat} {E : List Nat} {hs : ∀ n, (upto F sz E n).sz = sz} {hE : ∀ n q, q ∈ (upto F sz E n).E -> q ∈ E} (hF : ∀ d, Heap d -> Heap (F d)) : Heap (fix F sz E hs hE) := ⟨by
 rintro w w1 x cs hb ⟨n, h⟩;exact ⟨n, (heap_upto hF n).K hb h⟩⟩
section
variable {α : Type} {d : Kd α} {e base g n c : Nat} {ok : Nat -> Prop} {w w0 W : Pe} {A : Option Addr} {xs : List α}
end
end Kd
-- PRINTED BY print.sh 35421559b90ae4d0a3588c463048766b98c2df88dd9212a6774a882060cdf62d: not written by this session
section
variable {w W W2 : Pe} {S S2 S' : Nat -> Prop}
end
namespace Kd
section
variable {α : Type} {d : Kd α} {e base n c : Nat} {ok oki S S2 : Nat -> Prop} {w w0 W W1 W2 : Pe} {v : Pd} {A : Option Addr} {xs : List α} {i : Int} {cs : List Pd}
end
end Kd
-- PRINTED BY print.sh 35421559b90ae4d0a3588c463048766b98c2df88dd9212a6774a882060cdf62d: not written by this session
def Dv (P : Pe -> Prop) (W : Pe) (ok : Nat -> Prop) : Prop := ∀ W' : Pe, (∀ k, ok k -> k < W.heap.size -> W'.heap[k]? = W.heap[k]?) -> P W'
theorem Nf {W W1 : Pe} {k : Nat} (h : W1.heap[k]? = W.heap[k]?) (hlt : k < W.heap.size) : k < W1.heap.size := by
 rw [Array.getElem?_eq_getElem hlt] at h;exact (R3.1 h).1
namespace Dv
variable {P Q : Pe -> Prop} {W W1 : Pe} {ok ok' : Nat -> Prop}
theorem now (h : Dv P W ok) : P W := h W (fun _ _ _ => rfl)
theorem mono (h : Dv P W ok) (hok : ∀ k, ok k -> ok' k) : Dv P W ok' := fun W' hW => h W' (fun k hk hlt => hW k (hok k hk) hlt)
theorem bound (h : Dv P W ok) : Dv P W (fun k => ok k /\ k < W.heap.size) := fun W' hW => h W' (fun k hk hlt => hW k ⟨hk, hlt⟩ hlt)
theorem step (h : Dv P W ok) (hm : ∀ k, ok k -> k < W.heap.size -> W1.heap[k]? = W.heap[k]?) : Dv P W1 ok := fun W' hW => h W' (fun k hk hlt => (hW k hk (Nf (hm k hk hlt) hlt)).trans (hm k hk hlt))
theorem old (h : Dv P W ok) (hb : Below W.heap.size W W1) : Dv P W1 (fun k => ok k /\ k < W.heap.size) := (h.bound).step (fun k _ hlt => hb.block k hlt)
end Dv
namespace Kd
def F {α : Type} (d : Kd α) (W : Pe) (ok : Nat -> Prop) (A : Option Addr) (n : Nat) (xs : List α) : Prop := Dv (fun W => d.C W A n xs) W ok
def FK {α : Type} (d : Kd α) (W : Pe) (ok : Nat -> Prop) (x : α) (c : List Pd) : Prop := Dv (fun W => d.K W x c) W ok
section
variable {α β : Type} {d : Kd α} {e base n n' cc g N : Nat} {ok ok' okp S : Nat -> Prop} {w w0 w1 W W1 : Pe} {A A' : Option Addr} {u v v1 : Pd} {xs : List α} {xs' : List β} {d' : Kd β} {x : α} {c : List Pd}
theorem F_now (h : F d W ok A n xs) : d.C W A n xs := Dv.now h
theorem F_mono (h : F d W ok A n xs) (hok : ∀ k, ok k -> ok' k) : F d W ok' A n xs := Dv.mono h hok
theorem F_bound (h : F d W ok A n xs) : F d W (fun k => ok k /\ k < W.heap.size) A n xs := Dv.bound h
theorem F_step (h : F d W ok A n xs) (hm : ∀ k, ok k -> k < W.heap.size -> W1.heap[k]? = W.heap[k]?) : F d W1 ok A n xs := Dv.step h hm
theorem F_below (h : F d W ok A n xs) (hb : Below W.heap.size W W1) : F d W1 ok A n xs := F_step h (fun k _ hlt => hb.block k hlt)
theorem F_alloc (h : F d W ok A n xs) (o : Obj) : F d (W.alloc o) ok A n xs := F_below h (Ah (Pn _ _) o)
theorem F_drew (h : F d W ok A n xs) : F d W.drew ok A n xs := F_below h (DW (Pn _ _))
theorem F_drewN (h : F d W ok A n xs) (m : Nat) : F d (W.drewN m) ok A n xs := F_below h (AH (Pn _ _) m)
theorem F_nil (d : Kd α) (W : Pe) (ok : Nat -> Prop) : F d W ok none ([] : List α).length [] := fun W' _ => C_nil d W'
theorem F_elder' (h : F d W ok A n xs) (hbase : ∀ k, v.ownBlock = some k -> W.heap.size <= k) (hb : Below W.heap.size W W1) : F d W1 (fun k => ok k /\ some k ≠ v.ownBlock) A n xs :=
 F_mono (Dv.old h hb) (fun k hk => ⟨hk.1, fun he => by have := hbase k he.symm; have := hk.2; omega⟩)
theorem F_elderB (h : F d W ok A n xs) (a : Nat) (ha : W.heap.size <= a) : F d W (fun k => ok k /\ k ≠ a) A n xs := F_mono (F_bound h) (fun k hk => ⟨hk.1, by have := hk.2; omega⟩)
theorem F_after (h : F d W (fun k => ok k /\ some k ≠ v.ownBlock) A n xs) (hg : W.grownBy W1 v.ownBlock) (hat : v1.ownBlock = v.ownBlock \/ ∃ b, v1.ownBlock = some b /\ W.heap.size <= b) : F d W1 (fun k => ok k /\ some k ≠ v1.ownBlock) A n xs := by
 refine F_mono (Dv.step (F_bound h) (fun k hk hlt => hg.block k hlt hk.1.2)) (fun k hk => ⟨hk.1.1, ?_⟩);rcases hat with hat | ⟨b, hb, hle⟩
 ·rw [hat]; exact hk.1.2
 ·rw [hb];intro he;injection he with he
  have := hk.2;omega
theorem C_F (hd : Heap d) (h : d.C w A n xs) : F d w (fun k => k < w.heap.size) A n xs := fun _ hW => hd.C (fun k hlt => hW k hlt hlt) h
theorem R_F (h : d.R e W base ok (.slice A n cc) xs) : F d W ok A n xs := fun W' hW => by
 have h2 := R_reads' (R_step h hW);rw [h2.1];exact h2.2.2
theorem FK_now (h : FK d W ok x c) : d.K W x c := Dv.now h
theorem FK_mono (h : FK d W ok x c) (hok : ∀ k, ok k -> ok' k) : FK d W ok' x c := Dv.mono h hok
theorem FK_bound (h : FK d W ok x c) : FK d W (fun k => ok k /\ k < W.heap.size) x c := Dv.bound h
theorem FK_step (h : FK d W ok x c) (hm : ∀ k, ok k -> k < W.heap.size -> W1.heap[k]? = W.heap[k]?) : FK d W1 ok x c := Dv.step h hm
theorem FK_of_M (h : d.M W base ok x c) : FK d W ok x c := fun _ hW => d.K_of_M (M_step h hW)
theorem emptied (W : Pe) (g : Nat) : ∃ W' : Pe, (∀ k, k ≠ g -> W'.heap[k]? = W.heap[k]?) /\ ∀ a : Addr, a.block = g -> W'.cell? a = none := by
 refine ⟨{ W with heap := W.heap.setIfInBounds g (.cells #[] 0) }, fun k hk => by simp [Ry hk], fun a ha => ?_⟩;subst ha;by_cases hlt : a.block < W.heap.size
 ·simp [Sk, hlt]
 ·simp [Sk, hlt]
end
end Kd
-- PRINTED BY print.sh 35421559b90ae4d0a3588c463048766b98c2df88dd9212a6774a882060cdf62d: not written by this session
namespace Kd
def chunks (sz : Nat) (n : Nat) (inner : List Pd) : List (List Pd) := (Rw n).map fun j => (inner.drop (j * sz)).take sz
theorem chunks_length (sz n : Nat) (inner : List Pd) : (chunks sz n inner).length = n := by simp [chunks]
theorem chunks_at {sz n : Nat} {inner : List Pd} {j : Nat} (hj : j < n) : (chunks sz n inner)[j]? = some ((inner.drop (j * sz)).take sz) := by simp [chunks, hj]
theorem chunks_get {sz n : Nat} {inner : List Pd} {j : Nat} {c : List Pd} (h : (chunks sz n inner)[j]? = some c) : c = (inner.drop (j * sz)).take sz := by
 have hj : j < n := by have := (Pf.1 h).1; rwa [chunks_length] at this
 rw [chunks_at hj] at h;injection h with h
 exact h.symm
theorem reps_raw {α : Type} {Rr : α -> List Pd -> Prop} {sz : Nat} {xs : List α} {inner : List Pd} (h : Cj Rr sz xs inner) (hR : ∀ x c, Rr x c -> c.length = sz /\ ∀ u ∈ c, u.oneCell' = true) : Cj (fun x cs => cs = x /\ cs.length = sz /\ ∀ u ∈ cs, u.oneCell' = true) sz (chunks sz xs.length inner) inner := by
 refine ⟨by rw [chunks_length]; exact h.1, fun j p hj => ?_⟩;have hjl : j < xs.length := by have := (Pf.1 hj).1; rwa [chunks_length] at this
 have hp := chunks_get hj;exact ⟨hp.symm, hR _ _ (h.2 j _ (Pg hjl))⟩
section
variable {α : Type} {d : Kd α} {e base n cc g : Nat} {ok ok' okp S : Nat -> Prop} {w w1 W W1 : Pe} {A : Option Addr} {u v v1 : Pd} {xs : List α} {x : α} {c : List Pd}
theorem F_get (h : F d W ok A n xs) (z : α) (i : Int) (h0 : 0 <= i) (h1 : i < n) :
  ∃ ad c, A = some ad /\ c.length = d.sz /\ FK d W ok (xs.getD i.toNat z) c /\ (∀ j u, c[j]? = some u -> W.cell? (ad.add (i.toNat * d.sz + j)) = some u) /\ (0 < d.sz -> ok ad.block) := by
 obtain ⟨ad, c, rfl, hcl, hK, hcc⟩ := C_get (F_now h) z i h0 h1;have hin : 0 < d.sz -> ok ad.block := by
  intro hs;by_cases hk : ok ad.block
  ·exact hk
  ·obtain ⟨W', h2, h3⟩ := emptied W ad.block;obtain ⟨ad', c', he, hcl', _, hcc'⟩ := C_get (h W' (fun k hk' _ => h2 k (fun e => hk (e ▸ hk')))) z i h0 h1;injection he with he
   subst he;have h4 := hcc' 0 _ (Pg (by omega));rw [h3 _ (EH _ _)] at h4;cases h4
 refine ⟨ad, c, rfl, hcl, fun W' hW => ?_, hcc, hin⟩;obtain ⟨ad', c', he, hcl', hK', hcc'⟩ := C_get (h W' hW) z i h0 h1;injection he with he
 subst he;have hc : c = c' := by
  apply List.ext_getElem?;intro j;by_cases hj : j < d.sz
  ·have hb : W'.heap[ad.block]? = W.heap[ad.block]? := by
    have h5 := hcc j _ (Pg (by omega));have h6 := Pb W _ h5;rw [EH] at h6;exact hW _ (hin (by omega)) h6
   have h5 := hcc j _ (Pg (by omega));have h6 := hcc' j _ (Pg (by omega));have h7 : W'.cell? (ad.add (i.toNat * d.sz + j)) = W.cell? (ad.add (i.toNat * d.sz + j)) := by simp [Sk, EH, hb]
   rw [h7, h5] at h6;rw [Pg (by omega), Pg (by omega)];exact h6
  ·rw [QC (by omega), QC (by omega)]
 rw [hc];exact hK'
theorem F_rows (h : F d W ok A n xs) : By (fun x c => FK d W ok x c) d.sz W A n xs := by
 obtain ⟨hl, hm, hn⟩ := F_now h;refine ⟨hl, hm, fun hp => ?_⟩;obtain ⟨ad, rfl, _⟩ := hn hp;refine ⟨ad, rfl, fun j p hj => ?_⟩;obtain ⟨hjl, hjp⟩ := Pf.1 hj;obtain ⟨ad', c, he, hcl, hK, hcc, _⟩ := F_get h p (j : Int) (by omega) (by omega);injection he with he
 subst he;simp only [PO] at hK hcc;rw [Pt, hj] at hK;exact ⟨c, hcl, hK, hcc⟩
def N {α : Type} (d : Kd α) (e : Nat) (w : Pe) (base : Nat) (ok : Nat -> Prop) (v : Pd) (xs : List α) : Prop :=
 (∀ k, v.ownBlock = some k -> ok k) /\ ∃ rows : List (List Pd), rows.length = xs.length /\ (raw d.sz).R e w base (fun k => some k = v.ownBlock) v rows /\ ∀ (j : Nat) (x : α) (c : List Pd), xs[j]? = some x -> rows[j]? = some c -> FK d w (fun k => ok k /\ some k ≠ v.ownBlock) x c
theorem raw_tight {sz : Nat} {rows : List (List Pd)} (h : (raw sz).R e w base ok v rows) : (raw sz).R e w base (fun k => some k = v.ownBlock) v rows := R_tight rfl h
theorem raw_any {sz : Nat} {rows : List (List Pd)} (h : (raw sz).R e w base ok v rows) : (raw sz).R e w base (fun _ => True) v rows := R_mono h (fun _ _ => trivial)
theorem R_N (h : d.R e w base ok v xs) : N d e w base ok v xs := by
 obtain ⟨h0, inner, ho, hr⟩ := h;refine ⟨h0, chunks d.sz xs.length inner, chunks_length _ _ _, ⟨fun k hk => hk.symm, inner, by rw [chunks_length]; exact ho, reps_raw hr (fun x c hp => ⟨d.K_len (d.K_of_M hp), d.K_one (d.K_of_M hp)⟩)⟩, fun j x c hx hc => ?_⟩;rw [chunks_get hc];exact FK_of_M (hr.2 j x hx)
theorem S_N (h : Kd.S d e w base ok v xs) : N d e w base ok v xs := R_N (S_R h)
theorem N_nil (d : Kd α) (e : Nat) (w : Pe) (base : Nat) (ok : Nat -> Prop) : N d e w base ok (.slice none 0 0) [] := R_N (R_nil _ _ _ _ _)
theorem N_mono (h : N d e w base ok v xs) (hok : ∀ k, ok k -> ok' k) : N d e w base ok' v xs := by
 obtain ⟨h0, rows, hl, hR, hf⟩ := h;exact ⟨fun k hk => hok k (h0 k hk), rows, hl, hR, fun j x c hx hc => FK_mono (hf j x c hx hc) (fun k hk => ⟨hok k hk.1, hk.2⟩)⟩
theorem N_lt (h : N d e w base ok v xs) : ∀ k, v.ownBlock = some k -> k < w.heap.size := by
 obtain ⟨_, rows, _, hR, _⟩ := h;exact R_lt hR
theorem N_base (h : N d e w base ok v xs) : ∀ k, v.ownBlock = some k -> base <= k := by
 obtain ⟨_, rows, _, hR, _⟩ := h;exact R_base hR
theorem N_away (h : N d e w base ok v xs) (hok : ∀ k, ok k -> k ≠ g) : some g ≠ v.ownBlock := fun he => hok g (h.1 g he.symm) rfl
theorem N_bound (h : N d e w base ok v xs) : N d e w base (fun k => ok k /\ k < w.heap.size) v xs := by
 have hlt := N_lt h;obtain ⟨h0, rows, hl, hR, hf⟩ := h;exact ⟨fun k hk => ⟨h0 k hk, hlt k hk⟩, rows, hl, hR, fun j x c hx hc => FK_mono (FK_bound (hf j x c hx hc)) (fun k hk => ⟨⟨hk.1.1, hk.2⟩, hk.1.2⟩)⟩
theorem N_lower {base' : Nat} (h : N d e w base ok v xs) (hb : base' <= base) : N d e w base' ok v xs := by
 obtain ⟨h0, rows, hl, hR, hf⟩ := h;exact ⟨h0, rows, hl, R_lower hR hb, hf⟩
theorem N_step (h : N d e w base ok v xs) (hm : ∀ k, ok k -> k < w.heap.size -> w1.heap[k]? = w.heap[k]?) : N d e w1 base ok v xs := by
 obtain ⟨h0, rows, hl, hR, hf⟩ := h;exact ⟨h0, rows, hl, R_step hR (fun k hk hlt => hm k (h0 k hk.symm) hlt), fun j x c hx hc => FK_step (hf j x c hx hc) (fun k hk hlt => hm k hk.1 hlt)⟩
theorem N_below (h : N d e w base ok v xs) (hb : Below w.heap.size w w1) : N d e w1 base ok v xs := N_step h (fun k _ hk => hb.block k hk)
theorem N_alloc (h : N d e w base ok v xs) (o : Obj) : N d e (w.alloc o) base ok v xs := N_below h (Ah (Pn _ _) o)
theorem N_drew (h : N d e w base ok v xs) : N d e w.drew base ok v xs := N_below h (DW (Pn _ _))
theorem N_drewN (h : N d e w base ok v xs) (m : Nat) : N d e (w.drewN m) base ok v xs := N_below h (AH (Pn _ _) m)
theorem N_elder' (h : N d e W base ok v xs) (hbase : ∀ k, u.ownBlock = some k -> W.heap.size <= k) (hb : Below W.heap.size W w1) : N d e w1 base (fun k => ok k /\ some k ≠ u.ownBlock) v xs :=
 N_mono (N_below (N_bound h) hb) (fun k hk => ⟨hk.1, fun he => by have := hbase k he.symm; have := hk.2; omega⟩)
theorem N_after (h : N d e W base (fun k => ok k /\ some k ≠ u.ownBlock) v xs) {u1 : Pd} (hg : W.grownBy w1 u.ownBlock) (hat : u1.ownBlock = u.ownBlock \/ ∃ b, u1.ownBlock = some b /\ W.heap.size <= b) : N d e w1 base (fun k => ok k /\ some k ≠ u1.ownBlock) v xs := by
 refine N_mono (N_step (N_bound h) (fun k hk hlt => hg.block k hlt hk.1.2)) (fun k hk => ⟨hk.1.1, ?_⟩);rcases hat with hat | ⟨b, hb, hle⟩
 ·rw [hat]; exact hk.1.2
 ·rw [hb];intro he;injection he with he
  have := hk.2;omega
theorem N_slice (h : N d e w base ok v xs) : ∃ A c, v = .slice A xs.length c := by
 obtain ⟨_, rows, hl, hR, _⟩ := h;obtain ⟨A, c, he⟩ := R_slice hR;exact ⟨A, c, by rw [he, hl]⟩
theorem N_reads' {n c : Nat} (h : N d e w base ok (.slice A n c) xs) : n = xs.length /\ n <= c /\ d.C w A xs.length xs := by
 obtain ⟨_, rows, hl, hR, hf⟩ := h;obtain ⟨hn, hc, hC⟩ := R_reads' hR;refine ⟨by omega, hc, ?_⟩;rw [hl] at hC;refine ⟨rfl, hC.2.1, fun hp => ?_⟩;obtain ⟨ad, he, hcell⟩ := hC.2.2 hp;refine ⟨ad, he, fun j p hj => ?_⟩;have hjl : j < rows.length := by have := (Pf.1 hj).1; omega
 obtain ⟨c', hcl, hK, hcc⟩ := hcell j _ (Pg hjl);have hk := FK_now (hf j p _ hj (Pg hjl));refine ⟨c', hcl, ?_, hcc⟩;rw [show c' = rows[j] from hK.1];exact hk
theorem N_F {n : Nat} (h : N d e w base ok (.slice A n cc) xs) : F d w ok A n xs := fun W' hW => by
 have h2 := N_reads' (N_step h hW);rw [h2.1];exact h2.2.2
theorem N_elem {n cap : Nat} (h : N d e W base ok (.slice (some ⟨g, 0, none⟩) n cap) xs) (z : α) (i : Int) (h0 : 0 <= i) (h1 : i < n) :
  ∃ c, c.length = d.sz /\ FK d W (fun k => ok k /\ k ≠ g) (xs.getD i.toNat z) c /\ (∀ j u, c[j]? = some u -> W.cell? ⟨g, i.toNat * d.sz + j, none⟩ = some u) /\ ∀ j, W.frozen? ⟨g, i.toNat * d.sz + j, none⟩ = BK := by
 obtain ⟨_, rows, hl, hR, hf⟩ := h;have hn := (R_reads' hR).1;obtain ⟨c, hcl, hM, hcc, hfr⟩ := R_elem hR [] i h0 h1;have hil : i.toNat < rows.length := by omega
 have hil' : i.toNat < xs.length := by omega
 have hc : c = rows[i.toNat] := by
  have h2 := hM.1
  rwa [Pt, Pg hil] at h2
 refine ⟨c, hcl, ?_, hcc, hfr⟩;rw [Pt, Pg hil'];exact FK_mono (hf _ _ _ (Pg hil') (by rw [hc]; exact Pg hil)) (fun k hk => ⟨hk.1, fun he => hk.2 (by rw [he]; simp [PT])⟩)
theorem N_get {ad : Addr} {n cap : Nat} (h : N d e W base ok (.slice (some ad) n cap) xs) (z : α) (i : Int) (h0 : 0 <= i) (h1 : i < n) :
  ∃ c, c.length = d.sz /\ FK d W (fun k => ok k /\ some k ≠ (Value.slice (some ad) n cap).ownBlock) (xs.getD i.toNat z) c /\ ∀ j u, c[j]? = some u -> W.cell? (ad.add (i.toNat * d.sz + j)) = some u := by
 obtain ⟨g, rfl⟩ : ∃ g, ad = ⟨g, 0, none⟩ := by
  obtain ⟨_, rows, _, hR, _⟩ := h;exact R_head hR
 obtain ⟨c, hcl, hM, hcc, _⟩ := N_elem h z i h0 h1;refine ⟨c, hcl, FK_mono hM (fun k hk => ⟨hk.1, fun he => hk.2 (by simpa [PT] using he)⟩), fun j u hu => ?_⟩;rw [O1, R1];exact hcc j u hu
end
end Kd
-- PRINTED BY print.sh 35421559b90ae4d0a3588c463048766b98c2df88dd9212a6774a882060cdf62d: not written by this session
namespace Kd
section
variable {α : Type} {d : Kd α} {e base n cap g : Nat} {ok ok' okp : Nat -> Prop} {w w1 W : Pe} {v v1 : Pd} {xs ys : List α}
theorem N_appended {rows news : List (List Pd)} (h0 : ∀ k, v.ownBlock = some k -> ok k) (hl : rows.length = xs.length) (hf : ∀ (j : Nat) (x : α) (c : List Pd), xs[j]? = some x -> rows[j]? = some c -> FK d W (fun k => ok k /\ some k ≠ v.ownBlock) x c)
    (hl2 : news.length = ys.length) (hf2 : ∀ (j : Nat) (x : α) (c : List Pd), ys[j]? = some x -> news[j]? = some c -> FK d W okp x c) (hokp : ∀ k, okp k -> ok k /\ some k ≠ v.ownBlock) (hfresh : ∀ k, W.heap.size <= k -> ok k)
    (hR : (raw d.sz).R e w1 base (fun _ => True) v1 (rows ++ news)) (hg : W.grownBy w1 v.ownBlock) (hat : v1.ownBlock = v.ownBlock \/ ∃ b, v1.ownBlock = some b /\ W.heap.size <= b) : N d e w1 base ok v1 (xs ++ ys) := by
  have hne : ∀ k, some k ≠ v.ownBlock -> k < W.heap.size -> some k ≠ v1.ownBlock := by
    intro k hk hlt;rcases hat with hat | ⟨b, hb, hle⟩
    · rw [hat]; exact hk
    · rw [hb];intro he;injection he with he
      omega
  have step : ∀ {x : α} {c : List Pd} {o : Nat -> Prop}, FK d W o x c -> (∀ k, o k -> ok k /\ some k ≠ v.ownBlock) -> FK d w1 (fun k => ok k /\ some k ≠ v1.ownBlock) x c := by
    intro x c o hq ho;exact FK_mono (FK_step (FK_bound hq) (fun k hk hlt => hg.block k hlt (ho k hk.1).2)) (fun k hk => ⟨(ho k hk.1).1, hne k (ho k hk.1).2 hk.2⟩)
  refine ⟨fun k hk => ?_, rows ++ news, by rw [PK, PK, hl, hl2], raw_tight hR, fun j x c hx hc => ?_⟩
  · rcases hat with hat | ⟨b, hb, hle⟩
    · exact h0 k (hat ▸ hk)
    · rw [hb] at hk;injection hk with hk
      exact hfresh k (by omega)
  · rcases Rj j xs.length with hlt | hge
    · rw [PQ hlt] at hx;rw [PQ (by omega)] at hc;exact step (hf j x c hx hc) (fun _ hk => hk)
    · rw [PY hge] at hx;rw [PY (by omega), hl] at hc;exact step (hf2 _ x c hx hc) hokp
theorem N_made {rows : List (List Pd)} (hR : (raw d.sz).R e w1 base (fun k => k = W.heap.size) v1 rows) (hg : W.grownBy w1 none) (hat : ∃ b, v1.ownBlock = some b /\ W.heap.size <= b) (hl : rows.length = xs.length) (hf : ∀ (j : Nat) (x : α) (c : List Pd), xs[j]? = some x -> rows[j]? = some c -> FK d W okp x c)
    (hok : ∀ k, okp k -> ok k) (hfresh : ok W.heap.size) : N d e w1 base ok v1 xs := by
  obtain ⟨b, hb, hle⟩ := hat;refine ⟨fun k hk => by rw [hR.1 k hk]; exact hfresh, rows, hl, raw_tight hR, fun j x c hx hc => ?_⟩;refine FK_mono (FK_step (FK_bound (hf j x c hx hc)) (fun k hk hlt => hg.block k hlt (by simp))) (fun k hk => ⟨hok k hk.1, fun he => ?_⟩);rw [hb] at he;injection he with he
  have := hk.2;omega
theorem reads_raw {Rr : α -> List Pd -> Prop} {sz m : Nat} {A : Option Addr} (h : By Rr sz W A m ys) (hR : ∀ x c, Rr x c -> c.length = sz /\ ∀ u ∈ c, u.oneCell' = true) :
  ∃ news : List (List Pd), news.length = ys.length /\ By (fun x cs => cs = x /\ cs.length = sz /\ ∀ u ∈ cs, u.oneCell' = true) sz W A m news /\ ∀ (j : Nat) (x : α) (c : List Pd), ys[j]? = some x -> news[j]? = some c -> Rr x c := by
 rcases Nat.eq_zero_or_pos m with h0 | hp
 ·have hy : ys = [] := List.eq_nil_of_length_eq_zero (h.1.trans h0);subst hy;exact ⟨[], rfl, ⟨h0 ▸ rfl, h.2.1, fun hp => by omega⟩, fun j x c hx => by simp at hx⟩
 ·obtain ⟨ad, rfl, _⟩ := h.2.2 hp;obtain ⟨inner, hr, hc⟩ := By.inner_ h;refine ⟨chunks sz ys.length inner, chunks_length _ _ _, ⟨by rw [chunks_length]; exact h.1, h.2.1, fun _ => ⟨ad, rfl, fun j p hj => ?_⟩⟩, fun j x c hx hcc => ?_⟩
  ·have hjl : j < ys.length := by have := (Pf.1 hj).1; rwa [chunks_length] at this
   have hpe := chunks_get hj;have hq := hR _ _ (hr.2 j _ (Pg hjl));rw [<- hpe] at hq;refine ⟨p, hq.1, ⟨rfl, hq⟩, fun i u hu => ?_⟩;have hu2 : inner[j * sz + i]? = some u := by
    rw [hpe, PW] at hu
    split at hu
    ·rw [List.getElem?_drop] at hu;exact hu
    ·cases hu
   exact hc _ u hu2
  ·rw [chunks_get hcc];exact hr.2 j x hx
end
section
variable {P : Qc} {ops : Array Oper} {rest : List Oper} {o : Oper} {a : Act} {Q : Exit -> Act -> Pe -> Prop} {Kc : Act -> Pe -> Prop} {α : Type}
theorem N_append_rows (d : Kd α) {w0 W : Pe} (base : Nat) (hgd : o.guard = none) (s x : Rt) (t e : Q9) (z : Pd) (Qz : Nat)
  (ho : o.op = .call { callee := .builtin .append, args := #[s, x], argTypes := #[t, t] })
  (ht : P.underlying t = some (.slice e)) (hinfo : (P.info? e).map (fun i => (i.zero, i.size, i.bytes)) = some (some z, d.sz, Qz)) (hz : z.cells.size = d.sz) (hs0 : 0 < d.sz) (hb0 : 0 < Qz)
  (v : Pd) (xs ys : List α) (A : Option Addr) (m c : Nat) (ok okp : Nat -> Prop) (hs : a.eval s = v) (hx : a.eval x = .slice A m c)
  (HO : N d e W base ok v xs) (HR : F d W okp A m ys) (hokp : ∀ k, okp k -> ok k /\ some k ≠ v.ownBlock) (hfresh : ∀ k, W.heap.size <= k -> ok k)
  (HB : Below base w0 W) (hbase : base <= W.heap.size) (hl : (xs.length + m) * Qz <= 140737488355328)
  (h : ∀ v1 w1, N d e w1 base ok v1 (xs ++ ys) -> Below base w0 w1 -> W.grownBy w1 v.ownBlock -> (v1.ownBlock = v.ownBlock \/ ∃ b, v1.ownBlock = some b /\ W.heap.size <= b) -> QD P ops Q rest (a.put o.dst v1) w1) :
  QD P ops Q (o :: rest) a W := by
 obtain ⟨h0, rows, hlr, hR, hf⟩ := HO;obtain ⟨news, hnl, hnr, hnf⟩ := reads_raw (F_rows HR) (fun y c hk => ⟨d.K_len (FK_now hk), d.K_one (FK_now hk)⟩);refine R_append_rows (raw d.sz) base hgd s x t e z Qz ho ht hinfo hz hs0 hb0 v rows news A m c (fun _ => True) (fun _ => False) hs hx (raw_any hR) hnr (fun _ _ hk => hk) (fun _ hk => hk.elim) (fun _ _ => trivial) HB hbase (by rw [hlr]; exact hl) ?_;intro v1 w1 hr hb hg hat;exact h v1 w1 (N_appended h0 hlr hf hnl hnf hokp hfresh hr hg hat) hb hg hat
theorem N_lit (d : Kd α) {w0 W : Pe} (base e : Nat) (hgd : o.guard = none) {N' : Tmp} (_hd : o.dst = some N') {xs : List α} {inner : List Pd} {ok okp : Nat -> Prop}
  (hrun : (Rz a.eval o).run P W = .ok (.value (.slice (some ⟨W.heap.size, 0, none⟩) xs.length xs.length)) (W.alloc (.cells inner.toArray e)))
  (hrep : Cj (FK d W okp) d.sz xs inner) (hok : ∀ k, okp k -> ok k) (hfresh : ok W.heap.size) (HB : Below base w0 W) (hbase : base <= W.heap.size) (hm : xs.length <= 9223372036854775807)
  (h : ∀ v1 w1, N d e w1 base ok v1 xs -> Below base w0 w1 -> W.grownBy w1 none -> (∃ b, v1.ownBlock = some b /\ W.heap.size <= b) -> QD P ops Q rest (a.put o.dst v1) w1) :
  QD P ops Q (o :: rest) a W := by
 refine R_lit (raw d.sz) base e hgd _hd (xs := chunks d.sz xs.length inner) (inner := inner) (ok := fun k => k = W.heap.size) (okp := fun _ => False) (by rw [chunks_length]; exact hrun) (reps_raw hrep (fun y c hk => ⟨d.K_len (FK_now hk), d.K_one (FK_now hk)⟩)) (fun _ hk => hk.elim) rfl HB hbase (by rw [chunks_length]; exact hm) ?_;intro v1 w1 hr hb hg hat;exact h v1 w1 (N_made hr hg hat (chunks_length _ _ _) (fun j y c hy hc => by rw [chunks_get hc]; exact hrep.2 j y hy) hok hfresh) hb hg hat
end
end Kd
end Go.Proofs.V.Words
-- PRINTED BY print.sh 35421559b90ae4d0a3588c463048766b98c2df88dd9212a6774a882060cdf62d: not written by this session
-- PRINTED WORDS (module Derived/Print/More.lean): go-gate-2's additions: an AI agent of Go's test side, Tue Nov 17 2026; no person has read it. Lean checks it.
namespace Go.Proofs.V.More
open Go.RowKit Go.Proofs.V.Words
namespace Kd
open Go.Proofs.V.Words.Kd
end Kd
namespace Kd
open Go.Proofs.V.Words.Kd
section
variable {α : Type} {d : Kd α} {e base g N : Nat} {ok : Nat -> Prop} {W w1 : Pe} {u v : Pd} {xs : List α}
end
end Kd
theorem BI (k k' : IntKind) (x y : Int) : QS (.int k x) (.int k' y) = pure (.int k (if x < y then y else x)) := by simp only [QS, gt_iff_lt]
theorem BJ (k k' : IntKind) (x y : Int) : QT (.int k x) (.int k' y) = pure (.int k (if y < x then y else x)) := by simp only [QT]
theorem BY (ats : Array Q9) (ty : Q9) (a b : Pd) : Rk ats ty #[a, b] = (QS a b >>= fun s => pure s) := by simp only [Rk, QW, R4]
theorem BZ (ats : Array Q9) (ty : Q9) (a b : Pd) : Rl ats ty #[a, b] = (QT a b >>= fun s => pure s) := by simp only [Rl, QW, R4]
theorem Bu (ats : Array Q9) (ty : Q9) (a b c : Pd) : Rk ats ty #[a, b, c] = (QS a b >>= fun s => QS s c >>= fun s => pure s) := by simp only [Rk, QW, R4]
theorem Bv (ats : Array Q9) (ty : Q9) (a b c : Pd) : Rl ats ty #[a, b, c] = (QT a b >>= fun s => QT s c >>= fun s => pure s) := by simp only [Rl, QW, R4]
theorem BL (ats : Array Q9) (ty : Q9) (a b c d : Pd) : Rk ats ty #[a, b, c, d] = (QS a b >>= fun s => QS s c >>= fun s => QS s d >>= fun s => pure s) := by simp only [Rk, QW, R4]
theorem BM (ats : Array Q9) (ty : Q9) (a b c d : Pd) : Rl ats ty #[a, b, c, d] = (QT a b >>= fun s => QT s c >>= fun s => QT s d >>= fun s => pure s) := by simp only [Rl, QW, R4]
end Go.Proofs.V.More
namespace Go.Proofs.V.Words
open Go.RowKit
section
variable {P : Qc} {ops : Array Oper} {rest : List Oper} {o : Oper} {a : Act} {Q : Exit -> Act -> Pe -> Prop} {W : Pe}
theorem Bs {f : FuncId} {as : Array Rt} {ts : Array Q9} (_ho : o.op = .call { callee := .value (.func f), args := as, argTypes := ts }) (h : QD P ops Q (o :: rest) a W) : QD P ops Q (o :: rest) a W := h
theorem Bt {b : Builtin} {xs : Array Rt} {ts : Array Q9} (_ho : o.op = .call { callee := .builtin b, args := xs, argTypes := ts }) (h : QD P ops Q (o :: rest) a W) : QD P ops Q (o :: rest) a W := h
end
def mn (a b : Int) : Int := if b < a then b else a
theorem Jy (w : Pe) (n : Nat) : w.drewN n = w.drewN n := rfl
namespace Kd
section
variable {α : Type} {d : Kd α} {e base : Nat} {ok : Nat -> Prop} {W w1 : Pe} {v : Pd} {xs : List α}
end
section
variable {α : Type} {d : Kd α} {e base g n cap : Nat} {ok oki okp : Nat -> Prop} {W : Pe} {xs : List α} {i : Int} {c : List Pd}
end
section
variable {α : Type} {d : Kd α} {e base b b' g N : Nat} {ok ok1 : Nat -> Prop} {W W2 w1 : Pe} {u v : Pd} {xs ys : List α} {S : Nat -> Prop}
theorem own_raise {n size : Nat} {cs : List Pd} (h : W.ownsRow b e size v n cs) (hb : ∀ k, v.ownBlock = some k -> b' <= k) : W.ownsRow b' e size v n cs := by
 obtain ⟨h1, h2⟩ := h;refine ⟨h1, ?_⟩;rcases h2 with h2 | ⟨g, cap, cur, rfl, _, r⟩
 ·exact .inl h2
 ·exact .inr ⟨g, cap, cur, rfl, hb g (by simp [PT]), r⟩
end
end Kd
namespace Kd
def V {α : Type} (d : Kd α) (_e : Nat) (W : Pe) (_base : Nat) (ok : Nat -> Prop) (v : Pd) (xs : List α) : Prop := ∃ A c, v = .slice A xs.length c /\ xs.length <= c /\ F d W ok A xs.length xs
section
variable {α β : Type} {d : Kd α} {e base base' n m c g N' lo hi : Nat} {ok ok' S : Nat -> Prop} {w W w1 : Pe} {A : Option Addr} {ad : Addr} {u v v1 : Pd} {xs : List α}
theorem V_map (h : V d e W base ok v xs) (hF : ∀ A, F d W ok A xs.length xs -> F d w1 ok' A xs.length xs) : V d e w1 base' ok' v xs := by
 obtain ⟨A, c, hv, hl, hf⟩ := h;exact ⟨A, c, hv, hl, hF A hf⟩
theorem V_mk (hl : xs.length <= c) (hf : F d W ok A xs.length xs) : V d e W base ok (.slice A xs.length c) xs := ⟨A, c, rfl, hl, hf⟩
theorem V_at (h : V d e W base ok (.slice A n c) xs) : n = xs.length /\ n <= c /\ F d W ok A xs.length xs := by
 obtain ⟨A', c', hv, hl, hf⟩ := h;injection hv with ha hn hc
 subst ha; subst hc;exact ⟨hn, by rw [hn]; exact hl, hf⟩
theorem V_reads' (h : V d e W base ok (.slice A n c) xs) : n = xs.length /\ n <= c /\ d.C W A xs.length xs := ⟨(V_at h).1, (V_at h).2.1, F_now (V_at h).2.2⟩
theorem V_F (h : V d e W base ok (.slice A n c) xs) : F d W ok A n xs := by
 obtain ⟨hn, _, hf⟩ := V_at h;rw [hn];exact hf
theorem V_nil (d : Kd α) (e : Nat) (W : Pe) (base : Nat) (ok : Nat -> Prop) : V d e W base ok (.slice none 0 0) [] := ⟨none, 0, rfl, Ps _, F_nil d W ok⟩
theorem N_V (h : N d e W base ok v xs) : V d e W base' ok v xs := by
 obtain ⟨A, c, rfl⟩ := N_slice h;exact ⟨A, c, rfl, (N_reads' h).2.1, N_F h⟩
theorem V_mono (h : V d e W base ok v xs) (hok : ∀ k, ok k -> ok' k) : V d e W base ok' v xs := V_map h (fun _ hf => F_mono hf hok)
theorem V_below (h : V d e W base ok v xs) (hb : Below W.heap.size W w1) : V d e w1 base ok v xs := V_map h (fun _ hf => F_below hf hb)
theorem V_alloc (h : V d e W base ok v xs) (o : Obj) : V d e (W.alloc o) base ok v xs := V_map h (fun _ hf => F_alloc hf o)
theorem V_drew (h : V d e W base ok v xs) : V d e W.drew base ok v xs := V_map h (fun _ hf => F_drew hf)
theorem V_drewN (h : V d e W base ok v xs) (m : Nat) : V d e (W.drewN m) base ok v xs := V_map h (fun _ hf => F_drewN hf m)
theorem V_after (h : V d e W base (fun k => ok k /\ some k ≠ u.ownBlock) v xs) (hg : W.grownBy w1 u.ownBlock) (hat : v1.ownBlock = u.ownBlock \/ ∃ b, v1.ownBlock = some b /\ W.heap.size <= b) : V d e w1 base (fun k => ok k /\ some k ≠ v1.ownBlock) v xs := V_map h (fun _ hf => F_after hf hg hat)
theorem V_afterv (h : V d e W base (fun k => ok k /\ some k ≠ v.ownBlock) u xs) (hg : W.grownBy w1 v.ownBlock) (hat : v1.ownBlock = v.ownBlock \/ ∃ b, v1.ownBlock = some b /\ W.heap.size <= b) : V d e w1 base (fun k => ok k /\ some k ≠ v1.ownBlock) u xs := V_after h hg hat
theorem N_afterv (h : N d e W base (fun k => ok k /\ some k ≠ v.ownBlock) u xs) (hg : W.grownBy w1 v.ownBlock) (hat : v1.ownBlock = v.ownBlock \/ ∃ b, v1.ownBlock = some b /\ W.heap.size <= b) : N d e w1 base (fun k => ok k /\ some k ≠ v1.ownBlock) u xs := N_after h hg hat
theorem V_elder' (h : V d e W base ok v xs) (hbase : ∀ k, u.ownBlock = some k -> W.heap.size <= k) (hb : Below W.heap.size W w1) : V d e w1 base (fun k => ok k /\ some k ≠ u.ownBlock) v xs := V_map h (fun _ hf => F_elder' hf hbase hb)
theorem V_elderB (h : V d e W base ok v xs) (a : Nat) (ha : W.heap.size <= a) : V d e W base (fun k => ok k /\ k ≠ a) v xs := V_map h (fun _ hf => F_elderB hf a ha)
theorem V_get (h : V d e W base ok (.slice (some ad) n c) xs) (z : α) (i : Int) (h0 : 0 <= i) (h1 : i < n) :
  ∃ cs, cs.length = d.sz /\ FK d W ok (xs.getD i.toNat z) cs /\ ∀ j u, cs[j]? = some u -> W.cell? (ad.add (i.toNat * d.sz + j)) = some u := by
 obtain ⟨ad', cs, he, hcl, hK, hcc, _⟩ := F_get (V_F h) z i h0 h1;injection he with he
 subst he;exact ⟨cs, hcl, hK, hcc⟩
theorem FK_slice_open {l : List α} {cs : List Pd} (h : FK (Kd.slice e d) W ok l cs) : ∃ A c, cs = [.slice A l.length c] /\ l.length <= c /\ F d W ok A l.length l := by
 obtain ⟨A, c, rfl, hl, _⟩ := FK_now h;refine ⟨A, c, rfl, hl, fun W' hW => ?_⟩;obtain ⟨A', c', he, _, g'⟩ := h W' hW;injection he with he _
 injection he with ha _ _
 rw [ha];exact g'
end
end Kd
namespace Kd
section
variable {P : Qc} {ops : Array Oper} {rest : List Oper} {o : Oper} {a : Act} {Q : Exit -> Act -> Pe -> Prop} {α : Type}
theorem R_make0 (d : Kd α) {w0 W : Pe} (base e : Nat) (hgd : o.guard = none) {N : Tmp} (_hd : o.dst = some N) (t : Q9) (x y : Rt) (ho : o.op = .makeSlice t x y) (n : Int) (hx : a.eval x = .int .i64 0) (hy : a.eval y = .int .i64 n)
  (ht : P.underlying t = some (.slice e)) (z : Pd) (Qz : Nat) (hinfo : (P.info? e).map (fun i => (i.zero, i.size, i.bytes)) = some (some z, d.sz, Qz)) (hz : z.cells.size = d.sz) (_hs0 : 0 < d.sz) (hb0 : 0 < Qz)
  (z0 : α) {ok okp : Nat -> Prop} (_hzero : d.M W base okp z0 z.cells.toList) (_hok : ∀ k, okp k -> ok k) (hfresh : ok W.heap.size) (h0 : 0 <= n) (hl : n.toNat * Qz <= 281474976710656) (HB : Below base w0 W) (hbase : base <= W.heap.size)
  (h : ∀ v1 w1, d.R e w1 base ok v1 [] -> Below base w0 w1 -> W.grownBy w1 none -> (∃ b, v1.ownBlock = some b /\ W.heap.size <= b) -> QD P ops Q rest (a.put o.dst v1) w1) : QD P ops Q (o :: rest) a W := by
 obtain ⟨m, rfl⟩ := Int.eq_ofNat_of_zero_le h0;simp only [PO] at hl h;obtain ⟨i0, hi, hzz⟩ := Qb.1 hinfo;simp only [QQ] at hzz;obtain ⟨hz0, hz1, hz2⟩ := hzz;have hm : m <= 281474976710656 := Qo (QO _ hb0) hl;have hr := run_make (P := P) W t e i0 z ht hi hz0 .i64 .i64 0 (m : Int) (by omega) (by omega)
  (by
   have h3 : ((i0.bytes * m : Nat) : Int) <= 281474976710656 := by rw [hz2, Nat.mul_comm]; omega
   rwa [Int.natCast_mul] at h3) (by omega)
 simp only [PO, Int.toNat_zero] at hr;rw [hz1] at hr;have hrun : (Rz a.eval o).run P W = .ok (.value (.slice (some ⟨W.heap.size, 0, none⟩) 0 m)) (W.alloc (.cells (madeCells z.cells (m * d.sz)) e)) := by
  simp [Rz, ho, hx, hy, hr]
 refine event_run hgd hrun (h _ _ ⟨fun k hk => ?_, [], ?_, Cj.none _ _⟩ (HB.alloc hbase _) (World.grownBy_alloc W _ none) ⟨W.heap.size, by simp [PT], Ps _⟩)
 ·have : W.heap.size = k := by simpa [PT] using hk
  subst this;exact hfresh
 ·exact World.ownsRow_made W _ m hbase (by simp only [maxLen]; omega) (size_madeCells _ _)
end
end Kd
end Go.Proofs.V.Words
namespace Go.Proofs.V.SL
open Go.RowKit Go.Proofs.V.Words
structure Bj where
 F : Pe -> (Nat -> Prop) -> Prop
 loc : ∀ {w w' : Pe} {f : Nat -> Prop}, F w f -> (∀ k, f k -> w'.heap[k]? = w.heap[k]?) -> F w' f
 lt : ∀ {w : Pe} {f : Nat -> Prop}, F w f -> ∀ k, f k -> k < w.heap.size
def IN : Bj := ⟨fun _ f => ∀ k, ¬ f k, fun h _ => h, fun h k hk => absurd hk (h k)⟩
def Al (g t : Nat) (cs : Array Pd) : Bj :=
  ⟨fun w f => (∀ k, f k ↔ k = g) /\ w.heap[g]? = some (.cells cs t (0, 0)),
   fun h hs => ⟨h.1, (hs _ ((h.1 _).2 rfl)).trans h.2⟩,
   fun h k hk => by rw [(h.1 k).1 hk]; exact BG h.2⟩
def Bw (v : Pd) (e size n : Nat) (xs : List Pd) : Bj :=
  ⟨fun w f => (∀ k, f k ↔ v.ownBlock = some k) /\ w.ownsRow 0 e size v n xs,
   fun h hs => ⟨h.1, Fe h.2 (fun k hk => hs k ((h.1 k).2 hk))⟩,
   fun h k hk => Fz h.2 k ((h.1 k).1 hk)⟩
def Hs : List Bj -> Pe -> (Nat -> Prop) -> Prop
 | [], _, f => ∀ k, ¬ f k
 | a :: r, w, f => ∃ f1 f2, (∀ k, f k ↔ f1 k \/ f2 k) /\ (∀ k, f1 k -> ¬ f2 k) /\ a.F w f1 /\ Hs r w f2
theorem Hs.loc : ∀ {l : List Bj} {w w' : Pe} {f : Nat -> Prop}, Hs l w f -> (∀ k, f k -> w'.heap[k]? = w.heap[k]?) -> Hs l w' f
 | [], _, _, _, h, _ => h
 | a :: r, _, _, _, ⟨f1, f2, he, hd, ha, hr⟩, hs => ⟨f1, f2, he, hd, a.loc ha (fun k hk => hs k ((he k).2 (.inl hk))), Hs.loc hr (fun k hk => hs k ((he k).2 (.inr hk)))⟩
theorem Hs.lt : ∀ {l : List Bj} {w : Pe} {f : Nat -> Prop}, Hs l w f -> ∀ k, f k -> k < w.heap.size
 | [], _, _, h, k, hk => absurd hk (h k)
 | a :: r, _, _, ⟨f1, f2, he, _, ha, hr⟩, k, hk => by
  rcases (he k).1 hk with h | h
  ·exact a.lt ha k h
  ·exact Hs.lt hr k h
def Ei (l : List Bj) : Bj := ⟨Hs l, Hs.loc, Hs.lt⟩
theorem Hs.at : ∀ {l : List Bj} {i : Nat} {a : Bj} {w : Pe} {f : Nat -> Prop}, Hs l w f -> l[i]? = some a ->
  ∃ fa, a.F w fa /\ (∀ k, fa k -> f k) /\ ∀ (a' : Bj) (w' : Pe) (fa' : Nat -> Prop), a'.F w' fa' -> (∀ k, fa' k -> fa k \/ w.heap.size <= k) -> (∀ k, k < w.heap.size -> ¬ fa k -> w'.heap[k]? = w.heap[k]?) ->
   ∃ f', Hs (l.set i a') w' f' /\ (∀ k, f' k -> f k \/ w.heap.size <= k)
 | [], i, a, w, f, _, hi => by simp at hi
 | b :: r, 0, a, w, f, ⟨f1, f2, he, hd, hb, hr⟩, hi => by
  have hi' : b = a := by simpa using hi
  subst hi';refine ⟨f1, hb, fun k hk => (he k).2 (.inl hk), fun a' w' fa' ha' hn hs => ?_⟩;refine ⟨fun k => fa' k \/ f2 k, ⟨fa', f2, fun k => RY, fun k h1 h2 => ?_, ha', hr.loc (fun k hk => hs k (hr.lt k hk) (fun h => hd k h hk))⟩, fun k hk => ?_⟩
  ·rcases hn k h1 with h | h
   ·exact hd k h h2
   ·exact absurd (hr.lt k h2) (by omega)
  ·rcases hk with h | h
   ·rcases hn k h with h' | h'
    ·exact .inl ((he k).2 (.inl h'))
    ·exact .inr h'
   ·exact .inl ((he k).2 (.inr h))
 | b :: r, i + 1, a, w, f, ⟨f1, f2, he, hd, hb, hr⟩, hi => by
  have hi' : r[i]? = some a := by simpa using hi
  obtain ⟨fa, ha, hsub, hstep⟩ := Hs.at hr hi';refine ⟨fa, ha, fun k hk => (he k).2 (.inr (hsub k hk)), fun a' w' fa' ha' hn hs => ?_⟩;obtain ⟨f2', hr', hn'⟩ := hstep a' w' fa' ha' hn hs;refine ⟨fun k => f1 k \/ f2' k, ⟨f1, f2', fun k => RY, fun k h1 h2 => ?_, b.loc hb (fun k hk => hs k (b.lt hb k hk) (fun h => hd k hk (hsub k h))), hr'⟩, fun k hk => ?_⟩
  ·rcases hn' k h2 with h | h
   ·exact hd k h1 h
   ·exact absurd (b.lt hb k h1) (by omega)
  ·rcases hk with h | h
   ·exact .inl ((he k).2 (.inl h))
   ·rcases hn' k h with h' | h'
    ·exact .inl ((he k).2 (.inr h'))
    ·exact .inr h'
theorem Hs.apart : ∀ {l : List Bj} {i j : Nat} {a b : Bj} {w : Pe} {f : Nat -> Prop}, Hs l w f -> l[i]? = some a -> l[j]? = some b -> i ≠ j ->
  ∃ fa fb, a.F w fa /\ b.F w fb /\ ∀ k, fa k -> ¬ fb k
 | [], i, j, a, b, w, f, _, hi, _, _ => by simp at hi
 | c :: r, 0, 0, a, b, w, f, _, _, _, h => absurd rfl h
 | c :: r, 0, j + 1, a, b, w, f, ⟨f1, f2, he, hd, hc, hr⟩, hi, hj, _ => by
  have hi' : c = a := by simpa using hi
  subst hi';obtain ⟨fb, hb, hsub, _⟩ := Hs.at hr (show r[j]? = some b by simpa using hj);exact ⟨f1, fb, hc, hb, fun k h1 h2 => hd k h1 (hsub k h2)⟩
 | c :: r, i + 1, 0, a, b, w, f, ⟨f1, f2, he, hd, hc, hr⟩, hi, hj, _ => by
  have hj' : c = b := by simpa using hj
  subst hj';obtain ⟨fa, ha, hsub, _⟩ := Hs.at hr (show r[i]? = some a by simpa using hi);exact ⟨fa, f1, ha, hc, fun k h1 h2 => hd k h2 (hsub k h1)⟩
 | c :: r, i + 1, j + 1, a, b, w, f, ⟨f1, f2, he, hd, hc, hr⟩, hi, hj, h =>
  Hs.apart hr (show r[i]? = some a by simpa using hi) (show r[j]? = some b by simpa using hj) (by omega)
structure IJ (f : Nat -> Prop) (w w' : Pe) : Prop where
 os : w'.os = w.os
 tape : w'.tape = w.tape
 output : w'.output = w.output
 size : w.heap.size <= w'.heap.size
 block : ∀ k, k < w.heap.size -> ¬ f k -> w'.heap[k]? = w.heap[k]?
theorem IJ.of_grown {w w' : Pe} {r : Option Nat} (h : w.grownBy w' r) : IJ (fun k => r = some k) w w' := ⟨h.os, h.tape, h.output, h.size, fun k hk hn => h.block k hk (fun e => hn e.symm)⟩
theorem IJ.of_below {w w' : Pe} (h : Below w.heap.size w w') : IJ (fun _ => False) w w' := ⟨h.os, h.tape, h.output, h.size, fun k hk _ => h.block k hk⟩
theorem IJ.mono {f f' : Nat -> Prop} {w w' : Pe} (h : IJ f w w') (hf : ∀ k, f k -> f' k) : IJ f' w w' := ⟨h.os, h.tape, h.output, h.size, fun k hk hn => h.block k hk (fun x => hn (hf k x))⟩
structure BS (w0 : Pe) (Z : Nat -> Prop) (w w' : Pe) : Prop where
 size : w.heap.size <= w'.heap.size
 same : ∀ k, (Z k \/ k < w0.heap.size) -> k < w.heap.size -> w'.heap[k]? = w.heap[k]?
theorem BS.refl (w0 : Pe) (Z : Nat -> Prop) (w : Pe) : BS w0 Z w w := ⟨Ps _, fun _ _ _ => rfl⟩
structure St (w0 : Pe) (Z : Nat -> Prop) (l : List Bj) (w : Pe) : Prop where
 below : Below w0.heap.size w0 w
 zlt : ∀ k, Z k -> k < w.heap.size
 hs : ∃ f, Hs l w f /\ ∀ k, f k -> w0.heap.size <= k /\ ¬ Z k
section
variable {w0 w w' w1 w2 : Pe} {Z : Nat -> Prop} {l : List Bj} {a a' b : Bj} {i j : Nat}
theorem BS.trans (h : BS w0 Z w w1) (k : BS w0 Z w1 w2) : BS w0 Z w w2 := ⟨Qo h.size k.size, fun i hi hl => (k.same i hi (QU hl h.size)).trans (h.same i hi hl)⟩
theorem BS.fk {α : Type} {d : Kd α} {ok : Nat -> Prop} {x : α} {cs : List Pd} (h : BS w0 Z w w1) (hf : Kd.FK d w ok x cs) (hok : ∀ k, ok k -> Z k \/ k < w0.heap.size) : Kd.FK d w1 ok x cs := Kd.FK_step hf (fun k hk hl => h.same k (hok k hk) hl)
theorem BS.f {α : Type} {d : Kd α} {ok : Nat -> Prop} {A : Option Addr} {n : Nat} {xs : List α} (h : BS w0 Z w w1) (hf : Kd.F d w ok A n xs) (hok : ∀ k, ok k -> Z k \/ k < w0.heap.size) : Kd.F d w1 ok A n xs := Kd.F_step hf (fun k hk hl => h.same k (hok k hk) hl)
theorem St.upd (h : St w0 Z l w) (hi : l[i]? = some a) (hstep : ∀ f, a.F w f -> ∃ f', a'.F w' f' /\ (∀ k, f' k -> f k \/ w.heap.size <= k) /\ IJ f w w') : St w0 Z (l.set i a') w' /\ BS w0 Z w w' := by
 obtain ⟨f, hf, hd⟩ := h.hs;obtain ⟨fa, ha, hsub, hnext⟩ := hf.at hi;obtain ⟨fa', ha', hn, hc⟩ := hstep fa ha;obtain ⟨f', hf', hn'⟩ := hnext a' w' fa' ha' hn hc.block;have hsame : BS w0 Z w w' := ⟨hc.size, fun k hk hl => hc.block k hl (fun hx => by
  have h2 := hd k (hsub k hx);rcases hk with hk | hk
  ·exact h2.2 hk
  ·omega)⟩
 have hle := h.below.size;refine ⟨⟨h.below.trans ⟨hc.os, hc.tape, hc.output, hc.size, fun k hk => hsame.same k (.inr hk) (by omega)⟩, fun k hk => QU (h.zlt k hk) hc.size, f', hf', fun k hk => ?_⟩, hsame⟩;rcases hn' k hk with h1 | h1
 ·exact hd k h1
 ·exact ⟨by omega, fun hz => by have := h.zlt k hz; omega⟩
theorem St.keep (h : St w0 Z l w) (hb : Below w.heap.size w w') : St w0 Z l w' /\ BS w0 Z w w' := by
 obtain ⟨f, hf, hd⟩ := h.hs;have hle := h.below.size;exact ⟨⟨h.below.trans ⟨hb.os, hb.tape, hb.output, hb.size, fun k hk => hb.block k (by omega)⟩, fun k hk => QU (h.zlt k hk) hb.size, f, hf.loc (fun k hk => hb.block k (hf.lt k hk)), hd⟩, hb.size, fun k _ hl => hb.block k hl⟩
theorem St.drop (h : St w0 Z (a :: l) w) : St w0 Z l w := by
 obtain ⟨f, ⟨f1, f2, he, _, _, hr⟩, hd⟩ := h.hs;exact ⟨h.below, h.zlt, f2, hr, fun k hk => hd k ((he k).2 (.inr hk))⟩
theorem St.more (h : St w0 Z l w) (hb : Below w.heap.size w w') {f : Nat -> Prop} (ha : a.F w' f) (hn : ∀ k, f k -> w.heap.size <= k) : St w0 Z (a :: l) w' /\ BS w0 Z w w' := by
 obtain ⟨⟨hb', hz, f2, hf2, hd⟩, hs⟩ := h.keep hb;have hle := h.below.size;obtain ⟨f0, hf0, hd0⟩ := h.hs;refine ⟨⟨hb', hz, ?_⟩, hs⟩;have h3 := hf0.loc (w' := w') (fun k hk => hb.block k (hf0.lt k hk));exact ⟨fun k => f k \/ f0 k, ⟨f, f0, fun k => RY, fun k h1 h2 => absurd (hf0.lt k h2) (by have := hn k h1; omega), ha, h3⟩, fun k hk => by
  rcases hk with h1 | h1
  ·exact ⟨by have := hn k h1; omega, fun hz' => by have := h.zlt k hz'; have := hn k h1; omega⟩
  ·exact hd0 k h1⟩
theorem St.row_nil (h : St w0 Z l w) (e size : Nat) : St w0 Z (Bw (.slice none 0 0) e size 0 [] :: l) w := by
 obtain ⟨f, hf, hd⟩ := h.hs;exact ⟨h.below, h.zlt, f, ⟨fun _ => False, f, fun k => by simp, fun k h1 => h1.elim, ⟨fun k => by simp [PT], Ia _ _ _ _⟩, hf⟩, hd⟩
theorem St.emp_new (h : St w0 Z l w) : St w0 Z (IN :: l) w := by
 obtain ⟨f, hf, hd⟩ := h.hs;exact ⟨h.below, h.zlt, f, ⟨fun _ => False, f, fun k => by simp, fun k h1 => h1.elim, fun _ h => h, hf⟩, hd⟩
theorem St.at_blk (h : St w0 Z l w) {g t : Nat} {cs : Array Pd} (hi : l[i]? = some (Al g t cs)) : w.heap[g]? = some (.cells cs t (0, 0)) := by
 obtain ⟨f, hf, _⟩ := h.hs;obtain ⟨fa, ha, _⟩ := hf.at hi;exact ha.2
theorem St.at_row (h : St w0 Z l w) {v : Pd} {e size n : Nat} {xs : List Pd} (hi : l[i]? = some (Bw v e size n xs)) : w.ownsRow 0 e size v n xs := by
 obtain ⟨f, hf, _⟩ := h.hs;obtain ⟨fa, ha, _⟩ := hf.at hi;exact ha.2
theorem St.blk_ge (h : St w0 Z l w) {g t : Nat} {cs : Array Pd} (hi : l[i]? = some (Al g t cs)) : w0.heap.size <= g /\ ¬ Z g := by
 obtain ⟨f, hf, hd⟩ := h.hs;obtain ⟨fa, ha, hsub, _⟩ := hf.at hi;exact hd g (hsub g ((ha.1 g).2 rfl))
theorem St.set (h : St w0 Z l w) {g t : Nat} {cs : Array Pd} (hi : l[i]? = some (Al g t cs)) (o : Nat) (u : Pd) : St w0 Z (l.set i (Al g t (cs.setIfInBounds o u))) (w.setCell ⟨g, o, none⟩ u) /\ BS w0 Z w (w.setCell ⟨g, o, none⟩ u) :=
 h.upd hi (fun f hf => ⟨f, ⟨hf.1, Gd hf.2 o u⟩, fun k hk => .inl hk, rfl, rfl, rfl, by simp [SD], fun k _ hn => QI w ⟨g, o, none⟩ u k (fun e => hn ((hf.1 k).2 e))⟩)
theorem St.row_upd (h : St w0 Z l w) {v v' : Pd} {e size n n' : Nat} {xs xs' : List Pd} (hi : l[i]? = some (Bw v e size n xs)) (ho : w'.ownsRow 0 e size v' n' xs') (hg : w.grownBy w' v.ownBlock)
  (hat : v'.ownBlock = v.ownBlock \/ ∃ k, v'.ownBlock = some k /\ w.heap.size <= k) : St w0 Z (l.set i (Bw v' e size n' xs')) w' /\ BS w0 Z w w' :=
 h.upd hi (fun f hf => ⟨fun k => v'.ownBlock = some k, ⟨fun k => RY, ho⟩, fun k hk => by
  rcases hat with h1 | ⟨b, h1, h2⟩
  ·exact .inl ((hf.1 k).2 (h1 ▸ hk))
  ·rw [h1] at hk; injection hk with hk; subst hk; exact .inr h2, (IJ.of_grown hg).mono (fun k hk => (hf.1 k).2 hk)⟩)
theorem St.row_ne_blk (h : St w0 Z l w) {v : Pd} {e size n g t : Nat} {xs : List Pd} {cs : Array Pd} (hi : l[i]? = some (Bw v e size n xs)) (hj : l[j]? = some (Al g t cs)) (hij : i ≠ j) : some g ≠ v.ownBlock := by
 obtain ⟨f, hf, _⟩ := h.hs;obtain ⟨fa, fb, ha, hb, hd⟩ := hf.apart hi hj hij;exact fun e => hd g ((ha.1 g).2 e.symm) ((hb.1 g).2 rfl)
end
theorem Hs.perm {l l' : List Bj} (h : l.Perm l') : ∀ {w : Pe} {f : Nat -> Prop}, Hs l w f -> Hs l' w f := by
 induction h with
 | nil => exact fun h => h
 | cons a _ ih => rintro w f ⟨f1, f2, he, hd, ha, hr⟩; exact ⟨f1, f2, he, hd, ha, ih hr⟩
 | swap a b l =>
  rintro w f ⟨f1, f2, he, hd, ha, f3, f4, he2, hd2, hb, hr⟩;refine ⟨f3, fun k => f1 k \/ f4 k, fun k => ⟨fun h => ?_, fun h => ?_⟩, fun k h3 h => ?_, hb, f1, f4, fun k => RY, fun k h1 h4 => hd k h1 ((he2 k).2 (.inr h4)), ha, hr⟩
  ·rcases (he k).1 h with h | h
   ·exact .inr (.inl h)
   ·rcases (he2 k).1 h with h | h
    ·exact .inl h
    ·exact .inr (.inr h)
  ·rcases h with h | h | h
   ·exact (he k).2 (.inr ((he2 k).2 (.inl h)))
   ·exact (he k).2 (.inl h)
   ·exact (he k).2 (.inr ((he2 k).2 (.inr h)))
  ·rcases h with h | h
   ·exact hd k h ((he2 k).2 (.inl h3))
   ·exact hd2 k h3 h
 | trans _ _ ih1 ih2 => exact fun h => ih2 (ih1 h)
section
variable {w0 w w' w1 w2 W : Pe} {Z : Nat -> Prop} {l l' L : List Bj} {a a' b : Bj} {i j : Nat}
theorem St.perm (h : St w0 Z l w) (hp : l.Perm l') : St w0 Z l' w := by
 obtain ⟨f, hf, hd⟩ := h.hs;exact ⟨h.below, h.zlt, f, hf.perm hp, hd⟩
theorem St.start (w : Pe) : St w (fun _ => False) [] w := ⟨Pn _ _, fun _ h => h.elim, fun _ => False, fun _ h => h, fun _ h => h.elim⟩
theorem St.freeze (h : St w0 Z l w) (hb : Below w.heap.size w w') : St w0 (fun k => Z k \/ (w.heap.size <= k /\ k < w'.heap.size)) l w' := by
 obtain ⟨f, hf, hd⟩ := h.hs;have hle := h.below.size;refine ⟨h.below.trans ⟨hb.os, hb.tape, hb.output, hb.size, fun k hk => hb.block k (by omega)⟩, fun k hk => ?_, f, hf.loc (fun k hk => hb.block k (hf.lt k hk)), fun k hk => ⟨(hd k hk).1, fun hz => ?_⟩⟩
 ·rcases hk with hk | hk
  ·exact QU (h.zlt k hk) hb.size
  ·exact hk.2
 ·rcases hz with hz | hz
  ·exact (hd k hk).2 hz
  ·have := hf.lt k hk; omega
theorem St.sub_upd (h : St w0 Z l w) (hi : l[i]? = some (Ei L)) (hj : L[j]? = some a) (hstep : ∀ f, a.F w f -> ∃ f', a'.F w' f' /\ (∀ k, f' k -> f k \/ w.heap.size <= k) /\ IJ f w w') : St w0 Z (l.set i (Ei (L.set j a'))) w' /\ BS w0 Z w w' := by
 refine h.upd hi (fun f hf => ?_);obtain ⟨fa, ha, hsub, hnext⟩ := Hs.at (show Hs L w f from hf) hj;obtain ⟨fa', ha', hn, hc⟩ := hstep fa ha;obtain ⟨f', hf', hn'⟩ := hnext a' w' fa' ha' hn hc.block;exact ⟨f', hf', hn', hc.mono hsub⟩
theorem St.sub_row (h : St w0 Z l w) {v : Pd} {e size n : Nat} {xs : List Pd} (hi : l[i]? = some (Ei L)) (hj : L[j]? = some (Bw v e size n xs)) : w.ownsRow 0 e size v n xs := by
 obtain ⟨f, hf, _⟩ := h.hs;obtain ⟨fa, ha, _⟩ := hf.at hi;obtain ⟨fb, hb, _⟩ := Hs.at (show Hs L w fa from ha) hj;exact hb.2
theorem IP {v v' : Pd} {e size n n' : Nat} {xs xs' : List Pd} (ho : w'.ownsRow 0 e size v' n' xs') (hg : w.grownBy w' v.ownBlock)
  (hat : v'.ownBlock = v.ownBlock \/ ∃ k, v'.ownBlock = some k /\ w.heap.size <= k) : ∀ f, (Bw v e size n xs).F w f -> ∃ f', (Bw v' e size n' xs').F w' f' /\ (∀ k, f' k -> f k \/ w.heap.size <= k) /\ IJ f w w' := fun f hf =>
 ⟨fun k => v'.ownBlock = some k, ⟨fun k => RY, ho⟩, fun k hk => by
  rcases hat with h1 | ⟨b, h1, h2⟩
  ·exact .inl ((hf.1 k).2 (h1 ▸ hk))
  ·rw [h1] at hk; injection hk with hk; subst hk; exact .inr h2, (IJ.of_grown hg).mono (fun k hk => (hf.1 k).2 hk)⟩
theorem Hs.snoc_nil : ∀ {L : List Bj} {f : Nat -> Prop} (e size : Nat), Hs L w f -> Hs (L ++ [Bw (.slice none 0 0) e size 0 []]) w f
 | [], f, e, size, h => ⟨fun _ => False, f, fun k => by simp, fun k h1 => h1.elim, ⟨fun k => by simp [PT], Ia _ _ _ _⟩, h⟩
 | a :: r, f, e, size, ⟨f1, f2, he, hd, ha, hr⟩ => ⟨f1, f2, he, hd, ha, Hs.snoc_nil e size hr⟩
theorem St.sub_nil (h : St w0 Z l w) (hi : l[i]? = some (Ei L)) (e size : Nat) : St w0 Z (l.set i (Ei (L ++ [Bw (.slice none 0 0) e size 0 []]))) w :=
 (h.upd (a' := Ei (L ++ [Bw (.slice none 0 0) e size 0 []])) hi (fun f hf => ⟨f, Hs.snoc_nil e size (show Hs L w f from hf), fun k hk => .inl hk, rfl, rfl, rfl, Ps _, fun _ _ _ => rfl⟩)).1
theorem St.lit (h : St w0 Z l w) (hi : l[i]? = some IN) (e size n : Nat) (hn : 0 < n) (hm : n <= maxLen) (cs : List Pd) (hl : cs.length = n * size) :
  St w0 Z (l.set i (Bw (.slice (some ⟨w.heap.size, 0, none⟩) n n) e size n cs)) (w.alloc (.cells cs.toArray e)) /\ BS w0 Z w (w.alloc (.cells cs.toArray e)) :=
 h.upd hi (fun f hf => ⟨fun k => k = w.heap.size, ⟨fun k => by simp [PT, eq_comm], hl, .inr ⟨w.heap.size, n, cs.toArray, rfl, Qa _, heap_alloc_new w _, Ps _, hm, by simpa using hl, by simp [<- hl]⟩⟩, fun k hk => .inr (Nat.le_of_eq hk.symm), rfl, rfl, rfl, by simp, fun k hk _ => heap_alloc_old w _ hk⟩)
theorem EI {v : Pd} {e n k : Nat} {xs : List Pd} (h : w.ownsRow 0 e 1 v n xs) (hk : k < n) (u : Pd) : ∃ g cap, v = .slice (some ⟨g, 0, none⟩) n cap /\ (w.setCell ⟨g, k, none⟩ u).ownsRow 0 e 1 v n (xs.set k u) /\ w.grownBy (w.setCell ⟨g, k, none⟩ u) v.ownBlock /\ (∃ t, xs[k]? = some t /\ w.cell? ⟨g, k, none⟩ = some t) /\ w.frozen? ⟨g, k, none⟩ = BK := by
 obtain ⟨h1, h2⟩ := h;rcases h2 with ⟨rfl, rfl⟩ | ⟨g, cap, cur, rfl, _, hg, hnc, hcm, hcs, ht⟩
 ·omega
 ·have hks : k < cur.size := by omega
  have hkx : k < xs.length := by omega
  refine ⟨g, cap, rfl, ⟨by simpa using h1, .inr ⟨g, cap, cur.setIfInBounds k u, rfl, Qa _, Gd hg k u, hnc, hcm, by simpa using hcs, ?_⟩⟩, ⟨rfl, rfl, rfl, by simp [SD], fun q _ hq => QI w ⟨g, k, none⟩ u q (fun e => hq (by simp [PT, e]))⟩, ⟨xs[k], Pg hkx, ?_⟩, Ad hg k⟩
  ·rw [<- ht];simp [List.take_set]
  ·refine (Aa hg k).trans ?_;subst ht;simp [hks]
theorem St.row_out (h : St w0 Z l w) {v : Pd} {e size n : Nat} {xs : List Pd} (hi : l[i]? = some (Bw v e size n xs)) : w.ownsRow w0.heap.size e size v n xs /\ ∀ k, v.ownBlock = some k -> w0.heap.size <= k /\ ¬ Z k := by
 obtain ⟨f, hf, hd⟩ := h.hs;obtain ⟨fa, ha, hsub, _⟩ := hf.at hi;have h1 : ∀ k, v.ownBlock = some k -> w0.heap.size <= k /\ ¬ Z k := fun k hk => hd k (hsub k ((ha.1 k).2 hk))
 exact ⟨Kd.own_raise ha.2 (fun k hk => (h1 k hk).1), h1⟩
theorem St.sub_out (h : St w0 Z l w) {v : Pd} {e size n : Nat} {xs : List Pd} (hi : l[i]? = some (Ei L)) (hj : L[j]? = some (Bw v e size n xs)) : w.ownsRow w0.heap.size e size v n xs /\ ∀ k, v.ownBlock = some k -> w0.heap.size <= k /\ ¬ Z k := by
 obtain ⟨f, hf, hd⟩ := h.hs;obtain ⟨fa, ha, hsub, _⟩ := hf.at hi;obtain ⟨fb, hb, hsub2, _⟩ := Hs.at (show Hs L w fa from ha) hj;have h1 : ∀ k, v.ownBlock = some k -> w0.heap.size <= k /\ ¬ Z k := fun k hk => hd k (hsub k (hsub2 k ((hb.1 k).2 hk)))
 exact ⟨Kd.own_raise hb.2 (fun k hk => (h1 k hk).1), h1⟩
theorem St.row_apart (h : St w0 Z l w) {v u : Pd} {e e' size size' n n' : Nat} {xs xs' : List Pd} (hi : l[i]? = some (Bw v e size n xs)) (hj : l[j]? = some (Bw u e' size' n' xs')) (hij : i ≠ j) : ∀ k, v.ownBlock = some k -> some k ≠ u.ownBlock := by
 obtain ⟨f, hf, _⟩ := h.hs;obtain ⟨fa, fb, ha, hb, hd⟩ := hf.apart hi hj hij;exact fun k hk he => hd k ((ha.1 k).2 hk) ((hb.1 k).2 he.symm)
theorem St.row_sub_apart (h : St w0 Z l w) {v u : Pd} {e e' size size' n n' p : Nat} {xs xs' : List Pd} (hi : l[i]? = some (Bw v e size n xs)) (hj : l[j]? = some (Ei L)) (hp : L[p]? = some (Bw u e' size' n' xs')) (hij : i ≠ j) : ∀ k, u.ownBlock = some k -> some k ≠ v.ownBlock := by
 obtain ⟨f, hf, _⟩ := h.hs;obtain ⟨fa, fb, ha, hb, hd⟩ := hf.apart hi hj hij;obtain ⟨fc, hc, hsub, _⟩ := Hs.at (show Hs L w fb from hb) hp;exact fun k hk he => hd k ((ha.1 k).2 he.symm) (hsub k ((hc.1 k).2 hk))
theorem St.sub_apart (h : St w0 Z l w) {v u : Pd} {e e' size size' n n' p q : Nat} {xs xs' : List Pd} (hi : l[i]? = some (Ei L)) (hp : L[p]? = some (Bw v e size n xs)) (hq : L[q]? = some (Bw u e' size' n' xs')) (hpq : p ≠ q) : ∀ k, v.ownBlock = some k -> some k ≠ u.ownBlock := by
 obtain ⟨f, hf, _⟩ := h.hs;obtain ⟨fa, ha, hsub, _⟩ := hf.at hi;obtain ⟨fb, fc, hb, hc, hd⟩ := Hs.apart (show Hs L w fa from ha) hp hq hpq;exact fun k hk he => hd k ((hb.1 k).2 hk) ((hc.1 k).2 he.symm)
end
section
variable {P : Qc} {ops : Array Oper} {o : Oper} {a : Act} {Q : Exit -> Act -> Pe -> Prop} {K : Act -> Pe -> Prop}
theorem CI {W : Pe} (hw : PR o (QP ops a.tmps) = true) (s x : Rt) (t e : Q9) (z : Pd) (size Qz : Nat)
  (ho : o.op = .call { callee := .builtin .append, args := #[s, x], argTypes := #[t, t] })
  (ht : P.underlying t = some (.slice e)) (hinfo : (P.info? e).map (fun i => (i.zero, i.size, i.bytes)) = some (some z, size, Qz)) (hz : z.cells.size = size) (hs0 : 0 < size) (hb0 : 0 < Qz)
  (v u : Pd) (n : Nat) (xs ys : List Pd) (hs : a.eval s = v) (hx : a.eval x = u) (h1 : ∀ u ∈ ys, u.oneCell' = true)
  (HO : W.ownsRow 0 e size v n xs) (HX : W.ownsRow 0 e size u 1 ys) (hl : (n + 1) * Qz <= 140737488355328)
  (h : ∀ v1 w1, w1.ownsRow 0 e size v1 (n + 1) (xs ++ ys) -> W.grownBy w1 v.ownBlock -> (v1.ownBlock = v.ownBlock \/ ∃ b, v1.ownBlock = some b /\ W.heap.size <= b) -> K (a.put o.dst v1) w1) :
  if PR o (QP ops a.tmps) = true then QE P o a W K Q else K (a.put o.dst Pc) W := by
 obtain ⟨i0, hi, hzz⟩ := Qb.1 hinfo;simp only [QQ] at hzz;obtain ⟨hz0, hz1, hz2⟩ := hzz;have hlen : n + 1 <= 140737488355328 := Qo (QO _ hb0) hl;rw [if_pos hw];rcases HX with ⟨hyl, ⟨_, h0⟩ | ⟨g, cap, cur, rfl, _, hg, _, _, hcs, hty⟩⟩
 ·cases h0
 obtain ⟨v1, w1, hr, hown, hgr, _, hat⟩ := run_append_own_at (P := P) W 0 t o.type e i0 z size Qz ht hi hz0 hz1 hz2 hz hs0 v n xs HO ⟨g, 0, none⟩ 1 cap ys (by rw [hyl])
  (fun j q hj => by
   have hj' : (cur.toList.take (1 * size))[j]? = some q := by rw [hty]; exact hj
   have := (Aa hg j);rw [PW] at hj'
   split at hj'
   ·have h2 := this.trans (show cur[j]? = some q by simpa using hj');simp only [Addr.add, R1]
    split
    ·next h0 => subst h0; exact h2
    ·exact h2
   ·cases hj') h1 (by simp only [maxLen]; omega) hl (by omega)
 unfold QE Rz;simp only [ho, resolve, invoke, builtin, Sem.run_bind, Sem.run_pure, Result.andThen_ok, List.map_toArray, List.map_cons, List.map_nil, hs, hx, hr];refine h v1 w1 hown hgr ?_;rcases hat with hat | hat
 ·exact .inl hat
 ·exact .inr ⟨_, hat, by simp⟩
end
end Go.Proofs.V.SL
