/- The texts of this claim that lie below its row, in their order: WTab WFour WFootNe WAt WEqStruct WRepsOne WInv WInvWords WGuard Qx0 Qx1 MPlan. -/
import Derived.Laws.StructEq
import Derived.Test.YtfmlpkeaiohknaaProg
import Derived.Below
import Derived.Deep.Draws
import Derived.Deep.AppendLies
import Derived.Maps.AppendAt
import Derived.OwnWalk
import Derived.Laws.BytesArg
import Derived.Laws.MakeOwn
import Derived.Laws.OwnMore
import Derived.Deep.OwnRows
import Derived.Tactics
import Derived.Lib.ConvBytes
import Derived.Laws.Slices
import Derived.WalkKit
import Derived.KernelRfl
import Derived.RowKit3
import Derived.Deep.LoopGhost
import Derived.Deep.QuietTactic
import Derived.BigQuiet
import Derived.WideLaws
import Derived.Deep.DeepCutAuto
import Derived.Deep.CutBlock
import Derived.Deep.RegionHeld3
import Derived.Laws.Rows
import Derived.Lib.AppendStr
import Derived.ArgAppend
import Derived.Laws.IdiomCopy
import Derived.OrdersHeld
import Derived.Laws.BitsLemmas
import Derived.RowKit
import Derived.Test.YtfmlpkeaiohknaaZA2
set_option linter.unusedVariables false
set_option linter.unusedSimpArgs false
set_option maxHeartbeats 8000000
set_option maxRecDepth 100000
open Array renaming toList_setIfInBounds -> Su
open Bool renaming false -> BK, and_eq_true -> PI, or_eq_true -> Rg, true_or -> Rc, not_false -> SE
open Go renaming Program -> Qc, World -> Pe, Value -> Pd
open Go.Act renaming put -> Ph
open Go.Region renaming Mode -> Qr, binds -> Qt, ready -> Qe, free -> Sq, wanted -> PR
open Go.RowKit renaming wrap64 -> Pq
open Go.RowKit.Below renaming refl -> Pn
open Go.Value renaming slice -> Pk
open List renaming range -> Rw, getD_eq_getElem?_getD -> Pt, all_cons -> RF, filter_cons -> QX, getElem?_map -> PU, getElem?_range -> RV, getElem?_eq_none -> QC, filter_congr -> SQ, contains_iff_mem -> Qy, mem_filter -> Qp, mem_range -> Qx, getElem?_eq_some_iff -> Pf, mem_cons_self -> QY, all_eq_true -> Q7, length_cons -> PX, getElem?_cons_zero -> QR, nil_append -> Pu, mem_cons -> Qg, getElem?_eq_getElem -> Pg, cons_append -> PA, map_toArray -> PN, map_cons -> Py, map_nil -> PZ, length_drop -> PG, length_take -> Pp
open Nat renaming testBit_or -> QK, succ_mul -> QZ, le_refl -> Ps, le_trans -> Qo
open Option renaming map_some -> Ra, bind_some -> Pj, bind_eq_some_iff -> Q3
open Option.some renaming injEq -> QA, inj -> Px
-- PRINTED BY print.sh 35421559b90ae4d0a3588c463048766b98c2df88dd9212a6774a882060cdf62d: not written by this session
namespace Go.Proofs.V.Last
open Go.Proofs.V.Words (A7)
def EJ (md : Qr) (o : Oper) : List Nat := (o.after.toList.filter (fun e => Qt md e)).map (fun e => e.on)
def Ie (md : Qr) (ops : Array Oper) (i : Nat) (oi : Oper) : List Nat := (Rw ops.size).filter fun j => !(j == i) && match ops[j]? with
 | some oj => !(oj.after.any (fun e => Qt md e && e.on == i) || oi.apart ops oj)
 | none => BK
def Cd (md : Qr) (ops : Array Oper) : Bool × List (List Nat × List Nat) := (Region.noSelect ops, (Rw ops.size).map fun i => match ops[i]? with
 | some o => (EJ md o, Ie md ops i o)
 | none => ([], []))
def D7 (T : List (List Nat × List Nat)) (l : List Bool) (i : Nat) : Bool := !l.getD i true && match T[i]? with
 | some r => r.1.all (fun j => l.getD j BK)
 | none => BK
def F2 (T : List (List Nat × List Nat)) (l : List Bool) : List Nat := (Rw T.length).filter (D7 T l)
def IQ (T : List (List Nat × List Nat)) (l : List Bool) (i : Nat) : Bool := match T[i]? with
 | some r => r.2.all (fun j => l.getD j true)
 | none => BK
def Ge (T : List (List Nat × List Nat)) (l : List Bool) : Bool := (Rw T.length).all fun j => !l.getD j BK || match T[j]? with
 | some r => r.1.all (fun k => l.getD k BK)
 | none => true
def FD (T : List (List Nat × List Nat)) (i : Nat) : Nat -> Nat -> Bool
 | 0, _ => BK
 | fuel + 1, d => match T[d]? with
  | some r => r.1.any fun j => j == i || FD T i fuel j
  | none => BK
def Kg (T : List (List Nat × List Nat)) (l : List Bool) (ds : List Nat) (i : Nat) : Bool := ds.all fun d => l.getD d true || FD T i T.length d
section
variable {md : Qr} {ops : Array Oper} {T : Bool × List (List Nat × List Nat)} {l l' li lj lk : Array Bool} {ds : List Nat} {i j k : Nat}
theorem gd (l : Array Bool) (j : Nat) (b : Bool) : l.getD j b = l.toList.getD j b := by simp [Array.getD_eq_getD_getElem?, Pt]
theorem Hh (o : Oper) (p : Nat -> Bool) : o.after.all (fun e => !Region.binds md e || p e.on) = (EJ md o).all p := by
 unfold EJ;rw [<- Array.all_toList]
 induction o.after.toList with
 | nil => rfl
 | cons e r ih =>
  rw [RF, ih, QX];cases h : Qt md e <;> simp
theorem KT (o : Oper) (p : Nat -> Bool) : o.after.any (fun e => Qt md e && p e.on) = (EJ md o).any p := by
 unfold EJ;rw [<- Array.any_toList]
 induction o.after.toList with
 | nil => rfl
 | cons e r ih =>
  rw [List.any_cons, ih, QX];cases h : Qt md e <;> simp
theorem DH : (Cd md ops).2.length = ops.size := by simp [Cd]
theorem EK {o : Oper} (h : ops[i]? = some o) : (Cd md ops).2[i]? = some (EJ md o, Ie md ops i o) := by
 have hi := (Array.getElem?_eq_some_iff.1 h).1;unfold Cd;rw [PU, RV hi, Ra, h]
theorem EL (h : ops[i]? = none) : (Cd md ops).2[i]? = none := by
 have hi : ops.size <= i := Array.getElem?_eq_none_iff.1 h;exact QC (by rw [DH]; exact hi)
theorem JA : D7 (Cd md ops).2 l.toList i = (!l.getD i true && ((ops[i]?).map (·.after.all fun e => !Region.binds md e || l.getD e.on BK)).getD BK) := by
 unfold D7;rw [gd];cases h : ops[i]? with
 | none => rw [EL h]; rfl
 | some o =>
  rw [EK h];simp only [Ra, Option.getD_some];rw [<- Hh];simp only [gd]
theorem Ej : Qe md ops l = F2 (Cd md ops).2 l.toList := by
 unfold Qe F2;rw [DH];refine SQ (fun i _ => ?_);rw [JA]
theorem Kh : Sq md ops l i = IQ (Cd md ops).2 l.toList i := by
 unfold Sq IQ;cases h : ops[i]? with
 | none => rw [EL h]
 | some oi =>
  rw [EK h];simp only [Ie];rw [List.all_filter]
  congr 1
  funext j
  rw [gd];cases hj : ops[j]? with
  | none => cases (j == i) <;> cases (l.toList.getD j true) <;> simp
  | some oj =>
   cases (j == i) <;> cases (l.toList.getD j true) <;> cases (oj.after.any (fun e => Qt md e && e.on == i) || oi.apart ops oj) <;> simp_all
theorem KU : Region.closedB md ops l = Ge (Cd md ops).2 l.toList := by
 unfold Region.closedB Ge;rw [DH]
 congr 1
 funext j
 rw [gd];cases h : ops[j]? with
 | none => rw [EL h]
 | some o =>
  rw [EK h];simp only;rw [<- Hh];simp only [gd]
theorem IR : ∀ (fuel d : Nat), Region.reachB md ops i fuel d = FD (Cd md ops).2 i fuel d
 | 0, _ => rfl
 | fuel + 1, d => by
  unfold Region.reachB FD;cases h : ops[d]? with
  | none => rw [EL h]
  | some o =>
   rw [EK h];simp only;rw [<- KT]
   congr 1
   funext e
   rw [IR fuel]
theorem Ng : Region.lastB md ops l ds i = Kg (Cd md ops).2 l.toList ds i := by
 unfold Region.lastB Kg;rw [DH]
 congr 1
 funext d
 rw [gd, IR]
theorem FU (h : D7 T.2 l.toList i = true) (hT : Cd md ops = T) : (Qe md ops l).contains i = true := by
 subst hT;rw [Ej];unfold F2;rw [Qy, Qp, Qx];refine ⟨?_, h⟩;unfold D7 at h;rw [PI] at h;cases hq : (Cd md ops).2[i]? with
 | none => rw [hq] at h; simp at h
 | some r => exact (Pf.1 hq).1
theorem JB (h : (l.toList.set i true == l'.toList) = true) : (l.setIfInBounds i true == l') = true := by
 rw [beq_iff_eq] at h ⊢;apply Array.ext';rw [Su];exact h
def OD (T : Bool × List (List Nat × List Nat)) (l l' : List Bool) (i : Nat) : Bool := T.1 && IQ T.2 l i && D7 T.2 l i && (l.set i true == l')
theorem AA (hT : Cd md ops = T) (h : OD T l.toList l'.toList i = true) : Nd md ops l l' i = true := by
 simp only [OD, PI] at h;obtain ⟨⟨⟨h1, h2⟩, h3⟩, h4⟩ := h;have h5 := FU h3 hT;have h6 := JB h4;subst hT;simp only [Nd, PI];exact ⟨⟨⟨h1, by rw [Kh]; exact h2⟩, h5⟩, h6⟩
def M1 (T : Bool × List (List Nat × List Nat)) (ds : List Nat) (l l' : List Bool) (i : Nat) : Bool := T.1 && IQ T.2 l i && D7 T.2 l i && Ge T.2 l && Kg T.2 l ds i && (l.set i true == l')
theorem Nh (hT : Cd md ops = T) (h : M1 T ds l.toList l'.toList i = true) : IM md ops ds l l' i = true := by
 simp only [M1, PI] at h;obtain ⟨⟨⟨⟨⟨h1, h2⟩, h3⟩, h4⟩, h5⟩, h6⟩ := h;have h7 := FU h3 hT;have h8 := JB h6;subst hT;simp only [IM, PI];exact ⟨⟨⟨⟨⟨h1, by rw [Kh]; exact h2⟩, h7⟩, by rw [KU]; exact h4⟩, by rw [Ng]; exact h5⟩, h8⟩
theorem C7 (hT : Cd md ops = T) (h : (F2 T.2 l.toList == [i] && l.toList.set i true == l'.toList) = true) : FC md ops l l' i = true := by
 simp only [PI] at h;obtain ⟨h1, h2⟩ := h;subst hT;simp only [FC, PI];exact ⟨by rw [Ej]; exact h1, JB h2⟩
theorem Dl (hT : Cd md ops = T) (h : (F2 T.2 l.toList == []) = true) : (Qe md ops l == []) = true := by
 subst hT;rw [Ej];exact h
def LW (B : List Nat) (d : Nat) : List Nat -> Nat
 | [] => 0
 | n :: r => (2 ^ n ||| (if n < d then B.getD n 0 else 0)) ||| LW B d r
def C0 (T : List (List Nat × List Nat)) (B : List Nat) : Bool := (Rw T.length).all fun d => match T[d]? with
 | some r => (B.getD d 0 ||| LW B d r.1) == LW B d r.1
 | none => BK
theorem DX {B : List Nat} {d i : Nat} : ∀ {ns : List Nat}, (LW B d ns).testBit i = true -> ∃ n ∈ ns, n = i \/ (n < d /\ (B.getD n 0).testBit i = true)
 | [], h => by simp [LW] at h
 | n :: r, h => by
  unfold LW at h;rw [QK, QK, Rg, Rg] at h;rcases h with (h | h) | h
  ·rw [Nat.testBit_two_pow] at h;exact ⟨n, QY, .inl (by simpa using h)⟩
  ·by_cases hn : n < d
   ·rw [if_pos hn] at h;exact ⟨n, QY, .inr ⟨hn, h⟩⟩
   ·rw [if_neg hn] at h;simp at h
  ·obtain ⟨m, hm, h2⟩ := DX h;exact ⟨m, List.mem_cons_of_mem _ hm, h2⟩
theorem Hi {T : List (List Nat × List Nat)} {B : List Nat} (hB : C0 T B = true) : ∀ (fuel d : Nat), d < fuel -> d < T.length -> (B.getD d 0).testBit i = true -> FD T i fuel d = true
 | 0, d, h, _, _ => by omega
 | fuel + 1, d, h, hd, hb => by
  have h1 := Q7.1 hB d (Qx.2 hd);cases hr : T[d]? with
  | none => rw [hr] at h1; simp at h1
  | some r =>
   rw [hr] at h1;simp only [beq_iff_eq] at h1;have h2 : (LW B d r.1).testBit i = true := by rw [<- h1, QK, hb, Rc]
   obtain ⟨n, hn, h3⟩ := DX h2;unfold FD;rw [hr];simp only;rw [List.any_eq_true];refine ⟨n, hn, ?_⟩;rcases h3 with rfl | ⟨h4, h5⟩
   ·simp
   ·rw [Hi hB fuel n (by omega) (by omega) h5, Bool.or_true]
def NM (T : List (List Nat × List Nat)) (B : List Nat) (l : List Bool) (ds : List Nat) (i : Nat) : Bool := ds.all fun d => l.getD d true || (decide (d < T.length) && (B.getD d 0).testBit i)
def NN (T : Bool × List (List Nat × List Nat)) (B : List Nat) (ds : List Nat) (l l' : List Bool) (i : Nat) : Bool := T.1 && IQ T.2 l i && D7 T.2 l i && Ge T.2 l && NM T.2 B l ds i && (l.set i true == l')
theorem BC {B : List Nat} (hT : Cd md ops = T) (hB : C0 T.2 B = true) (h : NN T B ds l.toList l'.toList i = true) : IM md ops ds l l' i = true := by
 refine Nh hT ?_;simp only [NN, M1, PI] at h ⊢;obtain ⟨⟨⟨⟨⟨h1, h2⟩, h3⟩, h4⟩, h5⟩, h6⟩ := h;refine ⟨⟨⟨⟨⟨h1, h2⟩, h3⟩, h4⟩, ?_⟩, h6⟩;unfold NM at h5;unfold Kg;rw [Q7] at h5 ⊢;intro d hd;have h7 := h5 d hd;rw [Rg, PI, decide_eq_true_eq] at h7;rcases h7 with h7 | ⟨h8, h9⟩
 ·rw [h7, Rc]
 ·rw [Hi hB _ d h8 h8 h9, Bool.or_true]
theorem BQ {P : Qc} {Q : Exit -> Act -> Pe -> Prop} {S : Pe -> Prop} {n : Nat} {a : Act} {w : Pe} {B : List Nat} (hT : Cd md ops = T) (hB : C0 T.2 B = true) (h : A7 (Cd md ops = T) -> A7 (C0 T.2 B = true) -> Bi P md ops Q S ds n l a w) : Bi P md ops Q S ds n l a w := h ⟨hT⟩ ⟨hB⟩
end
def EX : Code -> Nat -> Option (Array Oper)
 | .region id ops _, k => if id == k then some ops else none
 | .seq a b, k => match EX a k with
  | some o => some o
  | none => EX b k
 | .cond _ a b, k => match EX a k with
  | some o => some o
  | none => EX b k
 | .block _ c, k => EX c k
 | .loop c, k => EX c k
 | .scope c, k => EX c k
 | .rangeFunc _ _ a b, k => match EX a k with
  | some o => some o
  | none => EX b k
 | _, _ => none
def DP (f : Func) (k : Nat) : Array Oper := ((f.body.bind fun c => EX c k)).getD #[]
end Go.Proofs.V.Last
-- PRINTED BY print.sh 35421559b90ae4d0a3588c463048766b98c2df88dd9212a6774a882060cdf62d: not written by this session
namespace Go.Proofs.V.Last
section
variable {P : Qc} {ops : Array Oper} {Q : Exit -> Act -> Pe -> Prop} {md : Qr} {S : Pe -> Prop} {ds : List Nat} {T : Bool × List (List Nat × List Nat)}
end
end Go.Proofs.V.Last
-- PRINTED BY print.sh 35421559b90ae4d0a3588c463048766b98c2df88dd9212a6774a882060cdf62d: not written by this session
namespace Go.Proofs.V.Words
open Go.RowKit
namespace Kd
section
variable {α : Type} {d : Kd α} {W : Pe} {g n : Nat} {S ok : Nat -> Prop} {A : Option Addr} {ad : Addr} {xs : List α}
end
end Kd
-- PRINTED BY print.sh 35421559b90ae4d0a3588c463048766b98c2df88dd9212a6774a882060cdf62d: not written by this session
section
variable {w w' u : Pe} {m B g : Nat} {o : Obj} {Bw : Option Nat} {S : Nat -> Prop} {a : Addr} {v : Pd}
end
namespace Kd
section
variable {α : Type} {d : Kd α} {e base n m : Nat} {ok : Nat -> Prop} {w w' : Pe} {v : Pd} {A : Option Addr} {xs : List α}
end
end Kd
-- PRINTED BY print.sh 35421559b90ae4d0a3588c463048766b98c2df88dd9212a6774a882060cdf62d: not written by this session
section
variable {P : Qc} {d : Nat} {xs ys : Array Pd} {f : Field} {fs : List Field} {a b : Pd} {r s : Bool} {w : Pe}
end
end Go.Proofs.V.Words
-- PRINTED BY print.sh 35421559b90ae4d0a3588c463048766b98c2df88dd9212a6774a882060cdf62d: not written by this session
namespace Go.Proofs.V.Words
theorem Cj.front {α : Type} {R : α -> List Pd -> Prop} {size : Nat} {ps : List α} {cs c all : List Pd} {p : α} (hp : R p c) (hc : c.length = size) (h : Cj R size ps cs) (ha : c ++ cs = all) : Cj R size (p :: ps) all := by
 subst ha;refine ⟨by rw [List.length_append, hc, h.1, PX, QZ, Nat.add_comm], fun j q hq => ?_⟩;cases j with
 | zero =>
  simp only [QR, QA] at hq;subst hq;rw [Nat.zero_mul, List.drop_zero, List.take_append_of_le_length (by omega), List.take_of_length_le (by omega)];exact hp
 | succ j =>
  simp only [List.getElem?_cons_succ] at hq;have h1 := h.2 j q hq;rw [QZ, List.drop_append, List.drop_of_length_le (by rw [hc]; exact Nat.le_add_left _ _), Pu, hc, Nat.add_sub_cancel];exact h1
theorem Cj.c4 {α : Type} {R : α -> List Pd -> Prop} {ps : List α} {cs : List Pd} {p : α} {va vb vc vd : Pd} (hp : R p [va, vb, vc, vd]) (h : Cj R 4 ps cs) : Cj R 4 (p :: ps) (va :: vb :: vc :: vd :: cs) := Cj.front hp rfl h rfl
end Go.Proofs.V.Words
-- PRINTED BY print.sh 35421559b90ae4d0a3588c463048766b98c2df88dd9212a6774a882060cdf62d: not written by this session
namespace Go.Proofs.V.Last
def up (b : Nat -> Bool) (i : Nat) : Nat -> Bool := fun j => if j = i then true else b j
theorem Gf (b : Nat -> Bool) (i : Nat) : up b i i = true := by simp [up]
theorem Gr {b : Nat -> Bool} {i j : Nat} (h : j ≠ i) : up b i j = b j := by simp [up, h]
def Ig (n : Nat) (O : List Nat) (b : Nat -> Bool) : List Bool := (Rw n).map fun j => if O.contains j then b j else true
def Bm (a : Act) (b : Nat -> Bool) : List (Nat × Tmp × Pd) -> Act
 | [] => a
 | e :: r => Bm (if b e.1 = true then a.put (some e.2.1) e.2.2 else a) b r
section
variable {P : Qc} {ops : Array Oper} {Q : Exit -> Act -> Pe -> Prop} {md : Qr} {T : Bool × List (List Nat × List Nat)} {B : List Nat} {O : List Nat} {b : Nat -> Bool} {i j n : Nat}
theorem JC : (Ig n O b).length = n := by simp [Ig]
theorem Gg {d : Bool} (hj : j < n) : (Ig n O b).getD j d = if O.contains j then b j else true := by
 simp [Ig, Pt, hj]
theorem O2 (hi : O.contains i = true) : (Ig n O b).set i true = Ig n O (up b i) := by
 apply List.ext_getElem?;intro j;by_cases hj : j < n
 ·by_cases hij : i = j
  ·subst hij;have hl : i < (Ig n O b).length := by rw [JC]; exact hj
   rw [List.getElem?_set_self hl];simp only [Ig, PU, RV hj, Ra, hi, if_true, Gf]
  ·rw [List.getElem?_set_ne hij];simp only [Ig, PU, RV hj, Ra];rw [Gr (Ne.symm hij)]
 ·rw [QC (by simp [Ig]; omega), QC (by simp [Ig]; omega)]
def F3 (P : Qc) (ops : Array Oper) (Q : Exit -> Act -> Pe -> Prop) (B : List Nat) (O : List Nat) (I : (Nat -> Bool) -> Act -> Pe -> Prop) (i : Nat) : Prop :=
 ∀ b a w, I b a w -> b i = BK -> (∀ j, (O.contains j && (B.getD i 0).testBit j) = true -> b j = true) -> (∀ d, (O.contains d && (B.getD d 0).testBit i) = true -> b d = BK) ->
  ∃ oi, ops[i]? = some oi /\ ∀ K : Act -> Pe -> Prop, Shut (∀ a' w', I (up b i) a' w' -> K a' w') -> if PR oi (yielded ops a.tmps) = true then Oper.wp P oi a w K Q else K (a.put oi.dst undef) w
theorem CB {I : (Nat -> Bool) -> Act -> Pe -> Prop} : ∀ i ∈ ([] : List Nat), F3 P ops Q B O I i := fun _ h => by cases h
theorem Am {I : (Nat -> Bool) -> Act -> Pe -> Prop} {rs : List Nat} (h : F3 P ops Q B O I i) (hs : ∀ j ∈ rs, F3 P ops Q B O I j) : ∀ j ∈ i :: rs, F3 P ops Q B O I j := fun j hj => by
 rcases Qg.1 hj with rfl | hj
 ·exact h
 ·exact hs j hj
def Dw (T : List (List Nat × List Nat)) (O : List Nat) : Bool :=
 (Rw T.length).all (fun d => match T[d]? with
  | some r => (O.contains d || r.1.all fun n => !O.contains n) && r.1.all fun n => decide (n < d)
  | none => BK) && O.all (fun i => decide (i < T.length)) && decide O.Nodup
theorem CZ {T : List (List Nat × List Nat)} (h : Dw T O = true) {d : Nat} {r : List Nat × List Nat} (hr : T[d]? = some r) : (O.contains d = BK -> ∀ n ∈ r.1, O.contains n = BK) /\ ∀ n ∈ r.1, n < d := by
 simp only [Dw, PI] at h;have h1 := Q7.1 h.1.1 d (Qx.2 (Pf.1 hr).1);rw [hr] at h1;simp only [PI, Rg, Q7, decide_eq_true_eq] at h1;refine ⟨fun hd n hn => ?_, h1.2⟩;rcases h1.1 with h2 | h2
 ·rw [hd] at h2; cases h2
 ·simpa using h2 n hn
theorem Hj {T : List (List Nat × List Nat)} (h : Dw T O = true) {i : Nat} (hi : i ∈ O) : i < T.length := by
 simp only [Dw, PI] at h;simpa using Q7.1 h.1.2 i hi
theorem Ih {T : List (List Nat × List Nat)} (h : Dw T O = true) : O.Nodup := by
 simp only [Dw, PI] at h;exact of_decide_eq_true h.2
def M2 (T : List (List Nat × List Nat)) (O : List Nat) (b : Nat -> Bool) : Prop := ∀ d r, T[d]? = some r -> O.contains d = true -> b d = true -> ∀ n ∈ r.1, O.contains n = true -> b n = true
theorem IS {T : List (List Nat × List Nat)} (hw : C0 T B = true) (hk : Dw T O = true) : ∀ (m d : Nat), d <= m -> d < T.length -> O.contains d = BK -> ∀ j, (B.getD d 0).testBit j = true -> O.contains j = BK := by
 intro m
 induction m with
 | zero =>
  intro d hd hl hO j hj;have hd0 : d = 0 := by omega
  subst hd0;have hr : T[0]? = some T[0] := Pg hl;have h1 := Q7.1 hw 0 (Qx.2 hl);rw [hr] at h1;simp only [beq_iff_eq] at h1;have h2 : (LW B 0 T[0].1).testBit j = true := by rw [<- h1, QK, hj, Rc]
  obtain ⟨n, hn, h3⟩ := DX h2;have := (CZ hk hr).2 n hn;omega
 | succ m ih =>
  intro d hd hl hO j hj;have hr : T[d]? = some T[d] := Pg hl;have h1 := Q7.1 hw d (Qx.2 hl);rw [hr] at h1;simp only [beq_iff_eq] at h1;have h2 : (LW B d T[d].1).testBit j = true := by rw [<- h1, QK, hj, Rc]
  obtain ⟨n, hn, h3⟩ := DX h2;have hO2 := (CZ hk hr).1 hO n hn;rcases h3 with rfl | ⟨h4, h5⟩
  ·exact hO2
  ·exact ih n (by omega) (by omega) hO2 j h5
theorem FV {T : List (List Nat × List Nat)} (hw : C0 T B = true) (hk : Dw T O = true) (hc : M2 T O b) : ∀ (m d : Nat), d <= m -> d < T.length -> O.contains d = true -> b d = true -> ∀ j, O.contains j = true -> (B.getD d 0).testBit j = true -> b j = true := by
 intro m
 induction m with
 | zero =>
  intro d hd hl hO hb j hjO hj;have hd0 : d = 0 := by omega
  subst hd0;have hr : T[0]? = some T[0] := Pg hl;have h1 := Q7.1 hw 0 (Qx.2 hl);rw [hr] at h1;simp only [beq_iff_eq] at h1;have h2 : (LW B 0 T[0].1).testBit j = true := by rw [<- h1, QK, hj, Rc]
  obtain ⟨n, hn, h3⟩ := DX h2;have := (CZ hk hr).2 n hn;omega
 | succ m ih =>
  intro d hd hl hO hb j hjO hj;have hr : T[d]? = some T[d] := Pg hl;have h1 := Q7.1 hw d (Qx.2 hl);rw [hr] at h1;simp only [beq_iff_eq] at h1;have h2 : (LW B d T[d].1).testBit j = true := by rw [<- h1, QK, hj, Rc]
  obtain ⟨n, hn, h3⟩ := DX h2;rcases h3 with rfl | ⟨h4, h5⟩
  ·exact hc d _ hr hO hb n hn hjO
  ·cases hO2 : O.contains n with
   | true => exact ih n (by omega) (by omega) hO2 (hc d _ hr hO hb n hn hO2) j hjO h5
   | false =>
    have := IS hw hk n n (Ps _) (by omega) hO2 j h5;rw [hjO] at this;cases this
theorem IT : ∀ {O : List Nat}, O.Nodup -> i ∈ O -> b i = BK -> (O.filter fun j => !up b i j).length + 1 = (O.filter fun j => !b j).length
 | [], _, hi, _ => by cases hi
 | x :: r, hn, hi, hb => by
  rw [List.nodup_cons] at hn;rcases Qg.1 hi with rfl | hi
  ·have h1 : (r.filter fun j => !up b i j) = r.filter fun j => !b j := by
    refine SQ (fun j hj => ?_);rw [Gr (fun e => hn.1 (by rw [<- e]; exact hj))]
   rw [QX, QX];simp [Gf, hb, h1]
  ·have hxi : x ≠ i := fun e => hn.1 (e ▸ hi)
   have h1 := IT hn.2 hi hb;rw [QX, QX, Gr hxi];cases hbx : b x
   ·simp only [SE, if_true, PX];omega
   ·simpa using h1
theorem Ni (hT : Cd md ops = T) (hw : C0 T.2 B = true) (hk : Dw T.2 O = true) (I : (Nat -> Bool) -> Act -> Pe -> Prop) (hs : ∀ i ∈ O, F3 P ops Q B O I i)
  (hend : ∀ b a w, (∀ j, O.contains j = true -> b j = true) -> I b a w -> Q .normal a w) :
  ∀ (m : Nat) (b : Nat -> Bool) (a : Act) (w : Pe), (O.filter fun j => !b j).length = m -> M2 T.2 O b -> I b a w -> Bi P md ops Q (fun _ => True) [] m (Ig T.2.length O b).toArray a w := by
 subst hT;have mem_ready' : ∀ {b : Nat -> Bool} {i : Nat}, i ∈ Qe md ops (Ig (Cd md ops).2.length O b).toArray -> i < (Cd md ops).2.length /\ O.contains i = true /\ b i = BK /\ ∀ r, (Cd md ops).2[i]? = some r -> ∀ n ∈ r.1, n < (Cd md ops).2.length -> O.contains n = true -> b n = true := by
  intro b i hi;rw [Ej] at hi;unfold F2 at hi;rw [Qp, Qx] at hi;obtain ⟨hl, h1⟩ := hi;unfold D7 at h1;rw [PI, Gg hl] at h1;obtain ⟨h2, h3⟩ := h1;have h4 : O.contains i = true := by
   cases h : O.contains i with
   | true => rfl
   | false => rw [h] at h2; simp at h2
  rw [h4] at h2;refine ⟨hl, h4, by simpa using h2, fun r hr n hn hnl hO => ?_⟩;rw [hr] at h3;simp only [Q7] at h3;have h5 := h3 n hn;rw [Gg hnl, hO] at h5;simpa using h5
 intro m
 induction m with
 | zero =>
  intro b a w hm hc hI;have hall : ∀ j, O.contains j = true -> b j = true := by
   intro j hj;cases hb : b j with
   | true => rfl
   | false =>
    have : j ∈ O.filter fun j => !b j := Qp.2 ⟨Qy.1 hj, by simp [hb]⟩
    rw [List.eq_nil_of_length_eq_zero hm] at this;cases this
  refine ⟨?_, hend b a w hall hI⟩;refine List.eq_nil_iff_forall_not_mem.2 (fun i hi => ?_);obtain ⟨_, h1, h2, _⟩ := mem_ready' hi;rw [hall i h1] at h2;cases h2
 | succ m ih =>
  intro b a w hm hc hI;refine ⟨fun hr => ?_, fun i hi => ?_⟩
  ·exfalso;have hex : ∃ i, O.contains i = true /\ b i = BK := by
    cases hf : O.filter (fun j => !b j) with
    | nil => rw [hf] at hm; simp at hm
    | cons x r =>
     have hx : x ∈ O.filter (fun j => !b j) := by rw [hf]; exact QY
     rw [Qp] at hx;exact ⟨x, Qy.2 hx.1, by simpa using hx.2⟩
   have hmin : ∀ k, (∃ i, i <= k /\ O.contains i = true /\ b i = BK) -> ∃ i, O.contains i = true /\ b i = BK /\ ∀ j, j < i -> O.contains j = true -> b j = true := by
    intro k
    induction k with
    | zero =>
     rintro ⟨i, hi, h1, h2⟩;exact ⟨i, h1, h2, fun j hj => by omega⟩
    | succ k ihk =>
     rintro ⟨i, hi, h1, h2⟩;by_cases hlow : ∃ j, j <= k /\ O.contains j = true /\ b j = BK
     ·exact ihk hlow
     ·refine ⟨i, h1, h2, fun j hj hO => ?_⟩;cases hb : b j with
      | true => rfl
      | false => exact absurd ⟨j, by omega, hO, hb⟩ hlow
   obtain ⟨i0, h1, h2⟩ := hex;obtain ⟨i, hO, hb, hlow⟩ := hmin i0 ⟨i0, Ps _, h1, h2⟩;have hl := Hj hk (Qy.1 hO);have hin : i ∈ Qe md ops (Ig (Cd md ops).2.length O b).toArray := by
    rw [Ej];unfold F2;rw [Qp, Qx];refine ⟨hl, ?_⟩;unfold D7;rw [Gg hl, hO, hb];have hr2 : (Cd md ops).2[i]? = some (Cd md ops).2[i] := Pg hl;rw [hr2];simp only [if_true, SE, Bool.true_and, Q7];intro n hn;have hni := (CZ hk hr2).2 n hn;rw [Gg (by omega)];cases hOn : O.contains n with
    | true => simpa using hlow n hni hOn
    | false => simp
   rw [hr] at hin;cases hin
  ·obtain ⟨hl, hO, hb, hneed⟩ := mem_ready' hi;have hon : ∀ j, (O.contains j && (B.getD i 0).testBit j) = true -> b j = true := by
    intro j hj;rw [PI] at hj;have hr2 : (Cd md ops).2[i]? = some (Cd md ops).2[i] := Pg hl;have h1 := Q7.1 hw i (Qx.2 hl);rw [hr2] at h1;simp only [beq_iff_eq] at h1;have h2 : (LW B i (Cd md ops).2[i].1).testBit j = true := by rw [<- h1, QK, hj.2, Rc]
    obtain ⟨n, hn, h3⟩ := DX h2;have hni := (CZ hk hr2).2 n hn;rcases h3 with rfl | ⟨h4, h5⟩
    ·exact hneed _ hr2 n hn (by omega) hj.1
    ·cases hO2 : O.contains n with
     | true => exact FV hw hk hc n n (Ps _) (by omega) hO2 (hneed _ hr2 n hn (by omega) hO2) j hj.1 h5
     | false =>
      have := IS hw hk n n (Ps _) (by omega) hO2 j h5;rw [hj.1] at this;cases this
   have hoff : ∀ d, (O.contains d && (B.getD d 0).testBit i) = true -> b d = BK := by
    intro d hd;rw [PI] at hd;cases hbd : b d with
    | false => rfl
    | true =>
     have hdl := Hj hk (Qy.1 hd.1);have := FV hw hk hc d d (Ps _) hdl hd.1 hbd i hO hd.2;rw [hb] at this;cases this
   obtain ⟨oi, hoi, hK⟩ := hs i (Qy.1 hO) b a w hI hb hon hoff;refine wpOp_step hoi (fun K' hK' => hK K' (fun a' w' hI' => hK' a' w' ⟨fun _ _ => trivial, ?_⟩));have hset : (Ig (Cd md ops).2.length O b).toArray.setIfInBounds i true = (Ig (Cd md ops).2.length O (up b i)).toArray := by
    apply Array.ext';rw [Su];exact O2 hO
   rw [hset];refine ih (up b i) a' w' ?_ ?_ hI'
   ·have := IT (Ih hk) (Qy.1 hO) hb;omega
   ·intro d r hr hOd hbd n hn hOn;by_cases hni : n = i
    ·rw [hni, Gf]
    ·rw [Gr hni];by_cases hdi : d = i
     ·subst hdi;exact hneed r hr n hn (by have := (CZ hk hr).2 n hn; omega) hOn
     ·rw [Gr hdi] at hbd;exact hc d r hr hOd hbd n hn hOn
theorem AU {b : Nat -> Bool} {t : Tmp} : ∀ {L : List (Nat × Tmp × Pd)} {a : Act}, (L.all fun e => !(e.2.1 == t)) = true -> (Bm a b L).tmps[t]? = a.tmps[t]?
 | [], _, _ => rfl
 | e :: r, a, h => by
  rw [RF, PI] at h;have he : e.2.1 ≠ t := by simpa using h.1
  unfold Bm;by_cases hb : b e.1 = true
  ·rw [if_pos hb, AU h.2];simp [Ph, Array.getElem?_setIfInBounds_ne he]
  ·rw [if_neg hb];exact AU h.2
theorem Ax {b : Nat -> Bool} {e : Nat × Tmp × Pd} : ∀ {L : List (Nat × Tmp × Pd)} {a : Act} (k : Nat), L[k]? = some e -> ((L.drop (k + 1)).all fun x => !(x.2.1 == e.2.1)) = true -> b e.1 = true -> Nat.ble (e.2.1 + 1) a.tmps.size = true -> (Bm a b L).tmps[e.2.1]? = some e.2.2
 | [], _, _, h, _, _, _ => by cases h
 | x :: r, a, 0, h, hd, hb, ht => by
  simp only [QR, QA] at h;subst h;unfold Bm;rw [if_pos hb, AU (by simpa using hd)];have ht2 : x.2.1 < a.tmps.size := Nat.le_of_ble_eq_true ht;simp [Ph, ht2]
 | x :: r, a, k + 1, h, hd, hb, ht => by
  unfold Bm;refine Ax k (by simpa using h) (by simpa using hd) hb ?_;by_cases hx : b x.1 = true
  ·rw [if_pos hx];simpa [Ph] using ht
  ·rw [if_neg hx];exact ht
theorem M3 {a : Act} {s t : Tmp} {u v : Pd} (h : s ≠ t) : (a.put (some s) u).put (some t) v = (a.put (some t) v).put (some s) u := by
 simp only [Ph];rw [Array.setIfInBounds_comm _ _ h]
theorem F4 {b : Nat -> Bool} {t : Tmp} {v : Pd} : ∀ {L : List (Nat × Tmp × Pd)} {a : Act}, (L.all fun e => !(e.2.1 == t)) = true -> (Bm a b L).put (some t) v = Bm (a.put (some t) v) b L
 | [], _, _ => rfl
 | e :: r, a, h => by
  rw [RF, PI] at h;have he : e.2.1 ≠ t := by simpa using h.1
  unfold Bm;by_cases hb : b e.1 = true
  ·rw [if_pos hb, if_pos hb, F4 h.2, M3 he]
  ·rw [if_neg hb, if_neg hb];exact F4 h.2
theorem Ek {b : Nat -> Bool} {i : Nat} : ∀ {L : List (Nat × Tmp × Pd)} {a : Act}, (L.all fun e => !(e.1 == i)) = true -> Bm a (up b i) L = Bm a b L
 | [], _, _ => rfl
 | e :: r, a, h => by
  rw [RF, PI] at h;have he : e.1 ≠ i := by simpa using h.1
  unfold Bm;rw [Gr he];exact Ek h.2
theorem Hl {b : Nat -> Bool} {i : Nat} {t : Tmp} {v0 v : Pd} : ∀ {L1 L2 : List (Nat × Tmp × Pd)} {a : Act}, b i = BK -> ((L1 ++ L2).all fun e => !(e.1 == i) && !(e.2.1 == t)) = true ->
  (Bm a b (L1 ++ (i, t, v0) :: L2)).put (some t) v = Bm a (up b i) (L1 ++ (i, t, v) :: L2)
 | [], L2, a, hb, h => by
  simp only [Pu] at h ⊢;have h1 : (L2.all fun e => !(e.1 == i)) = true := Q7.2 (fun e he => by have := Q7.1 h e he; simp only [PI] at this; exact this.1);have h2 : (L2.all fun e => !(e.2.1 == t)) = true := Q7.2 (fun e he => by have := Q7.1 h e he; simp only [PI] at this; exact this.2);unfold Bm;rw [if_neg (by rw [hb]; decide), if_pos (Gf b i), F4 h2, Ek h1]
 | e :: r, L2, a, hb, h => by
  simp only [PA, RF, PI] at h;have he : e.1 ≠ i := by simpa using h.1.1
  simp only [PA];unfold Bm;rw [Gr he];exact Hl hb h.2
theorem At {b : Nat -> Bool} {i : Nat} {t : Tmp} {v0 v : Pd} {a : Act} {L L' : List (Nat × Tmp × Pd)} (k : Nat) (hb : b i = BK) (hL : L[k]? = some (i, t, v0)) (hL' : L.set k (i, t, v) = L') (hd : ((L.take k ++ L.drop (k + 1)).all fun e => !(e.1 == i) && !(e.2.1 == t)) = true) :
  (Bm a b L).put (some t) v = Bm a (up b i) L' := by
 have hk := (Pf.1 hL).1;have h1 : L = L.take k ++ (i, t, v0) :: L.drop (k + 1) := by
  have h2 : L[k] = (i, t, v0) := (Pf.1 hL).2;rw [<- h2, List.getElem_cons_drop, List.take_append_drop]
 have h3 : L' = L.take k ++ (i, t, v) :: L.drop (k + 1) := by rw [<- hL', List.set_eq_take_append_cons_drop, if_pos hk]
 rw [h3]
 conv => lhs; rw [h1]
 exact Hl hb hd
theorem BX {b : Nat -> Bool} {i : Nat} {L : List (Nat × Tmp × Pd)} {a : Act} {v : Pd} (h : (L.all fun e => !(e.1 == i)) = true) : (Bm a b L).put none v = Bm a (up b i) L := (Ek h).symm
theorem OV {l : Array Bool} {fuel : Nat} {a : Act} {w : Pe} (O : List Nat) (I : (Nat -> Bool) -> Act -> Pe -> Prop) (hT : Cd md ops = T) (hw : C0 T.2 B = true) (hk : Dw T.2 O = true)
  (hl : (Ig T.2.length O (fun _ => BK) == l.toList && O.length == fuel) = true) (h0 : I (fun _ => BK) a w) (hs : ∀ i ∈ O, F3 P ops Q B O I i)
  (hend : ∀ b a w, (∀ j, O.contains j = true -> b j = true) -> I b a w -> Q .normal a w) : Bi P md ops Q (fun _ => True) [] fuel l a w := by
 rw [PI, beq_iff_eq, beq_iff_eq] at hl;have h1 := Ni hT hw hk I hs hend fuel (fun _ => BK) a w (by rw [<- hl.2]; simp) (fun d r _ _ hb => by cases hb) h0;have h2 : (Ig T.2.length O (fun _ => BK)).toArray = l := by apply Array.ext'; exact hl.1
 rw [h2] at h1;exact h1
theorem DY {l : Array Bool} {fuel : Nat} {a : Act} {w : Pe} (O : List Nat) (I : Act -> (Nat -> Bool) -> Act -> Pe -> Prop) (hT : Cd md ops = T) (hw : C0 T.2 B = true) (hk : Dw T.2 O = true)
  (hl : (Ig T.2.length O (fun _ => BK) == l.toList && O.length == fuel) = true) (h0 : I a (fun _ => BK) a w) (hs : ∀ i ∈ O, F3 P ops Q B O (I a) i)
  (hend : ∀ b a' w, (∀ j, O.contains j = true -> b j = true) -> I a b a' w -> Q .normal a' w) : Bi P md ops Q (fun _ => True) [] fuel l a w := OV O (I a) hT hw hk hl h0 hs hend
end
end Go.Proofs.V.Last
-- PRINTED BY print.sh 35421559b90ae4d0a3588c463048766b98c2df88dd9212a6774a882060cdf62d: not written by this session
namespace Go.Proofs.V.Words
open Go.RowKit
theorem Kd.R_slice1 {α : Type} {d : Kd α} {e base : Nat} {ok : Nat -> Prop} {w : Pe} {v : Pd} {xs : List α} (h : d.R e w base ok v xs) (hn : 0 < xs.length) : ∃ (ad : Addr) (c : Nat), v = .slice (some ad) xs.length c := by
 obtain ⟨A, c, rfl⟩ := Kd.R_slice h;have h2 := (Kd.R_reads' h).2.2;obtain ⟨ad, he, _⟩ := h2.2.2 hn;subst he;exact ⟨ad, c, rfl⟩
end Go.Proofs.V.Words
namespace Go.Proofs.V.Last
section
variable {ops : Array Oper} {a : Act} {o og : Oper} {g : Nat} {t : Tmp} {u : Bool}
theorem Cx {v : Pd} (h : a.tmps[t]? = some v) : a.eval (.tmp t) = v := by simp [Act.eval, h]
end
end Go.Proofs.V.Last
-- PRINTED BY print.sh 35421559b90ae4d0a3588c463048766b98c2df88dd9212a6774a882060cdf62d: not written by this session
namespace Go.Proofs.V.Words
open Go.RowKit
section
variable {P : Qc} {ops : Array Oper} {rest : List Oper} {o : Oper} {a : Act} {Q : Exit -> Act -> Pe -> Prop} {W : Pe}
theorem DZ (hw : PR o (yielded ops a.tmps) = true) (h : wpList P ops Q ({ o with guard := none } :: rest) a W) : wpList P ops Q (o :: rest) a W := by
 have h1 : PR { o with guard := none } (yielded ops a.tmps) = true := rfl;unfold wpList at h ⊢;rw [if_pos h1] at h;rw [if_pos hw];exact h
end
end Go.Proofs.V.Words
namespace Go.Proofs.Q
open Go.RowKit Go.Proofs.V.Words Go.Proofs.V.Last Go.Proofs.V.More
attribute [local go_sem] BI BJ BY BZ Bu Bv BL BM   -- for this text's walks alone
def OE : Option Int -> Pd
 | none => .nilIface
 | some c => .iface 0 (.int .i64 c)
theorem AP : OE none = .nilIface := rfl
theorem AQ (c : Int) : OE (some c) = .iface 0 (.int .i64 c) := rfl
theorem Ca : (Try.prog.info? 3).map (fun i => (i.zero, i.size, i.bytes)) = some (some (.int .i64 0), 1, 8) := by kernel_rfl
theorem El : (Try.prog.info? 24).map (fun i => (i.zero, i.size, i.bytes)) = some (some (.agg #[(.int .i64 0), (.string ⟨#[]⟩), (.string ⟨#[]⟩), (.slice none 0 0)]), 4, 64) := by kernel_rfl
theorem M4 : (Try.prog.info? 54).map (fun i => (i.zero, i.size, i.bytes)) = some (some (.agg #[(.int .i64 0), (.int .i64 0), (.int .i64 0), (.int .i64 0), (.int .i64 0), (.string ⟨#[]⟩), (.string ⟨#[]⟩)]), 7, 72) := by kernel_rfl
theorem O3 : (Try.prog.info? 55).map (fun i => (i.zero, i.size, i.bytes)) = some (some (.agg #[(.int .i64 0), (.int .i64 0), (.int .i64 0), (.int .i64 0), (.int .i64 0), (.string ⟨#[]⟩), (.string ⟨#[]⟩)]), 7, 72) := by kernel_rfl
structure B8 where
 f0 : Int
 f1 : ByteArray
 f2 : ByteArray
 f3 : (List B8)
def D0 : B8 := ⟨(0 : Int), (⟨#[]⟩ : ByteArray), (⟨#[]⟩ : ByteArray), ([] : List B8)⟩
def OR (d : Kd B8) : Kd B8 := Kd.iso (Kd.pair (Kd.int .i64) (Kd.pair Kd.string (Kd.pair Kd.string (Kd.slice 24 d)))) (fun x : B8 => (x.f0, x.f1, x.f2, x.f3))
theorem Ii : Kd.Mono OR := Kd.mono_iso _ (Kd.mono_pair (Kd.mono_const _) (Kd.mono_pair (Kd.mono_const _) (Kd.mono_pair (Kd.mono_const _) (Kd.mono_slice 24 Kd.mono_id))))
theorem OF : Kd.Sub OR [24] := Kd.sub_iso _ (Kd.sub_pair (Kd.sub_const _ (by decide)) (Kd.sub_pair (Kd.sub_const _ (by decide)) (Kd.sub_pair (Kd.sub_const _ (by decide)) (Kd.sub_slice 24 (by decide) Kd.sub_id))))
theorem O4 : ∀ n, (Kd.upto OR 4 [24] n).sz = 4 := Kd.upto_sz (fun _ => rfl)
def AY : Kd B8 := Kd.fix OR 4 [24] O4 (Kd.upto_E OF)
theorem Cy : Kd.Heap AY := Kd.heap_fix (fun _ h_ => Kd.heap_iso _ (Kd.heap_pair (Kd.heap_int .i64) (Kd.heap_pair Kd.heap_string (Kd.heap_pair Kd.heap_string (Kd.heap_slice 24 h_)))))
theorem Em {w : Pe} {x : B8} {cs : List Pd} (h : AY.K w x cs) : ∃ A3 c3, cs = [.int .i64 x.f0, .string x.f1, .string x.f2, .slice A3 x.f3.length c3] /\ x.f3.length <= c3 /\ AY.C w A3 x.f3.length x.f3 := by
 obtain ⟨n, h⟩ := h;cases n with
 | zero => exact h.elim
 | succ n =>
  obtain ⟨_, _, rfl, rfl, ⟨_, _, rfl, rfl, ⟨_, _, rfl, rfl, ⟨A3, c3, rfl, l3, g3⟩⟩⟩⟩ := h;exact ⟨A3, c3, rfl, l3, Kd.fix_C g3⟩
theorem KV {w : Pe} {base : Nat} {ok : Nat -> Prop} {x : B8} {cs : List Pd} (h : AY.M w base ok x cs) : ∃ v3, cs = [.int .i64 x.f0, .string x.f1, .string x.f2, v3] /\ AY.R 24 w base ok v3 x.f3 := by
 obtain ⟨n, h⟩ := h;cases n with
 | zero => exact h.elim
 | succ n =>
  obtain ⟨_, _, rfl, rfl, ⟨_, _, rfl, rfl, ⟨_, _, rfl, rfl, ⟨v3, rfl, g3⟩⟩⟩⟩ := h;exact ⟨v3, rfl, Kd.fix_R g3⟩
theorem FE (w : Pe) (x : B8) {A3 : Option Addr} {c3 : Nat} (l3 : x.f3.length <= c3) (g3 : AY.C w A3 x.f3.length x.f3) : AY.K w x [.int .i64 x.f0, .string x.f1, .string x.f2, .slice A3 x.f3.length c3] := by
 obtain ⟨n3, q3⟩ := Kd.fix_C_back Ii g3;have r3 := Kd.upto_C_le Ii O4 (show n3 <= n3 by omega) q3;exact ⟨n3 + 1, ⟨[.int .i64 x.f0], [.string x.f1, .string x.f2, .slice A3 x.f3.length c3], rfl, rfl, ⟨[.string x.f1], [.string x.f2, .slice A3 x.f3.length c3], rfl, rfl, ⟨[.string x.f2], [.slice A3 x.f3.length c3], rfl, rfl, ⟨A3, c3, rfl, l3, r3⟩⟩⟩⟩⟩
theorem E0 (w : Pe) (base : Nat) (ok : Nat -> Prop) (x : B8) {v3 : Pd} (g3 : AY.R 24 w base ok v3 x.f3) : AY.M w base ok x [.int .i64 x.f0, .string x.f1, .string x.f2, v3] := by
 obtain ⟨n3, q3⟩ := Kd.fix_R_back Ii g3;have r3 := Kd.upto_R_le Ii O4 (show n3 <= n3 by omega) q3;exact ⟨n3 + 1, ⟨[.int .i64 x.f0], [.string x.f1, .string x.f2, v3], rfl, rfl, ⟨[.string x.f1], [.string x.f2, v3], rfl, rfl, ⟨[.string x.f2], [v3], rfl, rfl, ⟨v3, rfl, r3⟩⟩⟩⟩⟩
theorem CP {W : Pe} {ok : Nat -> Prop} {x : B8} {cs : List Pd} (h : Kd.FK AY W ok x cs) : ∃ A3 c3, cs = [.int .i64 x.f0, .string x.f1, .string x.f2, .slice A3 x.f3.length c3] /\ x.f3.length <= c3 /\ Kd.F AY W ok A3 x.f3.length x.f3 := by
 obtain ⟨A3, c3, rfl, l3, _⟩ := Em (Kd.FK_now h);exact ⟨A3, c3, rfl, l3, (fun W' hW => by obtain ⟨A3_, c3_, he, l3_, g3_⟩ := Em (h W' hW); injection (Px (show some (Pk A3 x.f3.length c3) = some (Pk A3_ x.f3.length c3_) from congrArg (fun l => l[3]?) he)) with ha_ _ _; rw [ha_]; exact g3_)⟩
theorem Ki (W : Pe) (ok : Nat -> Prop) (x : B8) {A3 : Option Addr} {c3 : Nat} (l3 : x.f3.length <= c3) (g3 : Kd.F AY W ok A3 x.f3.length x.f3) : Kd.FK AY W ok x [.int .i64 x.f0, .string x.f1, .string x.f2, .slice A3 x.f3.length c3] := fun W2 hW => FE W2 x l3 (g3 W2 hW)
def Aj (xs : List B8) (i : Int) : B8 := xs.getD i.toNat D0
theorem Cw {w : Pe} {A : Option Addr} {n : Nat} {xs : List B8} (h : Kd.C AY w A n xs) (i : Int) (h0 : 0 <= i) (h1 : i < n) : ∃ ad A3 c3, A = some ad /\ w.cell? (ad.add (i.toNat * 4)) = some (.int .i64 (Aj xs i).f0) /\ w.cell? ⟨(ad.add (i.toNat * 4)).block, (ad.add (i.toNat * 4)).off + 1, none⟩ = some (.string (Aj xs i).f1) /\ w.cell? ⟨(ad.add (i.toNat * 4)).block, (ad.add (i.toNat * 4)).off + 2, none⟩ = some (.string (Aj xs i).f2) /\ w.cell? ⟨(ad.add (i.toNat * 4)).block, (ad.add (i.toNat * 4)).off + 3, none⟩ = some (.slice A3 (Aj xs i).f3.length c3) /\ (Aj xs i).f3.length <= c3 /\ AY.C w A3 (Aj xs i).f3.length (Aj xs i).f3 := by
 obtain ⟨ad, c, e, _, hK, hc0⟩ := Kd.C_get h D0 i h0 h1;have hc : ∀ j u, c[j]? = some u -> w.cell? (ad.add (i.toNat * 4 + j)) = some u := hc0;obtain ⟨A3, c3, rfl, l3, g3⟩ := Em hK;exact ⟨ad, A3, c3, e, hc 0 _ rfl, by rw [<- Bh _ _ 1 (by omega)]; exact hc 1 _ rfl, by rw [<- Bh _ _ 2 (by omega)]; exact hc 2 _ rfl, by rw [<- Bh _ _ 3 (by omega)]; exact hc 3 _ rfl, l3, g3⟩
structure Ee where
 f0 : Int
 f1 : Int
 f2 : Int
 f3 : Int
 f4 : Int
 f5 : ByteArray
 f6 : ByteArray
def P4 : Ee := ⟨(0 : Int), (0 : Int), (0 : Int), (0 : Int), (0 : Int), (⟨#[]⟩ : ByteArray), (⟨#[]⟩ : ByteArray)⟩
def FW : Kd Ee := Kd.iso (Kd.pair (Kd.int .i64) (Kd.pair (Kd.int .i64) (Kd.pair (Kd.int .i64) (Kd.pair (Kd.int .i64) (Kd.pair (Kd.int .i64) (Kd.pair Kd.string Kd.string)))))) (fun x : Ee => (x.f0, x.f1, x.f2, x.f3, x.f4, x.f5, x.f6))
theorem IU : Kd.Heap FW := Kd.heap_iso _ (Kd.heap_pair (Kd.heap_int .i64) (Kd.heap_pair (Kd.heap_int .i64) (Kd.heap_pair (Kd.heap_int .i64) (Kd.heap_pair (Kd.heap_int .i64) (Kd.heap_pair (Kd.heap_int .i64) (Kd.heap_pair Kd.heap_string Kd.heap_string))))))
theorem M5 {w : Pe} {x : Ee} {cs : List Pd} (h : FW.K w x cs) : cs = [.int .i64 x.f0, .int .i64 x.f1, .int .i64 x.f2, .int .i64 x.f3, .int .i64 x.f4, .string x.f5, .string x.f6] := by
 obtain ⟨_, _, rfl, rfl, ⟨_, _, rfl, rfl, ⟨_, _, rfl, rfl, ⟨_, _, rfl, rfl, ⟨_, _, rfl, rfl, ⟨_, _, rfl, rfl, rfl⟩⟩⟩⟩⟩⟩ := h;exact rfl
theorem O5 (w : Pe) (x : Ee)  : FW.K w x [.int .i64 x.f0, .int .i64 x.f1, .int .i64 x.f2, .int .i64 x.f3, .int .i64 x.f4, .string x.f5, .string x.f6] := ⟨[.int .i64 x.f0], [.int .i64 x.f1, .int .i64 x.f2, .int .i64 x.f3, .int .i64 x.f4, .string x.f5, .string x.f6], rfl, rfl, ⟨[.int .i64 x.f1], [.int .i64 x.f2, .int .i64 x.f3, .int .i64 x.f4, .string x.f5, .string x.f6], rfl, rfl, ⟨[.int .i64 x.f2], [.int .i64 x.f3, .int .i64 x.f4, .string x.f5, .string x.f6], rfl, rfl, ⟨[.int .i64 x.f3], [.int .i64 x.f4, .string x.f5, .string x.f6], rfl, rfl, ⟨[.int .i64 x.f4], [.string x.f5, .string x.f6], rfl, rfl, ⟨[.string x.f5], [.string x.f6], rfl, rfl, rfl⟩⟩⟩⟩⟩⟩
theorem Nj (w : Pe) (base : Nat) (ok : Nat -> Prop) (x : Ee)  : FW.M w base ok x [.int .i64 x.f0, .int .i64 x.f1, .int .i64 x.f2, .int .i64 x.f3, .int .i64 x.f4, .string x.f5, .string x.f6] := ⟨[.int .i64 x.f0], [.int .i64 x.f1, .int .i64 x.f2, .int .i64 x.f3, .int .i64 x.f4, .string x.f5, .string x.f6], rfl, rfl, ⟨[.int .i64 x.f1], [.int .i64 x.f2, .int .i64 x.f3, .int .i64 x.f4, .string x.f5, .string x.f6], rfl, rfl, ⟨[.int .i64 x.f2], [.int .i64 x.f3, .int .i64 x.f4, .string x.f5, .string x.f6], rfl, rfl, ⟨[.int .i64 x.f3], [.int .i64 x.f4, .string x.f5, .string x.f6], rfl, rfl, ⟨[.int .i64 x.f4], [.string x.f5, .string x.f6], rfl, rfl, ⟨[.string x.f5], [.string x.f6], rfl, rfl, rfl⟩⟩⟩⟩⟩⟩
def Ao (xs : List Ee) (i : Int) : Ee := xs.getD i.toNat P4
theorem M6 {w : Pe} {A : Option Addr} {n : Nat} {xs : List Ee} (h : Kd.C FW w A n xs) (i : Int) (h0 : 0 <= i) (h1 : i < n) : ∃ ad , A = some ad /\ w.cell? (ad.add (i.toNat * 7)) = some (.int .i64 (Ao xs i).f0) /\ w.cell? ⟨(ad.add (i.toNat * 7)).block, (ad.add (i.toNat * 7)).off + 1, none⟩ = some (.int .i64 (Ao xs i).f1) /\ w.cell? ⟨(ad.add (i.toNat * 7)).block, (ad.add (i.toNat * 7)).off + 2, none⟩ = some (.int .i64 (Ao xs i).f2) /\ w.cell? ⟨(ad.add (i.toNat * 7)).block, (ad.add (i.toNat * 7)).off + 3, none⟩ = some (.int .i64 (Ao xs i).f3) /\ w.cell? ⟨(ad.add (i.toNat * 7)).block, (ad.add (i.toNat * 7)).off + 4, none⟩ = some (.int .i64 (Ao xs i).f4) /\ w.cell? ⟨(ad.add (i.toNat * 7)).block, (ad.add (i.toNat * 7)).off + 5, none⟩ = some (.string (Ao xs i).f5) /\ w.cell? ⟨(ad.add (i.toNat * 7)).block, (ad.add (i.toNat * 7)).off + 6, none⟩ = some (.string (Ao xs i).f6) := by
 obtain ⟨ad, c, e, _, hK, hc0⟩ := Kd.C_get h P4 i h0 h1;have hc : ∀ j u, c[j]? = some u -> w.cell? (ad.add (i.toNat * 7 + j)) = some u := hc0;obtain rfl := M5 hK;exact ⟨ad, e, hc 0 _ rfl, by rw [<- Bh _ _ 1 (by omega)]; exact hc 1 _ rfl, by rw [<- Bh _ _ 2 (by omega)]; exact hc 2 _ rfl, by rw [<- Bh _ _ 3 (by omega)]; exact hc 3 _ rfl, by rw [<- Bh _ _ 4 (by omega)]; exact hc 4 _ rfl, by rw [<- Bh _ _ 5 (by omega)]; exact hc 5 _ rfl, by rw [<- Bh _ _ 6 (by omega)]; exact hc 6 _ rfl⟩
structure Dm where
 f0 : Int
 f1 : Int
 f2 : Int
 f3 : Int
 f4 : Int
 f5 : ByteArray
 f6 : ByteArray
def P5 : Dm := ⟨(0 : Int), (0 : Int), (0 : Int), (0 : Int), (0 : Int), (⟨#[]⟩ : ByteArray), (⟨#[]⟩ : ByteArray)⟩
def EY : Kd Dm := Kd.iso (Kd.pair (Kd.int .i64) (Kd.pair (Kd.int .i64) (Kd.pair (Kd.int .i64) (Kd.pair (Kd.int .i64) (Kd.pair (Kd.int .i64) (Kd.pair Kd.string Kd.string)))))) (fun x : Dm => (x.f0, x.f1, x.f2, x.f3, x.f4, x.f5, x.f6))
theorem M7 : Kd.Heap EY := Kd.heap_iso _ (Kd.heap_pair (Kd.heap_int .i64) (Kd.heap_pair (Kd.heap_int .i64) (Kd.heap_pair (Kd.heap_int .i64) (Kd.heap_pair (Kd.heap_int .i64) (Kd.heap_pair (Kd.heap_int .i64) (Kd.heap_pair Kd.heap_string Kd.heap_string))))))
theorem M8 {w : Pe} {x : Dm} {cs : List Pd} (h : EY.K w x cs) : cs = [.int .i64 x.f0, .int .i64 x.f1, .int .i64 x.f2, .int .i64 x.f3, .int .i64 x.f4, .string x.f5, .string x.f6] := by
 obtain ⟨_, _, rfl, rfl, ⟨_, _, rfl, rfl, ⟨_, _, rfl, rfl, ⟨_, _, rfl, rfl, ⟨_, _, rfl, rfl, ⟨_, _, rfl, rfl, rfl⟩⟩⟩⟩⟩⟩ := h;exact rfl
theorem O6 (w : Pe) (x : Dm)  : EY.K w x [.int .i64 x.f0, .int .i64 x.f1, .int .i64 x.f2, .int .i64 x.f3, .int .i64 x.f4, .string x.f5, .string x.f6] := ⟨[.int .i64 x.f0], [.int .i64 x.f1, .int .i64 x.f2, .int .i64 x.f3, .int .i64 x.f4, .string x.f5, .string x.f6], rfl, rfl, ⟨[.int .i64 x.f1], [.int .i64 x.f2, .int .i64 x.f3, .int .i64 x.f4, .string x.f5, .string x.f6], rfl, rfl, ⟨[.int .i64 x.f2], [.int .i64 x.f3, .int .i64 x.f4, .string x.f5, .string x.f6], rfl, rfl, ⟨[.int .i64 x.f3], [.int .i64 x.f4, .string x.f5, .string x.f6], rfl, rfl, ⟨[.int .i64 x.f4], [.string x.f5, .string x.f6], rfl, rfl, ⟨[.string x.f5], [.string x.f6], rfl, rfl, rfl⟩⟩⟩⟩⟩⟩
theorem Kj (w : Pe) (base : Nat) (ok : Nat -> Prop) (x : Dm)  : EY.M w base ok x [.int .i64 x.f0, .int .i64 x.f1, .int .i64 x.f2, .int .i64 x.f3, .int .i64 x.f4, .string x.f5, .string x.f6] := ⟨[.int .i64 x.f0], [.int .i64 x.f1, .int .i64 x.f2, .int .i64 x.f3, .int .i64 x.f4, .string x.f5, .string x.f6], rfl, rfl, ⟨[.int .i64 x.f1], [.int .i64 x.f2, .int .i64 x.f3, .int .i64 x.f4, .string x.f5, .string x.f6], rfl, rfl, ⟨[.int .i64 x.f2], [.int .i64 x.f3, .int .i64 x.f4, .string x.f5, .string x.f6], rfl, rfl, ⟨[.int .i64 x.f3], [.int .i64 x.f4, .string x.f5, .string x.f6], rfl, rfl, ⟨[.int .i64 x.f4], [.string x.f5, .string x.f6], rfl, rfl, ⟨[.string x.f5], [.string x.f6], rfl, rfl, rfl⟩⟩⟩⟩⟩⟩
def AV (xs : List Dm) (i : Int) : Dm := xs.getD i.toNat P5
theorem JD {w : Pe} {A : Option Addr} {n : Nat} {xs : List Dm} (h : Kd.C EY w A n xs) (i : Int) (h0 : 0 <= i) (h1 : i < n) : ∃ ad , A = some ad /\ w.cell? (ad.add (i.toNat * 7)) = some (.int .i64 (AV xs i).f0) /\ w.cell? ⟨(ad.add (i.toNat * 7)).block, (ad.add (i.toNat * 7)).off + 1, none⟩ = some (.int .i64 (AV xs i).f1) /\ w.cell? ⟨(ad.add (i.toNat * 7)).block, (ad.add (i.toNat * 7)).off + 2, none⟩ = some (.int .i64 (AV xs i).f2) /\ w.cell? ⟨(ad.add (i.toNat * 7)).block, (ad.add (i.toNat * 7)).off + 3, none⟩ = some (.int .i64 (AV xs i).f3) /\ w.cell? ⟨(ad.add (i.toNat * 7)).block, (ad.add (i.toNat * 7)).off + 4, none⟩ = some (.int .i64 (AV xs i).f4) /\ w.cell? ⟨(ad.add (i.toNat * 7)).block, (ad.add (i.toNat * 7)).off + 5, none⟩ = some (.string (AV xs i).f5) /\ w.cell? ⟨(ad.add (i.toNat * 7)).block, (ad.add (i.toNat * 7)).off + 6, none⟩ = some (.string (AV xs i).f6) := by
 obtain ⟨ad, c, e, _, hK, hc0⟩ := Kd.C_get h P5 i h0 h1;have hc : ∀ j u, c[j]? = some u -> w.cell? (ad.add (i.toNat * 7 + j)) = some u := hc0;obtain rfl := M8 hK;exact ⟨ad, e, hc 0 _ rfl, by rw [<- Bh _ _ 1 (by omega)]; exact hc 1 _ rfl, by rw [<- Bh _ _ 2 (by omega)]; exact hc 2 _ rfl, by rw [<- Bh _ _ 3 (by omega)]; exact hc 3 _ rfl, by rw [<- Bh _ _ 4 (by omega)]; exact hc 4 _ rfl, by rw [<- Bh _ _ 5 (by omega)]; exact hc 5 _ rfl, by rw [<- Bh _ _ 6 (by omega)]; exact hc 6 _ rfl⟩
structure DD where
 f0 : Int
 f1 : B8
 f2 : (List Int)
def P6 : DD := ⟨(0 : Int), D0, ([] : List Int)⟩
def CL : Kd DD := Kd.iso (Kd.pair (Kd.int .i64) (Kd.pair AY (Kd.slice 3 (Kd.int .i64)))) (fun x : DD => (x.f0, x.f1, x.f2))
theorem M9 {w : Pe} {x : DD} {cs : List Pd} (h : CL.K w x cs) : ∃ A4 c4 A5 c5, cs = [.int .i64 x.f0, .int .i64 x.f1.f0, .string x.f1.f1, .string x.f1.f2, .slice A4 x.f1.f3.length c4, .slice A5 x.f2.length c5] /\ x.f1.f3.length <= c4 /\ AY.C w A4 x.f1.f3.length x.f1.f3 /\ x.f2.length <= c5 /\ (Kd.int .i64).C w A5 x.f2.length x.f2 := by
 obtain ⟨_, _, rfl, rfl, ⟨_, _, rfl, s1, ⟨A5, c5, rfl, l5, g5⟩⟩⟩ := h;obtain ⟨A4, c4, rfl, l4, g4⟩ := Em s1;exact ⟨A4, c4, A5, c5, rfl, l4, g4, l5, g5⟩
theorem KW {w : Pe} {base : Nat} {ok : Nat -> Prop} {x : DD} {cs : List Pd} (h : CL.M w base ok x cs) : ∃ v4 v5, cs = [.int .i64 x.f0, .int .i64 x.f1.f0, .string x.f1.f1, .string x.f1.f2, v4, v5] /\ AY.R 24 w base ok v4 x.f1.f3 /\ (Kd.int .i64).R 3 w base ok v5 x.f2 := by
 obtain ⟨_, _, rfl, rfl, ⟨_, _, rfl, s1, ⟨v5, rfl, g5⟩⟩⟩ := h;obtain ⟨v4, rfl, g4⟩ := KV s1;exact ⟨v4, v5, rfl, g4, g5⟩
theorem Fj (w : Pe) (base : Nat) (ok : Nat -> Prop) (x : DD) {v4 : Pd} (g4 : AY.R 24 w base ok v4 x.f1.f3) {v5 : Pd} (g5 : (Kd.int .i64).R 3 w base ok v5 x.f2) : CL.M w base ok x [.int .i64 x.f0, .int .i64 x.f1.f0, .string x.f1.f1, .string x.f1.f2, v4, v5] := ⟨[.int .i64 x.f0], [.int .i64 x.f1.f0, .string x.f1.f1, .string x.f1.f2, v4, v5], rfl, rfl, ⟨[.int .i64 x.f1.f0, .string x.f1.f1, .string x.f1.f2, v4], [v5], rfl, (E0 w base ok x.f1 g4), ⟨v5, rfl, g5⟩⟩⟩
def Ai (xs : List DD) (i : Int) : DD := xs.getD i.toNat P6
theorem FG {w : Pe} {A : Option Addr} {n : Nat} {xs : List DD} (h : Kd.C CL w A n xs) (i : Int) (h0 : 0 <= i) (h1 : i < n) : ∃ ad A4 c4 A5 c5, A = some ad /\ w.cell? (ad.add (i.toNat * 6)) = some (.int .i64 (Ai xs i).f0) /\ w.cell? ⟨(ad.add (i.toNat * 6)).block, (ad.add (i.toNat * 6)).off + 1, none⟩ = some (.int .i64 (Ai xs i).f1.f0) /\ w.cell? ⟨(ad.add (i.toNat * 6)).block, (ad.add (i.toNat * 6)).off + 2, none⟩ = some (.string (Ai xs i).f1.f1) /\ w.cell? ⟨(ad.add (i.toNat * 6)).block, (ad.add (i.toNat * 6)).off + 3, none⟩ = some (.string (Ai xs i).f1.f2) /\ w.cell? ⟨(ad.add (i.toNat * 6)).block, (ad.add (i.toNat * 6)).off + 4, none⟩ = some (.slice A4 (Ai xs i).f1.f3.length c4) /\ w.cell? ⟨(ad.add (i.toNat * 6)).block, (ad.add (i.toNat * 6)).off + 5, none⟩ = some (.slice A5 (Ai xs i).f2.length c5) /\ (Ai xs i).f1.f3.length <= c4 /\ AY.C w A4 (Ai xs i).f1.f3.length (Ai xs i).f1.f3 /\ (Ai xs i).f2.length <= c5 /\ (Kd.int .i64).C w A5 (Ai xs i).f2.length (Ai xs i).f2 := by
 obtain ⟨ad, c, e, _, hK, hc0⟩ := Kd.C_get h P6 i h0 h1;have hc : ∀ j u, c[j]? = some u -> w.cell? (ad.add (i.toNat * 6 + j)) = some u := hc0;obtain ⟨A4, c4, A5, c5, rfl, l4, g4, l5, g5⟩ := M9 hK;exact ⟨ad, A4, c4, A5, c5, e, hc 0 _ rfl, by rw [<- Bh _ _ 1 (by omega)]; exact hc 1 _ rfl, by rw [<- Bh _ _ 2 (by omega)]; exact hc 2 _ rfl, by rw [<- Bh _ _ 3 (by omega)]; exact hc 3 _ rfl, by rw [<- Bh _ _ 4 (by omega)]; exact hc 4 _ rfl, by rw [<- Bh _ _ 5 (by omega)]; exact hc 5 _ rfl, l4, g4, l5, g5⟩
mutual
def AC.l0 : Nat -> Int -> List (B8) -> Int -> Int -> ByteArray -> ByteArray -> List (B8) -> Option ((List (B8)))
 | 0, _, _, _, _, _, _, _ => none
 | k + 1, x1, x5, x6, x102000, x102001, x102002, x102003 => if x6 < (x102003.length : Int) then (if (x5.length : Int) < x1 then (if 0 <= x6 then ((AC.f k ((Aj x102003 x6).f0) ((Aj x102003 x6).f1) ((Aj x102003 x6).f2) ((Aj x102003 x6).f3) (Pq (x1 - (x5.length : Int)))).bind fun t106 => (if x5.length + t106.length < 2199023255552 then (AC.l0 k x1 (x5 ++ t106) (Pq (x6 + 1)) x102000 x102001 x102002 x102003) else (none))) else (none)) else (some x5)) else (some x5)
def AC.f : Nat -> Int -> ByteArray -> ByteArray -> List (B8) -> Int -> Option ((List (B8)))
 | 0, _, _, _, _, _ => none
 | k + 1, a0_0, a0_1, a0_2, l0_3, a1 => AC.l0 k a1 (([(⟨a0_0, a0_1, a0_2, l0_3⟩ : B8)] : List (B8))) 0 a0_0 a0_1 a0_2 l0_3
end
theorem AC.calls (k : Nat) : ∀ (a0_0 : Int) (a0_1 : ByteArray) (a0_2 : ByteArray) (P0_3_ : Nat -> Prop) (A0_3 : Option Addr) (c0_3 : Nat) (l0_3 : List (B8)) (a1 : Int) (r : List (B8)) (w : Pe) (hs0_3 : Kd.V AY 24 w w.heap.size (fun k_ => P0_3_ k_) (.slice A0_3 l0_3.length c0_3) l0_3) (h : AC.f k a0_0 a0_1 a0_2 l0_3 a1 = some r),
  Calls Try.prog 25 #[.agg #[.int .i64 a0_0, .string a0_1, .string a0_2, .slice A0_3 l0_3.length c0_3], .int .i64 a1] w fun e w' => ∃ v0_ : Pd, e = .returned (v0_) /\ Kd.N AY 24 w' w.heap.size (fun k_ => (P0_3_ k_ \/ w.heap.size <= k_)) v0_ r /\ Below w.heap.size w w' := by
 induction k using Nat.strongRecOn with
 | _ k ih =>
 intro a0_0 a0_1 a0_2 P0_3_ A0_3 c0_3 l0_3 a1 r w hs0_3 h;cases k with
 | zero => exact absurd h (by simp [AC.f])
 | succ k =>
 simp only [AC.f] at h;have hu24 := Try.underlying24;have HO0_3 := A7.mk (show Kd.V AY 24 w w.heap.size (fun k_ => (P0_3_ k_ \/ w.heap.size <= k_)) (.slice A0_3 l0_3.length c0_3) l0_3 from Kd.V_mono hs0_3 (fun k_ hk => .inl hk));have HB := A7.mk (Pn w.heap.size w);have H : (AC.l0 k a1 (([(⟨a0_0, a0_1, a0_2, l0_3⟩ : B8)] : List (B8))) 0 a0_0 a0_1 a0_2 l0_3) = some r := h;clear h;obtain ⟨y102, hy102⟩ : ∃ y_ : List (B8), y_ = (([(⟨a0_0, a0_1, a0_2, l0_3⟩ : B8)] : List (B8))) := ⟨_, rfl⟩;replace H : (AC.l0 k a1 y102 0 a0_0 a0_1 a0_2 l0_3) = some r := by first | (rw [hy102]; with_reducible exact H) | (have H2_ := (Pj _ _).symm.trans H; rw [hy102]; with_reducible exact H2_) | (have H2_ := (Pj _ _).symm.trans H; with_reducible exact H2_) | with_reducible exact H | (rw [hy102]; exact H) | exact H
 have Ny102 := A7.mk hy102;clear hy102;have H' := A7.mk H;clear H;go_enter Try.func25, Try.ntmps25
 go_wp2_with (first | ((with_reducible refine AE (N := 2) rfl ?_); (try (refine DZ (by rfl) ?_; dsimp only)); refine Aw ?hg (N := 2) ?hd (cs := #[.int .i64 a0_0, .string a0_1, .string a0_2, .slice A0_3 l0_3.length c0_3]) (t := 24) ?hr ?_; (case hd => rfl); (case hg => rfl); (case hr => first | (go_simp; done) | (go_simp; rfl)); intro gb101 hg w3 hbox hb; have n0_ := A7.mk (Kd.V_below (Kd.V_elderB (by (with_reducible repeat (first | apply Kd.V_alloc | apply Kd.V_drewN | apply Kd.V_drew)); exact HO0_3.out) gb101 (Nat.le_of_eq hg.symm)) hb); have n1_ := A7.mk (AT Go.Z.h0 hb); have n2_ := A7.mk (hbox); have n3_ := A7.mk ((by rw [hg]; exact (Aq Go.Z.h0) : w.heap.size <= gb101)); have n4_ := A7.mk ((by rw [hg]; exact (Aq Go.Z.h0) : w.heap.size <= gb101)); clear HO0_3; clear HB; have HO0_3 := n0_; have HB := n1_; have BK101 := n2_; have GW101 := n3_; have GE101 := n4_; clear n0_ n1_ n2_ n3_ n4_; clear hb hbox hg; have hcz4_0 : w3.cell? ⟨gb101, 0, none⟩ = some (.int .i64 a0_0) := (Aa BK101.out 0).trans rfl; have hcz4_1 : w3.cell? ⟨gb101, 1, none⟩ = some (.string a0_1) := (Aa BK101.out 1).trans rfl; have hcz4_2 : w3.cell? ⟨gb101, 2, none⟩ = some (.string a0_2) := (Aa BK101.out 2).trans rfl; have hcz4_3 : w3.cell? ⟨gb101, 3, none⟩ = some (.slice A0_3 l0_3.length c0_3) := (Aa BK101.out 3).trans rfl; have hfz4_0 := Ad BK101.out 0; have hfz4_1 := Ad BK101.out 1; have hfz4_2 := Ad BK101.out 2; have hfz4_3 := Ad BK101.out 3) | ((with_reducible refine AE (N := 8) rfl ?_); (try (refine DZ (by rfl) ?_; dsimp only)); refine Kd.N_lit AY _ 24 ?hg (N' := 8) ?hd (xs := ([(⟨a0_0, a0_1, a0_2, l0_3⟩ : B8)] : List (B8))) (inner := [.int .i64 a0_0, .string a0_1, .string a0_2, .slice A0_3 l0_3.length c0_3]) (ok := (fun k_ => (P0_3_ k_ \/ w.heap.size <= k_) /\ k_ ≠ gb101)) (okp := (fun k_ => (P0_3_ k_ \/ w.heap.size <= k_) /\ k_ ≠ gb101)) ?hr ?hp (fun _ hk => hk) ((show ∀ k_, w3.heap.size <= k_ -> (fun k_ => (P0_3_ k_ \/ w.heap.size <= k_) /\ k_ ≠ gb101) k_ from fun k_ hk => ⟨(.inr (Qo (Aq (Go.Z.h1 GE101.out)) hk)), Kd.freshB (g := gb101) (o := .cells #[.int .i64 a0_0, .string a0_1, .string a0_2, .slice A0_3 l0_3.length c0_3] 24 (0, 0)) (Go.Z.k BK101.out) k_ hk⟩) _ (Ps _)) (Pn _ _) (Ps _) (by simp) ?_; (case hd => rfl); (case hg => rfl); (case hr => first | (go_simp; done) | (go_simp; rfl)); (case hp => exact (Cj.c4 (show Kd.FK AY _ _ (⟨a0_0, a0_1, a0_2, l0_3⟩ : B8) [.int .i64 a0_0, .string a0_1, .string a0_2, .slice A0_3 l0_3.length c0_3] from (Ki _ _ (⟨a0_0, a0_1, a0_2, l0_3⟩ : B8) (Kd.V_reads' (Kd.V_mono (ok' := (fun k_ => (P0_3_ k_ \/ w.heap.size <= k_) /\ k_ ≠ gb101)) (HO0_3.out) (fun k_ hk => ⟨hk.1, hk.2⟩))).2.1 (Kd.V_F (Kd.V_mono (ok' := (fun k_ => (P0_3_ k_ \/ w.heap.size <= k_) /\ k_ ≠ gb101)) (HO0_3.out) (fun k_ hk => ⟨hk.1, hk.2⟩))))) (Cj.none _ _))); intro v103 w5 ho6 hb hg_ hnew_; clear hg_ hnew_; (first | rw [<- Ny102.out] at ho6 | (simp only [Int.reduceToNat] at ho6; rw [<- Ny102.out] at ho6)); have n0_ := A7.mk (Kd.V_elder' (by (with_reducible repeat (first | apply Kd.V_alloc | apply Kd.V_drewN | apply Kd.V_drew)); exact HO0_3.out) (Kd.N_base ho6) hb); have n1_ := A7.mk (Kd.N_lower ho6 (Aq (Go.Z.h1 GE101.out))); have n2_ := A7.mk (Bf (g := gb101) (o := .cells #[.int .i64 a0_0, .string a0_1, .string a0_2, .slice A0_3 l0_3.length c0_3] 24 (0, 0)) (Go.Z.k BK101.out) hb); have n3_ := A7.mk (AT (Go.Z.h1 GE101.out) hb); clear HO0_3; clear BK101; clear HB; have HO0_3 := n0_; have HO104 := n1_; have BK101 := n2_; have HB := n3_; clear n0_ n1_ n2_ n3_; clear hb ho6))
 go_loopg [5, 6] k (fun kq v5 v6 w' => ∃ (x5_1 : List (B8)) (x6_1 : Int), v6 = .int .i64 x6_1 /\ A7 (AC.l0 kq a1 x5_1 x6_1 a0_0 a0_1 a0_2 l0_3 = some r) /\ A7 (kq <= k) /\ A7 (Kd.N AY 24 w' w.heap.size (fun k_ => (P0_3_ k_ \/ w.heap.size <= k_) /\ k_ ≠ gb101) v5 x5_1) /\ A7 (Kd.V AY 24 w' w.heap.size (fun k_ => (P0_3_ k_ \/ w.heap.size <= k_) /\ some k_ ≠ (v5 : Pd).ownBlock /\ k_ ≠ gb101) (.slice A0_3 l0_3.length c0_3) l0_3) /\ A7 (w'.heap[gb101]? = some (.cells #[.int .i64 a0_0, .string a0_1, .string a0_2, (.slice A0_3 l0_3.length c0_3)] 24 (0, 0))) /\ A7 (Below w.heap.size w w'))
 case atStart => exact ⟨(y102), (0), (by first | rfl | (simp; done) | (simp [*]; done)), H', ⟨Ps _⟩, ⟨by (with_reducible repeat (first | apply Kd.N_alloc | apply Kd.N_drewN | apply Kd.N_drew)); exact HO104.out⟩, ⟨by (with_reducible repeat (first | apply Kd.V_alloc | apply Kd.V_drewN | apply Kd.V_drew)); exact Kd.V_mono HO0_3.out (fun _ hk => ⟨hk.1.1, ⟨hk.2, hk.1.2⟩⟩)⟩, ⟨Go.Z.k BK101.out⟩, ⟨Go.Z.h1 GE101.out⟩⟩
 case round =>
  clear H'
  try clear c2
  try clear p2
  try clear c4
  try clear hcz4_0
  try clear hcz4_1
  try clear hcz4_2
  try clear hcz4_3
  try clear hfz4_0
  try clear hfz4_1
  try clear hfz4_2
  try clear hfz4_3
  obtain ⟨x5_1, x6_1, rfl, HA, HK1, HO_5, HO_102003, BK101, HB⟩ := hrel;cases gk with
  | zero => exact absurd HA.out (by simp [AC.l0])
  | succ k1 =>
   have H := HA.out;clear HA;simp only [AC.l0] at H;by_cases c7 : x6_1 < (l0_3.length : Int)
   ·rw [if_pos c7] at H;have c7b0 : decide (x6_1 < (l0_3.length : Int)) = true := decide_eq_true c7;clear c7;by_cases c8 : (x5_1.length : Int) < a1
    ·rw [if_pos c8] at H;have c8b0 : decide ((x5_1.length : Int) < a1) = true := decide_eq_true c8;clear c8;by_cases c9 : 0 <= x6_1
     ·rw [if_pos c9] at H;have c9b0 : decide (0 <= x6_1) = true := decide_eq_true c9;clear c9;replace H := Q3.mp H;obtain ⟨t106, A100, H⟩ := H;replace H : (if x5_1.length + t106.length < 2199023255552 then (AC.l0 k1 a1 (x5_1 ++ t106) (Pq (x6_1 + 1)) a0_0 a0_1 a0_2 l0_3) else (none)) = some r := H;have A10 := A7.mk A100;clear A100;by_cases c11 : x5_1.length + t106.length < 2199023255552
      ·rw [if_pos c11] at H;have LMc11 := A7.mk c11;clear c11;obtain ⟨y109, hy109⟩ : ∃ y_ : List (B8), y_ = (x5_1 ++ t106) := ⟨_, rfl⟩;replace H : (AC.l0 k1 a1 y109 (Pq (x6_1 + 1)) a0_0 a0_1 a0_2 l0_3) = some r := by first | (rw [hy109]; with_reducible exact H) | (have H2_ := (Pj _ _).symm.trans H; rw [hy109]; with_reducible exact H2_) | (have H2_ := (Pj _ _).symm.trans H; with_reducible exact H2_) | with_reducible exact H | (rw [hy109]; exact H) | exact H
       have Ny109 := A7.mk hy109;clear hy109;have H' := A7.mk H;clear H;obtain ⟨⟨hcz12_0, hcz12_1, hcz12_2, hcz12_3⟩, hfz12_0, hfz12_1, hfz12_2, hfz12_3⟩ := Go.Z.b4 BK101.out;obtain ⟨Ao13, co13, eo13⟩ := Kd.N_slice HO_5.out;subst eo13;have p105 : 0 <= (x6_1 : Int) := of_decide_eq_true (by first | (with_reducible assumption) | assumption);have q105 : x6_1 < (l0_3.length : Int) := of_decide_eq_true (by first | (with_reducible assumption) | assumption);obtain ⟨ad105, A105_3, c105_3, e105, hx105_0, hx105_1, hx105_2, hx105_3, hl105_3, hi105_3⟩ := Cw (Kd.V_reads' HO_102003.out).2.2 x6_1 p105 q105;cases e105;obtain ⟨ce105, hce105, hMe105, hcc105⟩ := Kd.V_get HO_102003.out D0 x6_1 p105 (by first | exact q105 | exact of_decide_eq_true (by first | (with_reducible assumption) | assumption) | (have e_ := (Kd.V_reads' HO_102003.out).1; omega));obtain ⟨ua105_3, uc105_3, rfl, ul105_3, ge105_3⟩ := CP hMe105;have hv105_3 := hcc105 3 _ rfl;rw [Bh _ _ 3 (by omega)] at hv105_3;replace hv105_3 := Px (hv105_3.symm.trans hx105_3);injection hv105_3 with hva_ hvn_ hvc_
       rw [hva_] at ge105_3;rw [hvc_] at ul105_3;have HL105_3 := A7.mk (show Kd.V AY 24 _ w.heap.size _ _ ((Aj l0_3 x6_1).f3) from Kd.V_mk ul105_3 ge105_3);clear hva_ hvn_ hvc_ ge105_3 ul105_3;clear hcc105 hce105;have HR105_3 := A7.mk hi105_3;have HC105_3 := A7.mk hl105_3;clear hi105_3 hl105_3;replace p105 := eq_true p105;replace q105 := eq_true q105
       go_wp2_with (first | ((with_reducible refine Bs (f := 25) rfl ?_); refine Cv (some 32) rfl rfl Try.func25 (by kernel_rfl) rfl #[.agg #[.int .i64 ((Aj l0_3 x6_1).f0), .string ((Aj l0_3 x6_1).f1), .string ((Aj l0_3 x6_1).f2), .slice A105_3 ((Aj l0_3 x6_1).f3).length c105_3], .int .i64 (Pq (a1 - (x5_1.length : Int)))] rfl (by (try simp only [PN, Py, PZ]); first | done | rfl | (simp only [PG, Pp]; rfl)) ?_; (with_reducible refine (ih k1 (by have := HK1.out; omega) ((Aj l0_3 x6_1).f0) ((Aj l0_3 x6_1).f1) ((Aj l0_3 x6_1).f2) (fun k_ => ((P0_3_ k_ \/ w.heap.size <= k_) /\ (some k_ ≠ (.slice Ao13 x5_1.length co13 : Pd).ownBlock /\ k_ ≠ gb101))) _ _ ((Aj l0_3 x6_1).f3) (Pq (a1 - (x5_1.length : Int))) t106 _ ?side1 A10.out).mono ?_); (case side1 => exact HL105_3.out); rintro e w14 ⟨v107, rfl, ho0, hb⟩; refine ⟨_, rfl, ?_⟩; have n0_ := A7.mk (Kd.N_elder' (by (with_reducible repeat (first | apply Kd.N_alloc | apply Kd.N_drewN | apply Kd.N_drew)); exact HO_5.out) (Kd.N_base ho0) hb); have n1_ := A7.mk (Kd.V_elder' (by (with_reducible repeat (first | apply Kd.V_alloc | apply Kd.V_drewN | apply Kd.V_drew)); exact HO_102003.out) (Kd.N_base ho0) hb); have n2_ := A7.mk (Kd.V_elder' (by (with_reducible repeat (first | apply Kd.V_alloc | apply Kd.V_drewN | apply Kd.V_drew)); exact HL105_3.out) (Kd.N_base ho0) hb); have n3_ := A7.mk (Kd.N_lower (Kd.N_mono (ok' := fun k_ => (P0_3_ k_ \/ w.heap.size <= k_) /\ some k_ ≠ (.slice Ao13 x5_1.length co13 : Pd).ownBlock /\ k_ ≠ gb101) ho0 (fun k_ hk_ => ⟨Or.elim hk_ (fun hs_ => hs_.1) (fun hn_ => (.inr (Qo (Aq (Go.Z.h1 GE101.out)) hn_))), Or.elim hk_ (fun hs_ => hs_.2.1) (fun hn_ => (Kd.fresh' (Kd.N_lt (by (with_reducible repeat (first | apply Kd.N_alloc | apply Kd.N_drewN | apply Kd.N_drew)); exact HO_5.out)) k_ hn_)), Or.elim hk_ (fun hs_ => hs_.2.2) (fun hn_ => (Kd.freshB (g := gb101) (o := .cells #[.int .i64 a0_0, .string a0_1, .string a0_2, .slice (some ad105) l0_3.length c0_3] 24 (0, 0)) (Go.Z.k BK101.out) k_ hn_))⟩)) (Aq (Go.Z.h1 GE101.out))); have n4_ := A7.mk (Bf (g := gb101) (o := .cells #[.int .i64 a0_0, .string a0_1, .string a0_2, .slice (some ad105) l0_3.length c0_3] 24 (0, 0)) (Go.Z.k BK101.out) hb); have n5_ := A7.mk (Kd.C_below (by repeat (first | (with_reducible exact HR105_3.out) | (with_reducible refine Kd.C_alloc ?_ _) | (with_reducible refine Kd.C_drewN ?_ _) | (with_reducible refine Kd.C_drew ?_) | exact HR105_3.out)) hb); have n6_ := A7.mk (AT (Go.Z.h1 GE101.out) hb); clear HO_5; clear HO_102003; clear HL105_3; clear BK101; clear HR105_3; clear HB; have HO_5 := n0_; have HO_102003 := n1_; have HL105_3 := n2_; have HO108 := n3_; have BK101 := n4_; have HR105_3 := n5_; have HB := n6_; clear n0_ n1_ n2_ n3_ n4_ n5_ n6_; (try clear hb); (try clear hb2); (try clear hk); (try clear hi); (try clear ho0); obtain ⟨Ao16, co16, eo16⟩ := Kd.N_slice HO108.out; subst eo16) | ((with_reducible refine Bt (b := .append) (xs := #[.tmp 22, .tmp 32]) rfl ?_); (try (refine DZ (by rfl) ?_; dsimp only)); at_builtin; refine Kd.N_append_rows AY (w0 := w) w.heap.size rfl (.tmp 22) (.tmp 32) 22 24 (.agg #[(.int .i64 0), (.string ⟨#[]⟩), (.string ⟨#[]⟩), (.slice none 0 0)]) 64 rfl Try.underlying22 El rfl (by decide) (by omega) (.slice Ao13 x5_1.length co13) x5_1 t106 _ _ _ (fun k_ => (P0_3_ k_ \/ w.heap.size <= k_) /\ k_ ≠ gb101) (fun k_ => ((fun k_ => (P0_3_ k_ \/ w.heap.size <= k_) /\ k_ ≠ gb101)) k_ /\ some k_ ≠ (.slice Ao13 x5_1.length co13 : Pd).ownBlock) rfl rfl ?aO ?aR (fun _ hk => hk) ?aF ?aB ?aS ?aL ?_; (case aR => exact (by skip; exact Kd.N_F (Kd.N_mono (ok' := (fun k_ => ((fun k_ => (P0_3_ k_ \/ w.heap.size <= k_) /\ k_ ≠ gb101)) k_ /\ some k_ ≠ (.slice Ao13 x5_1.length co13 : Pd).ownBlock)) (HO108.out) (fun k_ hk => ⟨⟨hk.1, hk.2.2⟩, hk.2.1⟩)))); (case aB => exact (Go.Z.h1 GE101.out)); (case aF => exact (fun k_ hk => ⟨(.inr (Qo (Aq (Go.Z.h1 GE101.out)) hk)), Kd.freshB (g := gb101) (o := .cells #[.int .i64 a0_0, .string a0_1, .string a0_2, .slice (some ad105) l0_3.length c0_3] 24 (0, 0)) (Go.Z.k BK101.out) k_ hk⟩)); (case aO => exact (by (with_reducible repeat (first | apply Kd.N_alloc | apply Kd.N_drewN | apply Kd.N_drew)); exact Kd.N_mono HO_5.out (fun _ hk => ⟨hk.1.1, hk.1.2⟩))); (case aS => exact (Aq (Go.Z.h1 GE101.out))); (case aL => have := LMc11.out; omega); intro v110 w15 ho hb hg hat; rw [<- Ny109.out] at ho; have n0_ := A7.mk (Kd.V_afterv (ok := (fun k_ => (P0_3_ k_ \/ w.heap.size <= k_) /\ some k_ ≠ (.slice Ao16 t106.length co16 : Pd).ownBlock /\ k_ ≠ gb101)) (by (with_reducible repeat (first | apply Kd.V_alloc | apply Kd.V_drewN | apply Kd.V_drew)); exact Kd.V_mono HO_102003.out (fun _ hk => ⟨⟨hk.1.1, ⟨hk.2, hk.1.2.2⟩⟩, hk.1.2.1⟩)) hg hat); have n1_ := A7.mk (Ck (g := gb101) (o := .cells #[.int .i64 a0_0, .string a0_1, .string a0_2, .slice (some ad105) l0_3.length c0_3] 24 (0, 0)) (Go.Z.k BK101.out) hg (Kd.N_away HO_5.out (fun _ hk => hk.1.2))); have n2_ := A7.mk (Kd.V_afterv (ok := (fun k_ => (P0_3_ k_ \/ w.heap.size <= k_) /\ some k_ ≠ (.slice Ao16 t106.length co16 : Pd).ownBlock /\ k_ ≠ gb101)) (by (with_reducible repeat (first | apply Kd.V_alloc | apply Kd.V_drewN | apply Kd.V_drew)); exact Kd.V_mono HL105_3.out (fun _ hk => ⟨⟨hk.1.1, ⟨hk.2, hk.1.2.2⟩⟩, hk.1.2.1⟩)) hg hat); have n3_ := A7.mk (Kd.N_afterv (ok := (fun k_ => (P0_3_ k_ \/ w.heap.size <= k_) /\ k_ ≠ gb101)) (by (with_reducible repeat (first | apply Kd.N_alloc | apply Kd.N_drewN | apply Kd.N_drew)); exact Kd.N_mono HO108.out (fun _ hk => ⟨⟨hk.1, hk.2.2⟩, hk.2.1⟩)) hg hat); have n4_ := A7.mk (hb); have n5_ := A7.mk (ho); clear HO_102003; clear BK101; clear HL105_3; clear HO108; clear HB; clear HO_5; have HO_102003 := n0_; have BK101 := n1_; have HL105_3 := n2_; have HO108 := n3_; have HB := n4_; have HO111 := n5_; clear n0_ n1_ n2_ n3_ n4_ n5_; clear ho hb hg hat))
       go_roundg k1
       case measure => have := HK1.out; omega
       case rel => exact ⟨(y109), (Pq (x6_1 + 1)), (by first | rfl | (simp; done) | (simp [*]; done)), H', ⟨by have := HK1.out; omega⟩, ⟨by (with_reducible repeat (first | apply Kd.N_alloc | apply Kd.N_drewN | apply Kd.N_drew)); exact HO111.out⟩, ⟨by (with_reducible repeat (first | apply Kd.V_alloc | apply Kd.V_drewN | apply Kd.V_drew)); exact Kd.V_mono HO_102003.out (fun _ hk => ⟨hk.1.1, ⟨hk.2, hk.1.2.2⟩⟩)⟩, ⟨Go.Z.k BK101.out⟩, ⟨Go.Z.h1 GE101.out⟩⟩
      ·rw [if_neg c11] at H;exact absurd H (by simp)
     ·rw [if_neg c9] at H;exact absurd H (by simp)
    ·rw [if_neg c8] at H;have c8b0 : decide ((x5_1.length : Int) < a1) = BK := decide_eq_false c8;clear c8;obtain rfl := Px H;obtain ⟨⟨hcz17_0, hcz17_1, hcz17_2, hcz17_3⟩, hfz17_0, hfz17_1, hfz17_2, hfz17_3⟩ := Go.Z.b4 BK101.out;obtain ⟨Ao18, co18, eo18⟩ := Kd.N_slice HO_5.out;subst eo18;go_wp2
     go_ret
     exact ⟨_, by first | rfl | (simp [AP, AQ] <;> rfl) | (simp [*, AP, AQ] <;> rfl), by (with_reducible repeat (first | apply Kd.N_alloc | apply Kd.N_drewN | apply Kd.N_drew)); exact Kd.N_mono HO_5.out (fun _ hk => hk.1), by repeat (first | (with_reducible first | exact HB.out | apply Ah | apply AH | apply AD | refine AZ ?_ GE101.out) | exact HB.out)⟩
   ·rw [if_neg c7] at H;have c7b0 : decide (x6_1 < (l0_3.length : Int)) = BK := decide_eq_false c7;clear c7;obtain rfl := Px H;obtain ⟨⟨hcz19_0, hcz19_1, hcz19_2, hcz19_3⟩, hfz19_0, hfz19_1, hfz19_2, hfz19_3⟩ := Go.Z.b4 BK101.out;go_wp2
    go_ret
    exact ⟨_, by first | rfl | (simp [AP, AQ] <;> rfl) | (simp [*, AP, AQ] <;> rfl), by (with_reducible repeat (first | apply Kd.N_alloc | apply Kd.N_drewN | apply Kd.N_drew)); exact Kd.N_mono HO_5.out (fun _ hk => hk.1), by repeat (first | (with_reducible first | exact HB.out | apply Ah | apply AH | apply AD | refine AZ ?_ GE101.out) | exact HB.out)⟩
def Bp.f (k : Nat) (a0_0 : Int) (a0_1 : ByteArray) (a0_2 : ByteArray) (l0_3 : List (B8)) (a1 : Int) : Option (Int) := (AC.f k a0_0 a0_1 a0_2 l0_3 a1).bind fun t113 => (some (t113.length : Int))
theorem Bp.calls (k : Nat) (a0_0 : Int) (a0_1 : ByteArray) (a0_2 : ByteArray) (A0_3 : Option Addr) (c0_3 : Nat) (l0_3 : List (B8)) (a1 : Int) (r : Int) (w : Pe) (hr0_3 : Kd.C AY w A0_3 l0_3.length l0_3) (hc0_3 : l0_3.length <= c0_3) (h : Bp.f k a0_0 a0_1 a0_2 l0_3 a1 = some r) :
  Calls Try.prog 17 #[.agg #[.int .i64 a0_0, .string a0_1, .string a0_2, .slice A0_3 l0_3.length c0_3], .int .i64 a1] w fun e w' => e = .returned (.int .i64 r) /\ Below w.heap.size w w' := by
 have hu24 := Try.underlying24;have HR0_3 := A7.mk hr0_3;have HC0_3 := A7.mk hc0_3;clear hr0_3 hc0_3;have HB := A7.mk (Pn w.heap.size w);have H : ((AC.f k a0_0 a0_1 a0_2 l0_3 a1).bind fun t113 => (some (t113.length : Int))) = some r := h;clear h;replace H := Q3.mp H;obtain ⟨t113, A30, H⟩ := H;replace H : (some (t113.length : Int)) = some r := H;have A3 := A7.mk A30;clear A30;obtain rfl := Px H;go_enter Try.func17, Try.ntmps17
 go_wp2_with (first | ((with_reducible refine AE (N := 2) rfl ?_); refine Aw ?hg (N := 2) ?hd (cs := #[.int .i64 a0_0, .string a0_1, .string a0_2, .slice A0_3 l0_3.length c0_3]) (t := 24) ?hr ?_; (case hd => rfl); (case hg => rfl); (case hr => first | (go_simp; done) | (go_simp; rfl)); intro gb112 hg w4 hbox hb; have n0_ := A7.mk (AT Go.Z.h0 hb); have n1_ := A7.mk (hbox); have n2_ := A7.mk ((by rw [hg]; exact (Aq Go.Z.h0) : w.heap.size <= gb112)); have n3_ := A7.mk ((by rw [hg]; exact (Aq Go.Z.h0) : w.heap.size <= gb112)); clear HB; have HB := n0_; have BK112 := n1_; have GW112 := n2_; have GE112 := n3_; clear n0_ n1_ n2_ n3_; clear hb hbox hg; have hcz5_0 : w4.cell? ⟨gb112, 0, none⟩ = some (.int .i64 a0_0) := (Aa BK112.out 0).trans rfl; have hcz5_1 : w4.cell? ⟨gb112, 1, none⟩ = some (.string a0_1) := (Aa BK112.out 1).trans rfl; have hcz5_2 : w4.cell? ⟨gb112, 2, none⟩ = some (.string a0_2) := (Aa BK112.out 2).trans rfl; have hcz5_3 : w4.cell? ⟨gb112, 3, none⟩ = some (.slice A0_3 l0_3.length c0_3) := (Aa BK112.out 3).trans rfl; have hfz5_0 := Ad BK112.out 0; have hfz5_1 := Ad BK112.out 1; have hfz5_2 := Ad BK112.out 2; have hfz5_3 := Ad BK112.out 3) | ((with_reducible refine Bs (f := 25) rfl ?_); refine Cv (some 7) rfl rfl Try.func25 (by kernel_rfl) rfl #[.agg #[.int .i64 a0_0, .string a0_1, .string a0_2, .slice A0_3 l0_3.length c0_3], .int .i64 a1] rfl (by (try simp only [PN, Py, PZ]); first | done | rfl | (simp only [PG, Pp]; rfl)) ?_; (with_reducible refine (AC.calls k a0_0 a0_1 a0_2 (fun k_ => k_ < w.heap.size) _ _ l0_3 a1 t113 _ ?side1 A3.out).mono ?_); (case side1 => exact Kd.V_mk HC0_3.out (Kd.F_below (Kd.C_F Cy HR0_3.out) (Go.Z.h1 GE112.out))); rintro e w6 ⟨v114, rfl, ho0, hb⟩; refine ⟨_, rfl, ?_⟩; have n0_ := A7.mk (Kd.N_lower (Kd.N_mono (ok' := fun k_ => k_ ≠ gb112) ho0 (fun k_ hk_ => Or.elim hk_ (fun hs_ => fun e_ => Nat.not_le.2 hs_ (by rw [e_]; exact GW112.out)) (fun hn_ => (Kd.freshB (g := gb112) (o := .cells #[.int .i64 a0_0, .string a0_1, .string a0_2, .slice A0_3 l0_3.length c0_3] 24 (0, 0)) (Go.Z.k BK112.out) k_ hn_)))) (Aq (Go.Z.h1 GE112.out))); have n1_ := A7.mk (Bf (g := gb112) (o := .cells #[.int .i64 a0_0, .string a0_1, .string a0_2, .slice A0_3 l0_3.length c0_3] 24 (0, 0)) (Go.Z.k BK112.out) hb); have n2_ := A7.mk (AT (Go.Z.h1 GE112.out) hb); clear BK112; clear HB; have HO115 := n0_; have BK112 := n1_; have HB := n2_; clear n0_ n1_ n2_; (try clear hb); (try clear hb2); (try clear hk); (try clear hi); (try clear ho0); obtain ⟨Ao7, co7, eo7⟩ := Kd.N_slice HO115.out; subst eo7))
 go_ret
 exact ⟨by first | rfl | (simp [AP, AQ] <;> rfl) | (simp [*, AP, AQ] <;> rfl), by repeat (first | (with_reducible first | exact HB.out | apply Ah | apply AH | apply AD | refine AZ ?_ GE112.out) | exact HB.out)⟩
def B4.l0 : Nat -> List (B8) -> Int -> Int -> Option (Bool)
 | 0, _, _, _ => none
 | k + 1, x3, x4, x5 => if x5 < (x3.length : Int) then (if 0 <= x5 then (if (Pq ((Pq (x4 + (mn (((Aj x3 x5).f1).size : Int) 100000))) + (mn (((Aj x3 x5).f2).size : Int) 100000))) > 50000 then (some BK) else (B4.l0 k x3 (Pq ((Pq (x4 + (mn (((Aj x3 x5).f1).size : Int) 100000))) + (mn (((Aj x3 x5).f2).size : Int) 100000))) (Pq (x5 + 1)))) else (none)) else (some (decide ((x3.length : Int) <= 2000)))
def B4.f (k : Nat) (a0_0 : Int) (a0_1 : ByteArray) (a0_2 : ByteArray) (l0_3 : List (B8)) : Option (Bool) := (AC.f k a0_0 a0_1 a0_2 l0_3 2001).bind fun t117 => (B4.l0 k t117 0 0)
theorem B4.calls (k : Nat) (a0_0 : Int) (a0_1 : ByteArray) (a0_2 : ByteArray) (A0_3 : Option Addr) (c0_3 : Nat) (l0_3 : List (B8)) (r : Bool) (w : Pe) (hr0_3 : Kd.C AY w A0_3 l0_3.length l0_3) (hc0_3 : l0_3.length <= c0_3) (h : B4.f k a0_0 a0_1 a0_2 l0_3 = some r) :
  Calls Try.prog 18 #[.agg #[.int .i64 a0_0, .string a0_1, .string a0_2, .slice A0_3 l0_3.length c0_3]] w fun e w' => e = .returned (.bool r) /\ Below w.heap.size w w' := by
 have hu24 := Try.underlying24;have HR0_3 := A7.mk hr0_3;have HC0_3 := A7.mk hc0_3;clear hr0_3 hc0_3;have HB := A7.mk (Pn w.heap.size w);have H : ((AC.f k a0_0 a0_1 a0_2 l0_3 2001).bind fun t117 => (B4.l0 k t117 0 0)) = some r := h;clear h;replace H := Q3.mp H;obtain ⟨t117, A20, H⟩ := H;replace H : (B4.l0 k t117 0 0) = some r := H;have A2 := A7.mk A20;clear A20;have H' := A7.mk H;clear H;go_enter Try.func18, Try.ntmps18
 go_wp2_with (first | ((with_reducible refine AE (N := 1) rfl ?_); refine Aw ?hg (N := 1) ?hd (cs := #[.int .i64 a0_0, .string a0_1, .string a0_2, .slice A0_3 l0_3.length c0_3]) (t := 24) ?hr ?_; (case hd => rfl); (case hg => rfl); (case hr => first | (go_simp; done) | (go_simp; rfl)); intro gb116 hg w3 hbox hb; have n0_ := A7.mk (AT Go.Z.h0 hb); have n1_ := A7.mk (hbox); have n2_ := A7.mk ((by rw [hg]; exact (Aq Go.Z.h0) : w.heap.size <= gb116)); have n3_ := A7.mk ((by rw [hg]; exact (Aq Go.Z.h0) : w.heap.size <= gb116)); clear HB; have HB := n0_; have BK116 := n1_; have GW116 := n2_; have GE116 := n3_; clear n0_ n1_ n2_ n3_; clear hb hbox hg; have hcz4_0 : w3.cell? ⟨gb116, 0, none⟩ = some (.int .i64 a0_0) := (Aa BK116.out 0).trans rfl; have hcz4_1 : w3.cell? ⟨gb116, 1, none⟩ = some (.string a0_1) := (Aa BK116.out 1).trans rfl; have hcz4_2 : w3.cell? ⟨gb116, 2, none⟩ = some (.string a0_2) := (Aa BK116.out 2).trans rfl; have hcz4_3 : w3.cell? ⟨gb116, 3, none⟩ = some (.slice A0_3 l0_3.length c0_3) := (Aa BK116.out 3).trans rfl; have hfz4_0 := Ad BK116.out 0; have hfz4_1 := Ad BK116.out 1; have hfz4_2 := Ad BK116.out 2; have hfz4_3 := Ad BK116.out 3) | (go_at_call 25; (with_reducible refine (AC.calls k a0_0 a0_1 a0_2 (fun k_ => k_ < w.heap.size) _ _ l0_3 2001 t117 _ ?side1 A2.out).mono ?_); (case side1 => exact Kd.V_mk HC0_3.out (Kd.F_below (Kd.C_F Cy HR0_3.out) (Go.Z.h1 GE116.out))); rintro e w5 ⟨v118, rfl, ho0, hb⟩; have n0_ := A7.mk (Kd.N_lower (Kd.N_mono (ok' := fun k_ => k_ ≠ gb116) ho0 (fun k_ hk_ => Or.elim hk_ (fun hs_ => fun e_ => Nat.not_le.2 hs_ (by rw [e_]; exact GW116.out)) (fun hn_ => (Kd.freshB (g := gb116) (o := .cells #[.int .i64 a0_0, .string a0_1, .string a0_2, .slice A0_3 l0_3.length c0_3] 24 (0, 0)) (Go.Z.k BK116.out) k_ hn_)))) (Aq (Go.Z.h1 GE116.out))); have n1_ := A7.mk (Bf (g := gb116) (o := .cells #[.int .i64 a0_0, .string a0_1, .string a0_2, .slice A0_3 l0_3.length c0_3] 24 (0, 0)) (Go.Z.k BK116.out) hb); have n2_ := A7.mk (AT (Go.Z.h1 GE116.out) hb); clear BK116; clear HB; have HO119 := n0_; have BK116 := n1_; have HB := n2_; clear n0_ n1_ n2_; (try clear hb); (try clear hb2); (try clear hk); (try clear hi); (try clear ho0)))
 repeat (go_quiet (first | ((with_reducible refine AE (N := 1) rfl ?_); refine Aw ?hg (N := 1) ?hd (cs := #[.int .i64 a0_0, .string a0_1, .string a0_2, .slice A0_3 l0_3.length c0_3]) (t := 24) ?hr ?_; (case hd => rfl); (case hg => rfl); (case hr => first | (go_simp; done) | (go_simp; rfl)); intro gb116 hg w3 hbox hb; have n0_ := A7.mk (AT Go.Z.h0 hb); have n1_ := A7.mk (hbox); have n2_ := A7.mk ((by rw [hg]; exact (Aq Go.Z.h0) : w.heap.size <= gb116)); have n3_ := A7.mk ((by rw [hg]; exact (Aq Go.Z.h0) : w.heap.size <= gb116)); clear HB; have HB := n0_; have BK116 := n1_; have GW116 := n2_; have GE116 := n3_; clear n0_ n1_ n2_ n3_; clear hb hbox hg; have hcz4_0 : w3.cell? ⟨gb116, 0, none⟩ = some (.int .i64 a0_0) := (Aa BK116.out 0).trans rfl; have hcz4_1 : w3.cell? ⟨gb116, 1, none⟩ = some (.string a0_1) := (Aa BK116.out 1).trans rfl; have hcz4_2 : w3.cell? ⟨gb116, 2, none⟩ = some (.string a0_2) := (Aa BK116.out 2).trans rfl; have hcz4_3 : w3.cell? ⟨gb116, 3, none⟩ = some (.slice A0_3 l0_3.length c0_3) := (Aa BK116.out 3).trans rfl; have hfz4_0 := Ad BK116.out 0; have hfz4_1 := Ad BK116.out 1; have hfz4_2 := Ad BK116.out 2; have hfz4_3 := Ad BK116.out 3) | (go_at_call 25; (with_reducible refine (AC.calls k a0_0 a0_1 a0_2 (fun k_ => k_ < w.heap.size) _ _ l0_3 2001 t117 _ ?side1 A2.out).mono ?_); (case side1 => exact Kd.V_mk HC0_3.out (Kd.F_below (Kd.C_F Cy HR0_3.out) (Go.Z.h1 GE116.out))); rintro e w5 ⟨v118, rfl, ho0, hb⟩; have n0_ := A7.mk (Kd.N_lower (Kd.N_mono (ok' := fun k_ => k_ ≠ gb116) ho0 (fun k_ hk_ => Or.elim hk_ (fun hs_ => fun e_ => Nat.not_le.2 hs_ (by rw [e_]; exact GW116.out)) (fun hn_ => (Kd.freshB (g := gb116) (o := .cells #[.int .i64 a0_0, .string a0_1, .string a0_2, .slice A0_3 l0_3.length c0_3] 24 (0, 0)) (Go.Z.k BK116.out) k_ hn_)))) (Aq (Go.Z.h1 GE116.out))); have n1_ := A7.mk (Bf (g := gb116) (o := .cells #[.int .i64 a0_0, .string a0_1, .string a0_2, .slice A0_3 l0_3.length c0_3] 24 (0, 0)) (Go.Z.k BK116.out) hb); have n2_ := A7.mk (AT (Go.Z.h1 GE116.out) hb); clear BK116; clear HB; have HO119 := n0_; have BK116 := n1_; have HB := n2_; clear n0_ n1_ n2_; (try clear hb); (try clear hb2); (try clear hk); (try clear hi); (try clear ho0))); try go_wp2_with (first | ((with_reducible refine AE (N := 1) rfl ?_); refine Aw ?hg (N := 1) ?hd (cs := #[.int .i64 a0_0, .string a0_1, .string a0_2, .slice A0_3 l0_3.length c0_3]) (t := 24) ?hr ?_; (case hd => rfl); (case hg => rfl); (case hr => first | (go_simp; done) | (go_simp; rfl)); intro gb116 hg w3 hbox hb; have n0_ := A7.mk (AT Go.Z.h0 hb); have n1_ := A7.mk (hbox); have n2_ := A7.mk ((by rw [hg]; exact (Aq Go.Z.h0) : w.heap.size <= gb116)); have n3_ := A7.mk ((by rw [hg]; exact (Aq Go.Z.h0) : w.heap.size <= gb116)); clear HB; have HB := n0_; have BK116 := n1_; have GW116 := n2_; have GE116 := n3_; clear n0_ n1_ n2_ n3_; clear hb hbox hg; have hcz4_0 : w3.cell? ⟨gb116, 0, none⟩ = some (.int .i64 a0_0) := (Aa BK116.out 0).trans rfl; have hcz4_1 : w3.cell? ⟨gb116, 1, none⟩ = some (.string a0_1) := (Aa BK116.out 1).trans rfl; have hcz4_2 : w3.cell? ⟨gb116, 2, none⟩ = some (.string a0_2) := (Aa BK116.out 2).trans rfl; have hcz4_3 : w3.cell? ⟨gb116, 3, none⟩ = some (.slice A0_3 l0_3.length c0_3) := (Aa BK116.out 3).trans rfl; have hfz4_0 := Ad BK116.out 0; have hfz4_1 := Ad BK116.out 1; have hfz4_2 := Ad BK116.out 2; have hfz4_3 := Ad BK116.out 3) | (go_at_call 25; (with_reducible refine (AC.calls k a0_0 a0_1 a0_2 (fun k_ => k_ < w.heap.size) _ _ l0_3 2001 t117 _ ?side1 A2.out).mono ?_); (case side1 => exact Kd.V_mk HC0_3.out (Kd.F_below (Kd.C_F Cy HR0_3.out) (Go.Z.h1 GE116.out))); rintro e w5 ⟨v118, rfl, ho0, hb⟩; have n0_ := A7.mk (Kd.N_lower (Kd.N_mono (ok' := fun k_ => k_ ≠ gb116) ho0 (fun k_ hk_ => Or.elim hk_ (fun hs_ => fun e_ => Nat.not_le.2 hs_ (by rw [e_]; exact GW116.out)) (fun hn_ => (Kd.freshB (g := gb116) (o := .cells #[.int .i64 a0_0, .string a0_1, .string a0_2, .slice A0_3 l0_3.length c0_3] 24 (0, 0)) (Go.Z.k BK116.out) k_ hn_)))) (Aq (Go.Z.h1 GE116.out))); have n1_ := A7.mk (Bf (g := gb116) (o := .cells #[.int .i64 a0_0, .string a0_1, .string a0_2, .slice A0_3 l0_3.length c0_3] 24 (0, 0)) (Go.Z.k BK116.out) hb); have n2_ := A7.mk (AT (Go.Z.h1 GE116.out) hb); clear BK116; clear HB; have HO119 := n0_; have BK116 := n1_; have HB := n2_; clear n0_ n1_ n2_; (try clear hb); (try clear hb2); (try clear hk); (try clear hi); (try clear ho0))))
 go_loopg [4, 5] k (fun kq v4 v5 w' => ∃ (x4_1 : Int) (x5_1 : Int), v4 = .int .i64 x4_1 /\ v5 = .int .i64 x5_1 /\ A7 (B4.l0 kq t117 x4_1 x5_1 = some r) /\ A7 (kq <= k) /\ A7 (Kd.N AY 24 w' w.heap.size (fun k_ => k_ ≠ gb116) v118 t117) /\ A7 (w'.heap[gb116]? = some (.cells #[.int .i64 a0_0, .string a0_1, .string a0_2, (.slice A0_3 l0_3.length c0_3)] 24 (0, 0))) /\ A7 (Below w.heap.size w w'))
 case atStart => exact ⟨(0), (0), (by first | rfl | (simp; done) | (simp [*]; done)), (by first | rfl | (simp; done) | (simp [*]; done)), H', ⟨Ps _⟩, ⟨by (with_reducible repeat (first | apply Kd.N_alloc | apply Kd.N_drewN | apply Kd.N_drew)); exact HO119.out⟩, ⟨Go.Z.k BK116.out⟩, ⟨Go.Z.h1 GE116.out⟩⟩
 case round =>
  clear H'
  try clear c1
  try clear p2
  try clear hcz4_0
  try clear hcz4_1
  try clear hcz4_2
  try clear hcz4_3
  try clear hfz4_0
  try clear hfz4_1
  try clear hfz4_2
  try clear hfz4_3
  obtain ⟨x4_1, x5_1, rfl, rfl, HA, HK1, HO_3, BK116, HB⟩ := hrel;cases gk with
  | zero => exact absurd HA.out (by simp [B4.l0])
  | succ k1 =>
   have H := HA.out;clear HA;simp only [B4.l0] at H;by_cases c6 : x5_1 < (t117.length : Int)
   ·rw [if_pos c6] at H;have c6b0 : decide (x5_1 < (t117.length : Int)) = true := decide_eq_true c6;clear c6;by_cases c7 : 0 <= x5_1
    ·rw [if_pos c7] at H;have c7b0 : decide (0 <= x5_1) = true := decide_eq_true c7;clear c7;obtain ⟨ji8, hji8⟩ : ∃ j_ : Int, (mn (((Aj t117 x5_1).f1).size : Int) 100000) = j_ := ⟨_, rfl⟩;replace H : (if (Pq ((Pq (x4_1 + (ji8))) + (mn (((Aj t117 x5_1).f2).size : Int) 100000))) > 50000 then (some BK) else (B4.l0 k1 t117 (Pq ((Pq (x4_1 + (ji8))) + (mn (((Aj t117 x5_1).f2).size : Int) 100000))) (Pq (x5_1 + 1)))) = some r := by first | (rw [hji8] at H; exact H) | (simp only [hji8] at H ⊢; exact H)
     have hji8_ : (if 100000 < (((Aj t117 x5_1).f1).size : Int) then 100000 else (((Aj t117 x5_1).f1).size : Int)) = ji8 := hji8;obtain ⟨ji9, hji9⟩ : ∃ j_ : Int, (mn (((Aj t117 x5_1).f2).size : Int) 100000) = j_ := ⟨_, rfl⟩;replace H : (if (Pq ((Pq (x4_1 + (ji8))) + (ji9))) > 50000 then (some BK) else (B4.l0 k1 t117 (Pq ((Pq (x4_1 + (ji8))) + (ji9))) (Pq (x5_1 + 1)))) = some r := by first | (rw [hji9] at H; exact H) | (simp only [hji9] at H ⊢; exact H)
     have hji9_ : (if 100000 < (((Aj t117 x5_1).f2).size : Int) then 100000 else (((Aj t117 x5_1).f2).size : Int)) = ji9 := hji9;by_cases c10 : (Pq ((Pq (x4_1 + (ji8))) + (ji9))) > 50000
     ·rw [if_pos c10] at H;have c10b0 : decide (50000 < (Pq ((Pq (x4_1 + (ji8))) + (ji9)))) = true := decide_eq_true c10;clear c10;obtain rfl := Px H;obtain ⟨Ao11, co11, eo11⟩ := Kd.N_slice HO_3.out;subst eo11;have p120 : 0 <= (x5_1 : Int) := of_decide_eq_true (by first | (with_reducible assumption) | assumption);have q120 : x5_1 < (t117.length : Int) := of_decide_eq_true (by first | (with_reducible assumption) | assumption);obtain ⟨ad120, A120_3, c120_3, e120, hx120_0, hx120_1, hx120_2, hx120_3, hl120_3, hi120_3⟩ := Cw (Kd.N_reads' HO_3.out).2.2 x5_1 p120 q120;cases e120;obtain ⟨ce120, hce120, hMe120, hcc120⟩ := Kd.N_get HO_3.out D0 x5_1 p120 (by first | exact q120 | exact of_decide_eq_true (by first | (with_reducible assumption) | assumption) | (have e_ := (Kd.N_reads' HO_3.out).1; omega));obtain ⟨ua120_3, uc120_3, rfl, ul120_3, ge120_3⟩ := CP hMe120;have hv120_3 := hcc120 3 _ rfl;rw [Bh _ _ 3 (by omega)] at hv120_3;replace hv120_3 := Px (hv120_3.symm.trans hx120_3);injection hv120_3 with hva_ hvn_ hvc_
      rw [hva_] at ge120_3;rw [hvc_] at ul120_3;have HL120_3 := A7.mk (show Kd.V AY 24 _ w.heap.size _ _ ((Aj t117 x5_1).f3) from Kd.V_mk ul120_3 ge120_3);clear hva_ hvn_ hvc_ ge120_3 ul120_3;clear hcc120 hce120;have HR120_3 := A7.mk hi120_3;have HC120_3 := A7.mk hl120_3;clear hi120_3 hl120_3;replace p120 := eq_true p120;replace q120 := eq_true q120;have p121 : 0 <= (x5_1 : Int) := of_decide_eq_true (by first | (with_reducible assumption) | assumption);have q121 : x5_1 < (t117.length : Int) := of_decide_eq_true (by first | (with_reducible assumption) | assumption);obtain ⟨ad121, A121_3, c121_3, e121, hx121_0, hx121_1, hx121_2, hx121_3, hl121_3, hi121_3⟩ := Cw (Kd.N_reads' HO_3.out).2.2 x5_1 p121 q121;obtain rfl : ad120 = ad121 := (by injection e121);obtain ⟨ce121, hce121, hMe121, hcc121⟩ := Kd.N_get HO_3.out D0 x5_1 p121 (by first | exact q121 | exact of_decide_eq_true (by first | (with_reducible assumption) | assumption) | (have e_ := (Kd.N_reads' HO_3.out).1; omega));obtain ⟨ua121_3, uc121_3, rfl, ul121_3, ge121_3⟩ := CP hMe121;have hv121_3 := hcc121 3 _ rfl;rw [Bh _ _ 3 (by omega)] at hv121_3;replace hv121_3 := Px (hv121_3.symm.trans hx121_3);injection hv121_3 with hva_ hvn_ hvc_
      rw [hva_] at ge121_3;rw [hvc_] at ul121_3;have HL121_3 := A7.mk (show Kd.V AY 24 _ w.heap.size _ _ ((Aj t117 x5_1).f3) from Kd.V_mk ul121_3 ge121_3);clear hva_ hvn_ hvc_ ge121_3 ul121_3;clear hcc121 hce121;have HR121_3 := A7.mk hi121_3;have HC121_3 := A7.mk hl121_3;clear hi121_3 hl121_3;replace p121 := eq_true p121;replace q121 := eq_true q121;have ea_ := Px (hx120_3.symm.trans hx121_3);injection ea_ with ea_ en_ ec_
      subst ea_;subst ec_;clear en_;go_wp2
      repeat (go_quiet (fail); try go_wp2)
      go_ret
      exact ⟨by first | rfl | (simp [AP, AQ] <;> rfl) | (simp only [<- hji8, <- hji9]; first | rfl | (simp [AP, AQ] <;> rfl)) | (simp [*, AP, AQ] <;> rfl), by repeat (first | (with_reducible first | exact HB.out | apply Ah | apply AH | apply AD | refine AZ ?_ GE116.out) | exact HB.out)⟩
     ·rw [if_neg c10] at H;have c10b0 : decide (50000 < (Pq ((Pq (x4_1 + (ji8))) + (ji9)))) = BK := decide_eq_false c10;clear c10;have H' := A7.mk H;clear H;obtain ⟨Ao12, co12, eo12⟩ := Kd.N_slice HO_3.out;subst eo12
      (try clear hx120_0)
      (try clear hx120_1)
      (try clear hx120_2)
      (try clear hx120_3)
      (repeat (first | clear HS0_ | clear HS1_ | clear HS2_ | clear HS3_ | clear HS4_ | clear HS5_ | clear HS6_ | clear HS7_ | clear HS8_ | clear HS9_ | clear HS10_ | clear HS11_ | clear HS12_ | clear HS13_ | clear HS14_ | clear HS15_ | clear HS16_ | clear HS17_ | clear HS18_ | clear HS19_ | clear HS20_ | clear HS21_ | clear HS22_ | clear HS23_))
      (try clear hHeld)
      have p120 : 0 <= (x5_1 : Int) := of_decide_eq_true (by first | (with_reducible assumption) | assumption);have q120 : x5_1 < (t117.length : Int) := of_decide_eq_true (by first | (with_reducible assumption) | assumption);obtain ⟨ad120, A120_3, c120_3, e120, hx120_0, hx120_1, hx120_2, hx120_3, hl120_3, hi120_3⟩ := Cw (Kd.N_reads' HO_3.out).2.2 x5_1 p120 q120;cases e120;obtain ⟨ce120, hce120, hMe120, hcc120⟩ := Kd.N_get HO_3.out D0 x5_1 p120 (by first | exact q120 | exact of_decide_eq_true (by first | (with_reducible assumption) | assumption) | (have e_ := (Kd.N_reads' HO_3.out).1; omega));obtain ⟨ua120_3, uc120_3, rfl, ul120_3, ge120_3⟩ := CP hMe120;have hv120_3 := hcc120 3 _ rfl;rw [Bh _ _ 3 (by omega)] at hv120_3;replace hv120_3 := Px (hv120_3.symm.trans hx120_3);injection hv120_3 with hva_ hvn_ hvc_
      rw [hva_] at ge120_3;rw [hvc_] at ul120_3;have HL120_3 := A7.mk (show Kd.V AY 24 _ w.heap.size _ _ ((Aj t117 x5_1).f3) from Kd.V_mk ul120_3 ge120_3);clear hva_ hvn_ hvc_ ge120_3 ul120_3;clear hcc120 hce120;have HR120_3 := A7.mk hi120_3;have HC120_3 := A7.mk hl120_3;clear hi120_3 hl120_3;replace p120 := eq_true p120;replace q120 := eq_true q120;have p121 : 0 <= (x5_1 : Int) := of_decide_eq_true (by first | (with_reducible assumption) | assumption);have q121 : x5_1 < (t117.length : Int) := of_decide_eq_true (by first | (with_reducible assumption) | assumption);obtain ⟨ad121, A121_3, c121_3, e121, hx121_0, hx121_1, hx121_2, hx121_3, hl121_3, hi121_3⟩ := Cw (Kd.N_reads' HO_3.out).2.2 x5_1 p121 q121;obtain rfl : ad120 = ad121 := (by injection e121);obtain ⟨ce121, hce121, hMe121, hcc121⟩ := Kd.N_get HO_3.out D0 x5_1 p121 (by first | exact q121 | exact of_decide_eq_true (by first | (with_reducible assumption) | assumption) | (have e_ := (Kd.N_reads' HO_3.out).1; omega));obtain ⟨ua121_3, uc121_3, rfl, ul121_3, ge121_3⟩ := CP hMe121;have hv121_3 := hcc121 3 _ rfl;rw [Bh _ _ 3 (by omega)] at hv121_3;replace hv121_3 := Px (hv121_3.symm.trans hx121_3);injection hv121_3 with hva_ hvn_ hvc_
      rw [hva_] at ge121_3;rw [hvc_] at ul121_3;have HL121_3 := A7.mk (show Kd.V AY 24 _ w.heap.size _ _ ((Aj t117 x5_1).f3) from Kd.V_mk ul121_3 ge121_3);clear hva_ hvn_ hvc_ ge121_3 ul121_3;clear hcc121 hce121;have HR121_3 := A7.mk hi121_3;have HC121_3 := A7.mk hl121_3;clear hi121_3 hl121_3;replace p121 := eq_true p121;replace q121 := eq_true q121;have ea_ := Px (hx120_3.symm.trans hx121_3);injection ea_ with ea_ en_ ec_
      subst ea_;subst ec_;clear en_;go_wp2
      repeat (go_quiet (fail); try go_wp2)
      go_roundg k1
      case measure => have := HK1.out; omega
      case rel => exact ⟨(Pq ((Pq (x4_1 + (ji8))) + (ji9))), (Pq (x5_1 + 1)), (by first | rfl | (simp; done) | (simp only [<- hji8, <- hji9] <;> (first | rfl | simp)) | (simp [*]; done)), (by first | rfl | (simp; done) | (simp [*]; done)), H', ⟨by have := HK1.out; omega⟩, ⟨by (with_reducible repeat (first | apply Kd.N_alloc | apply Kd.N_drewN | apply Kd.N_drew)); exact HO_3.out⟩, ⟨Go.Z.k BK116.out⟩, ⟨Go.Z.h1 GE116.out⟩⟩
    ·rw [if_neg c7] at H;exact absurd H (by simp)
   ·rw [if_neg c6] at H;have c6b0 : decide (x5_1 < (t117.length : Int)) = BK := decide_eq_false c6;clear c6;obtain rfl := Px H;obtain ⟨Ao13, co13, eo13⟩ := Kd.N_slice HO_3.out;subst eo13;go_wp2
    repeat (go_quiet (fail); try go_wp2)
    go_ret
    exact ⟨by first | rfl | (simp [AP, AQ] <;> rfl) | (simp [*, AP, AQ] <;> rfl), by repeat (first | (with_reducible first | exact HB.out | apply Ah | apply AH | apply AD | refine AZ ?_ GE116.out) | exact HB.out)⟩
def CS.f (k : Nat) (a0_0 : Int) (a0_1 : ByteArray) (a0_2 : ByteArray) (l0_3 : List (B8)) (a1 : Int) : Option (Bool) := (B4.f k a0_0 a0_1 a0_2 l0_3).bind fun t123 => (if t123 = true then ((Bp.f k a0_0 a0_1 a0_2 l0_3 (Pq (a1 + 1))).bind fun t124 => (some (decide (t124 <= a1)))) else (some BK))
theorem CS.calls (k : Nat) (a0_0 : Int) (a0_1 : ByteArray) (a0_2 : ByteArray) (A0_3 : Option Addr) (c0_3 : Nat) (l0_3 : List (B8)) (a1 : Int) (r : Bool) (w : Pe) (hr0_3 : Kd.C AY w A0_3 l0_3.length l0_3) (hc0_3 : l0_3.length <= c0_3) (h : CS.f k a0_0 a0_1 a0_2 l0_3 a1 = some r) :
  Calls Try.prog 6 #[.agg #[.int .i64 a0_0, .string a0_1, .string a0_2, .slice A0_3 l0_3.length c0_3], .int .i64 a1] w fun e w' => e = .returned (.bool r) /\ Below w.heap.size w w' := by
 have hu24 := Try.underlying24;have HR0_3 := A7.mk hr0_3;have HC0_3 := A7.mk hc0_3;clear hr0_3 hc0_3;have HB := A7.mk (Pn w.heap.size w);have H : ((B4.f k a0_0 a0_1 a0_2 l0_3).bind fun t123 => (if t123 = true then ((Bp.f k a0_0 a0_1 a0_2 l0_3 (Pq (a1 + 1))).bind fun t124 => (some (decide (t124 <= a1)))) else (some BK))) = some r := h;clear h;replace H := Q3.mp H;obtain ⟨t123, A30, H⟩ := H;replace H : (if t123 = true then ((Bp.f k a0_0 a0_1 a0_2 l0_3 (Pq (a1 + 1))).bind fun t124 => (some (decide (t124 <= a1)))) else (some BK)) = some r := H;have A3 := A7.mk A30;clear A30;by_cases c4 : t123 = true
 ·subst c4;have H1 : ((Bp.f k a0_0 a0_1 a0_2 l0_3 (Pq (a1 + 1))).bind fun t124 => (some (decide (t124 <= a1)))) = some r := by rw [if_pos rfl] at H; exact H
  clear H;have H := H1;clear H1;replace H := Q3.mp H;obtain ⟨t124, A50, H⟩ := H;replace H : (some (decide (t124 <= a1))) = some r := H;have A5 := A7.mk A50;clear A50;obtain rfl := Px H;go_enter Try.func6, Try.ntmps6
  go_wp2_with (first | ((with_reducible refine AE (N := 2) rfl ?_); refine Aw ?hg (N := 2) ?hd (cs := #[.int .i64 a0_0, .string a0_1, .string a0_2, .slice A0_3 l0_3.length c0_3]) (t := 24) ?hr ?_; (case hd => rfl); (case hg => rfl); (case hr => first | (go_simp; done) | (go_simp; rfl)); intro gb122 hg w6 hbox hb; have n0_ := A7.mk (AT Go.Z.h0 hb); have n1_ := A7.mk (hbox); have n2_ := A7.mk ((by rw [hg]; exact (Aq Go.Z.h0) : w.heap.size <= gb122)); have n3_ := A7.mk ((by rw [hg]; exact (Aq Go.Z.h0) : w.heap.size <= gb122)); clear HB; have HB := n0_; have BK122 := n1_; have GW122 := n2_; have GE122 := n3_; clear n0_ n1_ n2_ n3_; clear hb hbox hg; have hcz7_0 : w6.cell? ⟨gb122, 0, none⟩ = some (.int .i64 a0_0) := (Aa BK122.out 0).trans rfl; have hcz7_1 : w6.cell? ⟨gb122, 1, none⟩ = some (.string a0_1) := (Aa BK122.out 1).trans rfl; have hcz7_2 : w6.cell? ⟨gb122, 2, none⟩ = some (.string a0_2) := (Aa BK122.out 2).trans rfl; have hcz7_3 : w6.cell? ⟨gb122, 3, none⟩ = some (.slice A0_3 l0_3.length c0_3) := (Aa BK122.out 3).trans rfl; have hfz7_0 := Ad BK122.out 0; have hfz7_1 := Ad BK122.out 1; have hfz7_2 := Ad BK122.out 2; have hfz7_3 := Ad BK122.out 3) | ((with_reducible refine Bs (f := 18) rfl ?_); refine Cv (some 6) rfl rfl Try.func18 (by kernel_rfl) rfl #[.agg #[.int .i64 a0_0, .string a0_1, .string a0_2, .slice A0_3 l0_3.length c0_3]] rfl (by (try simp only [PN, Py, PZ]); first | done | rfl | (simp only [PG, Pp]; rfl)) ?_; (with_reducible refine (B4.calls k a0_0 a0_1 a0_2 _ _ l0_3 true _ ?side1 ?side2 A3.out).mono ?_); (case side1 => repeat (first | exact (Kd.C_below HR0_3.out HB.out) | (with_reducible refine Kd.C_alloc ?_ _) | (with_reducible refine Kd.C_drewN ?_ _) | (with_reducible refine Kd.C_drew ?_))); (case side2 => exact HC0_3.out); rintro e w8 ⟨rfl, hb⟩; refine ⟨_, rfl, ?_⟩; have n0_ := A7.mk (Bf (g := gb122) (o := .cells #[.int .i64 a0_0, .string a0_1, .string a0_2, .slice A0_3 l0_3.length c0_3] 24 (0, 0)) (Go.Z.k BK122.out) hb); have n1_ := A7.mk (AT (Go.Z.h1 GE122.out) hb); clear BK122; clear HB; have BK122 := n0_; have HB := n1_; clear n0_ n1_; (try clear hb); (try clear hb2); (try clear hk); (try clear hi); have hcz9_0 : w8.cell? ⟨gb122, 0, none⟩ = some (.int .i64 a0_0) := (Aa BK122.out 0).trans rfl; have hcz9_1 : w8.cell? ⟨gb122, 1, none⟩ = some (.string a0_1) := (Aa BK122.out 1).trans rfl; have hcz9_2 : w8.cell? ⟨gb122, 2, none⟩ = some (.string a0_2) := (Aa BK122.out 2).trans rfl; have hcz9_3 : w8.cell? ⟨gb122, 3, none⟩ = some (.slice A0_3 l0_3.length c0_3) := (Aa BK122.out 3).trans rfl; have hfz9_0 := Ad BK122.out 0; have hfz9_1 := Ad BK122.out 1; have hfz9_2 := Ad BK122.out 2; have hfz9_3 := Ad BK122.out 3) | (go_at_call 17; (with_reducible refine (Bp.calls k a0_0 a0_1 a0_2 _ _ l0_3 (Pq (a1 + 1)) t124 _ ?side1 ?side2 A5.out).mono ?_); (case side1 => repeat (first | exact (Kd.C_below HR0_3.out HB.out) | (with_reducible refine Kd.C_alloc ?_ _) | (with_reducible refine Kd.C_drewN ?_ _) | (with_reducible refine Kd.C_drew ?_))); (case side2 => exact HC0_3.out); rintro e w10 ⟨rfl, hb⟩; have n0_ := A7.mk (Bf (g := gb122) (o := .cells #[.int .i64 a0_0, .string a0_1, .string a0_2, .slice A0_3 l0_3.length c0_3] 24 (0, 0)) (Go.Z.k BK122.out) hb); have n1_ := A7.mk (AT (Go.Z.h1 GE122.out) hb); clear BK122; clear HB; have BK122 := n0_; have HB := n1_; clear n0_ n1_; (try clear hb); (try clear hb2); (try clear hk); (try clear hi)))
  go_ret
  exact ⟨by first | rfl | (simp [AP, AQ] <;> rfl) | (simp [*, AP, AQ] <;> rfl), by repeat (first | (with_reducible first | exact HB.out | apply Ah | apply AH | apply AD | refine AZ ?_ GE122.out) | exact HB.out)⟩
 ·replace c4 := Bool.eq_false_iff.mpr c4;subst c4;have H1 : (some BK) = some r := by rw [if_neg (show ¬ (BK = true) by decide)] at H; exact H
  clear H;have H := H1;clear H1;obtain rfl := Px H;go_enter Try.func6, Try.ntmps6
  go_wp2_with (first | ((with_reducible refine AE (N := 2) rfl ?_); refine Aw ?hg (N := 2) ?hd (cs := #[.int .i64 a0_0, .string a0_1, .string a0_2, .slice A0_3 l0_3.length c0_3]) (t := 24) ?hr ?_; (case hd => rfl); (case hg => rfl); (case hr => first | (go_simp; done) | (go_simp; rfl)); intro gb122 hg w11 hbox hb; have n0_ := A7.mk (AT Go.Z.h0 hb); have n1_ := A7.mk (hbox); have n2_ := A7.mk ((by rw [hg]; exact (Aq Go.Z.h0) : w.heap.size <= gb122)); have n3_ := A7.mk ((by rw [hg]; exact (Aq Go.Z.h0) : w.heap.size <= gb122)); clear HB; have HB := n0_; have BK122 := n1_; have GW122 := n2_; have GE122 := n3_; clear n0_ n1_ n2_ n3_; clear hb hbox hg; have hcz12_0 : w11.cell? ⟨gb122, 0, none⟩ = some (.int .i64 a0_0) := (Aa BK122.out 0).trans rfl; have hcz12_1 : w11.cell? ⟨gb122, 1, none⟩ = some (.string a0_1) := (Aa BK122.out 1).trans rfl; have hcz12_2 : w11.cell? ⟨gb122, 2, none⟩ = some (.string a0_2) := (Aa BK122.out 2).trans rfl; have hcz12_3 : w11.cell? ⟨gb122, 3, none⟩ = some (.slice A0_3 l0_3.length c0_3) := (Aa BK122.out 3).trans rfl; have hfz12_0 := Ad BK122.out 0; have hfz12_1 := Ad BK122.out 1; have hfz12_2 := Ad BK122.out 2; have hfz12_3 := Ad BK122.out 3) | ((with_reducible refine Bs (f := 18) rfl ?_); refine Cv (some 6) rfl rfl Try.func18 (by kernel_rfl) rfl #[.agg #[.int .i64 a0_0, .string a0_1, .string a0_2, .slice A0_3 l0_3.length c0_3]] rfl (by (try simp only [PN, Py, PZ]); first | done | rfl | (simp only [PG, Pp]; rfl)) ?_; (with_reducible refine (B4.calls k a0_0 a0_1 a0_2 _ _ l0_3 BK _ ?side1 ?side2 A3.out).mono ?_); (case side1 => repeat (first | exact (Kd.C_below HR0_3.out HB.out) | (with_reducible refine Kd.C_alloc ?_ _) | (with_reducible refine Kd.C_drewN ?_ _) | (with_reducible refine Kd.C_drew ?_))); (case side2 => exact HC0_3.out); rintro e w13 ⟨rfl, hb⟩; refine ⟨_, rfl, ?_⟩; have n0_ := A7.mk (Bf (g := gb122) (o := .cells #[.int .i64 a0_0, .string a0_1, .string a0_2, .slice A0_3 l0_3.length c0_3] 24 (0, 0)) (Go.Z.k BK122.out) hb); have n1_ := A7.mk (AT (Go.Z.h1 GE122.out) hb); clear BK122; clear HB; have BK122 := n0_; have HB := n1_; clear n0_ n1_; (try clear hb); (try clear hb2); (try clear hk); (try clear hi)))
  go_ret
  exact ⟨by first | rfl | (simp [AP, AQ] <;> rfl) | (simp [*, AP, AQ] <;> rfl), by repeat (first | (with_reducible first | exact HB.out | apply Ah | apply AH | apply AD | refine AZ ?_ GE122.out) | exact HB.out)⟩
end Go.Proofs.Q
namespace Go.Proofs.Q
structure PS where
 N : List B8
 P : List Int
 Z : List Int
 K : List (List Int)
mutual
def C1 : B8 -> Int -> PS -> PS
 | ⟨a, b, c, l⟩, parent, s =>
  let s2 := C8 l s.N.length ⟨s.N ++ [⟨a, b, c, l⟩], s.P ++ [parent], s.Z ++ [0], s.K ++ [[]]⟩
  {s2 with Z := s2.Z.set s.N.length ((s2.N.length : Int) - s.N.length) }
def C8 : List B8 -> Nat -> PS -> PS
 | [], _, s => s
 | k :: r, at_, s =>
  let s1 := C1 k at_ s
  C8 r at_ { s1 with K := s1.K.set at_ (s1.K.getD at_ [] ++ [(s.N.length : Int)]) }
end
mutual
def BT : B8 -> Nat
 | ⟨_, _, _, l⟩ => 1 + BE l
def BE : List B8 -> Nat
 | [] => 0
 | k :: r => BT k + BE r
end
end Go.Proofs.Q
