/- The texts of this claim that lie below its row, in their order: KPart KRd KRd1 KRd2 KEv Lx0 KPg KPgM KWr0 KWr KRd3 KRead KKn0 KKn KGiv Lx1 KLabL KArg. -/
import Derived.Test.YtnnnbeimehfiiaaDoorProg
import Derived.Below
import Derived.Deep.Draws
import Derived.Deep.AppendLies
import Derived.Maps.AppendAt
import Derived.OwnWalk
import Derived.Laws.BytesArg
import Derived.Laws.MakeOwn
import Derived.Laws.OwnMore
import Derived.Deep.OwnRows
import Derived.Tactics
import Derived.Lib.ConvBytes
import Derived.Laws.Slices
import Derived.WalkKit
import Derived.KernelRfl
import Derived.RowKit3
import Derived.Deep.LoopGhost
import Derived.Deep.QuietTactic
import Derived.BigQuiet
import Derived.WideLaws
import Derived.Deep.DeepCutAuto
import Derived.Deep.CutBlock
import Derived.Deep.RegionHeld3
import Derived.Laws.Rows
import Derived.Lib.AppendStr
import Derived.ArgAppend
import Derived.Laws.IdiomCopy
import Derived.OrdersHeld
import Derived.Laws.BitsLemmas
import Derived.RowKit
import Derived.Test.YtnnnbeimehfiiaaDoorWWords
import Derived.Test.YtnnnbeimehfiiaaDoorWLast
import Derived.Test.YtnnnbeimehfiiaaDoorWTab
import Derived.Test.YtnnnbeimehfiiaaDoorWFour
import Derived.Test.YtnnnbeimehfiiaaDoorWQPut
import Derived.Test.YtnnnbeimehfiiaaDoorWApart
import Derived.Test.YtnnnbeimehfiiaaDoorWArr
import Derived.Test.YtnnnbeimehfiiaaDoorWZeros
import Derived.Test.YtnnnbeimehfiiaaDoorWFoot
import Derived.Test.YtnnnbeimehfiiaaDoorWKept
import Derived.Test.YtnnnbeimehfiiaaDoorWShare
import Derived.Test.YtnnnbeimehfiiaaDoorWN
import Derived.Test.YtnnnbeimehfiiaaDoorWFootNe
import Derived.Test.YtnnnbeimehfiiaaDoorWAt
import Derived.Test.YtnnnbeimehfiiaaDoorWEqStruct
import Derived.Test.YtnnnbeimehfiiaaDoorWRepsOne
import Derived.Test.YtnnnbeimehfiiaaDoorWInv
import Derived.Test.YtnnnbeimehfiiaaDoorWInvWords
import Derived.Test.YtnnnbeimehfiiaaDoorWGuard
import Derived.Test.YtnnnbeimehfiiaaDoorWNEv
import Derived.Test.YtnnnbeimehfiiaaDoorWMore
import Derived.OpenShut
import Derived.ProofKit
import Derived.ChangeOld
import Derived.Test.YtnnnbeimehfiiaaDoorZL1
/-! A part of a text: its Lean form, how it is read. -/
set_option linter.unusedVariables false
set_option linter.unusedSimpArgs false
namespace Go.Proofs.YtnnnbeimehfiiaaDoor.Q
open Go Go.RowKit Go.Proofs.YtnnnbeimehfiiaaDoorW.PrintWords
structure Pt where
  region : Bool
  text : List Int
  s0 : List Int
  s1 : List Int
  s2 : List Int
deriving DecidableEq
def ptz : Pt := ⟨false, [], [], [], []⟩
abbrev kB : Kd (List Int) := Kd.slice 5 B8
def kP : Kd Pt := Kd.iso (Kd.pair Kd.bool (Kd.pair kB (Kd.pair kB (Kd.pair kB kB)))) (fun x : Pt => (x.region, x.text, x.s0, x.s1, x.s2))
theorem kP_heap : Kd.Heap kP := Kd.heap_iso _ (Kd.heap_pair Kd.heap_scalar (Kd.heap_pair (Kd.heap_slice 5 (Kd.heap_int .u8)) (Kd.heap_pair (Kd.heap_slice 5 (Kd.heap_int .u8)) (Kd.heap_pair (Kd.heap_slice 5 (Kd.heap_int .u8)) (Kd.heap_slice 5 (Kd.heap_int .u8))))))
theorem kP_open {w : World} {x : Pt} {cs : List Value} (h : kP.K w x cs) : ∃ A1 c1 A2 c2 A3 c3 A4 c4, cs = [.bool x.region, .slice A1 x.text.length c1, .slice A2 x.s0.length c2, .slice A3 x.s1.length c3, .slice A4 x.s2.length c4] ∧
    (x.text.length ≤ c1 ∧ Kd.C B8 w A1 x.text.length x.text) ∧ (x.s0.length ≤ c2 ∧ Kd.C B8 w A2 x.s0.length x.s0) ∧ (x.s1.length ≤ c3 ∧ Kd.C B8 w A3 x.s1.length x.s1) ∧ (x.s2.length ≤ c4 ∧ Kd.C B8 w A4 x.s2.length x.s2) := by
  obtain ⟨_, _, rfl, rfl, ⟨_, _, rfl, ⟨A1, c1, rfl, l1, g1⟩, ⟨_, _, rfl, ⟨A2, c2, rfl, l2, g2⟩, ⟨_, _, rfl, ⟨A3, c3, rfl, l3, g3⟩, ⟨A4, c4, rfl, l4, g4⟩⟩⟩⟩⟩ := h
  exact ⟨A1, c1, A2, c2, A3, c3, A4, c4, rfl, ⟨l1, g1⟩, ⟨l2, g2⟩, ⟨l3, g3⟩, ⟨l4, g4⟩⟩
theorem kP_mk (w : World) (x : Pt) {A1 A2 A3 A4 : Option Addr} {c1 c2 c3 c4 : Nat} (h1 : x.text.length ≤ c1 ∧ Kd.C B8 w A1 x.text.length x.text) (h2 : x.s0.length ≤ c2 ∧ Kd.C B8 w A2 x.s0.length x.s0) (h3 : x.s1.length ≤ c3 ∧ Kd.C B8 w A3 x.s1.length x.s1) (h4 : x.s2.length ≤ c4 ∧ Kd.C B8 w A4 x.s2.length x.s2) :
    kP.K w x [.bool x.region, .slice A1 x.text.length c1, .slice A2 x.s0.length c2, .slice A3 x.s1.length c3, .slice A4 x.s2.length c4] :=
  ⟨[.bool x.region], [_, _, _, _], rfl, rfl, [_], [_, _, _], rfl, ⟨A1, c1, rfl, h1.1, h1.2⟩, [_], [_, _], rfl, ⟨A2, c2, rfl, h2.1, h2.2⟩, [_], [_], rfl, ⟨A3, c3, rfl, h3.1, h3.2⟩, ⟨A4, c4, rfl, h4.1, h4.2⟩⟩
theorem kP_openF {W : World} {ok : Nat → Prop} {x : Pt} {cs : List Value} (h : Kd.FK kP W ok x cs) : ∃ A1 c1 A2 c2 A3 c3 A4 c4, cs = [.bool x.region, .slice A1 x.text.length c1, .slice A2 x.s0.length c2, .slice A3 x.s1.length c3, .slice A4 x.s2.length c4] ∧
    (x.text.length ≤ c1 ∧ Kd.F B8 W ok A1 x.text.length x.text) ∧ (x.s0.length ≤ c2 ∧ Kd.F B8 W ok A2 x.s0.length x.s0) ∧ (x.s1.length ≤ c3 ∧ Kd.F B8 W ok A3 x.s1.length x.s1) ∧ (x.s2.length ≤ c4 ∧ Kd.F B8 W ok A4 x.s2.length x.s2) := by
  obtain ⟨A1, c1, A2, c2, A3, c3, A4, c4, rfl, ⟨l1, _⟩, ⟨l2, _⟩, ⟨l3, _⟩, ⟨l4, _⟩⟩ := kP_open (Kd.FK_now h)
  refine ⟨A1, c1, A2, c2, A3, c3, A4, c4, rfl, ⟨l1, fun W' hW => ?_⟩, ⟨l2, fun W' hW => ?_⟩, ⟨l3, fun W' hW => ?_⟩, ⟨l4, fun W' hW => ?_⟩⟩ <;>
  · obtain ⟨B1, d1, B2, d2, B3, d3, B4, d4, he, ⟨_, g1⟩, ⟨_, g2⟩, ⟨_, g3⟩, ⟨_, g4⟩⟩ := kP_open (h W' hW)
    simp only [List.cons.injEq, Value.slice.injEq, and_true, true_and] at he
    first | (rw [he.1.1]; exact g1) | (rw [he.2.1.1]; exact g2) | (rw [he.2.2.1.1]; exact g3) | (rw [he.2.2.2.1]; exact g4)
theorem kP_mkF (W : World) (ok : Nat → Prop) (x : Pt) {A1 A2 A3 A4 : Option Addr} {c1 c2 c3 c4 : Nat} (h1 : x.text.length ≤ c1 ∧ Kd.F B8 W ok A1 x.text.length x.text) (h2 : x.s0.length ≤ c2 ∧ Kd.F B8 W ok A2 x.s0.length x.s0) (h3 : x.s1.length ≤ c3 ∧ Kd.F B8 W ok A3 x.s1.length x.s1) (h4 : x.s2.length ≤ c4 ∧ Kd.F B8 W ok A4 x.s2.length x.s2) :
    Kd.FK kP W ok x [.bool x.region, .slice A1 x.text.length c1, .slice A2 x.s0.length c2, .slice A3 x.s1.length c3, .slice A4 x.s2.length c4] := fun W' hW => kP_mk W' x ⟨h1.1, h1.2 W' hW⟩ ⟨h2.1, h2.2 W' hW⟩ ⟨h3.1, h3.2 W' hW⟩ ⟨h4.1, h4.2 W' hW⟩
theorem add_field (ad : Addr) (n k : Nat) (hk : 0 < k) : ad.add (n + k) = ⟨(ad.add n).block, (ad.add n).off + k, none⟩ := by
  by_cases h : n = 0
  · subst h; simp [Addr.add]; omega
  · simp [Addr.add, h]; omega
/-- The i-th part as it lies. -/
theorem at_Pt {w : World} {ok : Nat → Prop} {A : Option Addr} {n : Nat} {xs : List Pt} (h : Kd.F kP w ok A n xs) (i : Int) (h0 : 0 ≤ i) (h1 : i < n) : ∃ ad x A1 c1 A2 c2 A3 c3 A4 c4, A = some ad ∧ xs[i.toNat]? = some x ∧ ok ad.block ∧
    w.cell? (ad.add (i.toNat * 5)) = some (.bool x.region) ∧ w.cell? ⟨(ad.add (i.toNat * 5)).block, (ad.add (i.toNat * 5)).off + 1, none⟩ = some (.slice A1 x.text.length c1) ∧ w.cell? ⟨(ad.add (i.toNat * 5)).block, (ad.add (i.toNat * 5)).off + 2, none⟩ = some (.slice A2 x.s0.length c2) ∧
    w.cell? ⟨(ad.add (i.toNat * 5)).block, (ad.add (i.toNat * 5)).off + 3, none⟩ = some (.slice A3 x.s1.length c3) ∧ w.cell? ⟨(ad.add (i.toNat * 5)).block, (ad.add (i.toNat * 5)).off + 4, none⟩ = some (.slice A4 x.s2.length c4) ∧
    (x.text.length ≤ c1 ∧ Kd.F B8 w ok A1 x.text.length x.text) ∧ (x.s0.length ≤ c2 ∧ Kd.F B8 w ok A2 x.s0.length x.s0) ∧ (x.s1.length ≤ c3 ∧ Kd.F B8 w ok A3 x.s1.length x.s1) ∧ (x.s2.length ≤ c4 ∧ Kd.F B8 w ok A4 x.s2.length x.s2) := by
  obtain ⟨ad, cs, rfl, hcl, hFK, hcc, hok⟩ := Kd.F_get h ptz i h0 h1
  have hl := Kd.F_len h
  have hx : xs[i.toNat]? = some (xs.getD i.toNat ptz) := by
    rw [List.getD_eq_getElem?_getD, List.getElem?_eq_getElem (by omega)]; rfl
  obtain ⟨A1, c1, A2, c2, A3, c3, A4, c4, rfl, g1, g2, g3, g4⟩ := kP_openF hFK
  refine ⟨ad, _, A1, c1, A2, c2, A3, c3, A4, c4, rfl, hx, hok (by decide), hcc 0 _ rfl, ?_, ?_, ?_, ?_, g1, g2, g3, g4⟩
  · rw [← add_field _ _ 1 (by omega)]; exact hcc 1 _ rfl
  · rw [← add_field _ _ 2 (by omega)]; exact hcc 2 _ rfl
  · rw [← add_field _ _ 3 (by omega)]; exact hcc 3 _ rfl
  · rw [← add_field _ _ 4 (by omega)]; exact hcc 4 _ rfl
end Go.Proofs.YtnnnbeimehfiiaaDoor.Q

/-! mark.Read in plain Lean; the parts while they are made, as they lie: the last one's rows may be written, the others' are kept. -/
set_option linter.unusedVariables false
set_option linter.unusedSimpArgs false
namespace Go.Proofs.YtnnnbeimehfiiaaDoor.Q
open Go Go.RowKit Go.Proofs.YtnnnbeimehfiiaaDoorW.PrintWords Go.Proofs.YtnnnbeimehfiiaaDoorW.SL
def addText (p : Pt) (x : List Int) : Pt := { p with text := p.text ++ x }
def addSide (p : Pt) : Nat → List Int → Pt
  | 0, x => { p with s0 := p.s0 ++ x }
  | 1, x => { p with s1 := p.s1 ++ x }
  | _, x => { p with s2 := p.s2 ++ x }
def onLast (f : Pt → Pt) : List Pt → List Pt
  | [] => []
  | [p] => [f p]
  | p :: r => p :: onLast f r
/-- One line: the parts and the state behind it; none: the text has no parts. -/
def rdStep (n : Nat) (s : List Pt × Nat) (x : List Int) : Option (List Pt × Nat) :=
  if mkOf n x = 0 then
    if s.2 = 0 then
      match s.1.getLast? with
      | some p => if p.region then some (s.1 ++ [⟨false, x, [], [], []⟩], 0) else some (onLast (addText · x) s.1, 0)
      | none => some ([⟨false, x, [], [], []⟩], 0)
    else some (onLast (addSide · (s.2 - 1) x) s.1, s.2)
  else if mkOf n x = 60 ∧ s.2 = 0 then some (s.1 ++ [⟨true, [], [], [], []⟩], 1)
  else if mkOf n x = 124 ∧ s.2 = 1 ∨ mkOf n x = 61 ∧ s.2 = 2 then some (s.1, s.2 + 1)
  else if mkOf n x = 62 ∧ s.2 = 3 then some (s.1, 0)
  else none
def rdAll (n : Nat) : List (List Int) → List Pt × Nat → Option (List Pt × Nat)
  | [], s => some s
  | x :: r, s => (rdStep n s x).bind (rdAll n r)
def readOf (n : Int) (b : List Int) : List Pt × Int :=
  if n ≥ 1 ∧ n ≤ 16777216 then
    match rdAll n.toNat (linesOf b) ([], 0) with
    | some (ps, st) => if st = 0 then (ps, 0) else ([], 5)
    | none => ([], 5)
  else ([], 1)
theorem onLast_snoc (f : Pt → Pt) : ∀ (fr : List Pt) (p : Pt), onLast f (fr ++ [p]) = fr ++ [f p]
  | [], p => rfl
  | [q], p => rfl
  | q :: r :: fr, p => by
    have ih := onLast_snoc f (r :: fr) p
    simp only [List.cons_append, onLast] at ih ⊢
    rw [ih]
abbrev us8 (xs : List Int) : List Value := xs.map (Value.int .u8)
/-- Parts that are kept, their cells told. -/
def kpF (ps : List Pt) (cells : List Value) : FA :=
  ⟨fun w Z => cells.length = ps.length * 5 ∧ ∀ (j : Nat) (p : Pt), ps[j]? = some p → Kd.FK kP w Z p ((cells.drop (j * 5)).take 5),
   fun h hs hZ => ⟨h.1, fun j p hp => Kd.FK_mono (Kd.FK_step (h.2 j p hp) (fun k hk hl => hs k hk hl)) hZ⟩⟩
section
variable {w0 w w' w1 : World} {Z : Nat → Prop} {l : List Asr} {F : List FA}
/-- The row at the head is kept from now on. -/
theorem Stt.freezeHead {v : Value} {e size n : Nat} {xs : List Value} (S : Stt w0 Z (row v e size n xs :: l) F w) : Stt w0 (fun k => Z k ∨ v.ownBlock = some k) l (ownF v e size n xs :: F) w := by
  obtain ⟨f, ⟨f1, f2, he, hd, ha, hr⟩, hk⟩ := S.st.hs
  refine ⟨⟨S.st.below, fun k hk => ?_, f2, hr, fun k h2 => ⟨(hk k ((he k).2 (.inr h2))).1, fun hz => ?_⟩⟩, fun a hm => ?_, fun k hk => .inl (S.old k hk)⟩
  · rcases hk with hk | hk
    · exact S.st.zlt k hk
    · exact own_lt ha.2 k hk
  · rcases hz with hz | hz
    · exact (hk k ((he k).2 (.inr h2))).2 hz
    · exact hd k ((ha.1 k).2 hz) h2
  · rcases List.mem_cons.1 hm with rfl | hm
    · exact ⟨fun k hk => .inr hk, ha.2⟩
    · exact a.step (S.fr a hm) (fun _ _ _ => rfl) (fun k hk => .inl hk)
theorem ownF_F {v : Value} {xs : List Int} (h : (ownF v 5 1 xs.length (us8 xs)).P w Z) : ∃ A c, v = .slice A xs.length c ∧ xs.length ≤ c ∧ Kd.F B8 w Z A xs.length xs := by
  obtain ⟨hz, ho⟩ := h
  have hR : Kd.R B8 5 w 0 Z v xs := Kd.R_of_own (by simpa [encs] using ho) hz
  obtain ⟨A, c, rfl, hle, _⟩ := Kd.R_reads hR
  exact ⟨A, c, rfl, hle, Kd.R_F hR⟩
end
/-- The parts so far, as they lie. -/
def RdI (w0 : World) (F0 : List FA) (ps : List Pt) (vo : Value) (W : World) : Prop :=
  ∃ (Z : Nat → Prop) (cells : List Value) (vT v0 v1 v2 : Value) (T S0 S1 S2 : List Int) (fr : List Pt) (fc : List Value),
    Stt w0 Z [row vT 5 1 T.length (us8 T), row v0 5 1 S0.length (us8 S0), row v1 5 1 S1.length (us8 S1), row v2 5 1 S2.length (us8 S2), row vo 50 5 ps.length cells] (kpF fr fc :: F0) W ∧
    ((ps = [] ∧ cells = [] ∧ fr = [] ∧ fc = [] ∧ T = [] ∧ S0 = [] ∧ S1 = [] ∧ S2 = []) ∨ ∃ rg, ps = fr ++ [⟨rg, T, S0, S1, S2⟩] ∧ cells = fc ++ [.bool rg, vT, v0, v1, v2])
theorem RdI.start {w0 w : World} {F0 : List FA} {Z : Nat → Prop} (S : Stt w0 Z [] F0 w) : RdI w0 F0 [] (.slice none 0 0) w := by
  refine ⟨Z, [], _, _, _, _, [], [], [], [], [], [], (?_ : Stt w0 Z [row (.slice none 0 0) 5 1 0 [], row (.slice none 0 0) 5 1 0 [], row (.slice none 0 0) 5 1 0 [], row (.slice none 0 0) 5 1 0 [], row (.slice none 0 0) 50 5 0 []] _ w), .inl ⟨rfl, rfl, rfl, rfl, rfl, rfl, rfl, rfl⟩⟩
  have S2 := S.with (((((S.st.row_nil 50 5).row_nil 5 1).row_nil 5 1).row_nil 5 1).row_nil 5 1)
  exact S2.add ⟨rfl, fun j p h => by simp at h⟩
theorem RdI.below {w0 w : World} {F0 : List FA} {ps : List Pt} {vo : Value} (h : RdI w0 F0 ps vo w) : Below w0.heap.size w0 w := by
  obtain ⟨Z, cells, vT, v0, v1, v2, T, S0, S1, S2, fr, fc, S, _⟩ := h
  exact S.below
theorem RdI.fr {w0 w : World} {F0 : List FA} {ps : List Pt} {vo : Value} (h : RdI w0 F0 ps vo w) : ∃ Z : Nat → Prop, ∀ a ∈ F0, a.P w Z := by
  obtain ⟨Z, cells, vT, v0, v1, v2, T, S0, S1, S2, fr, fc, S, _⟩ := h
  exact ⟨Z, fun a ha => S.fr a (List.mem_cons_of_mem _ ha)⟩
/-- A step that makes new blocks alone. -/
theorem RdI.keep {w0 w w' : World} {F0 : List FA} {ps : List Pt} {vo : Value} (h : RdI w0 F0 ps vo w) (hb : Below w.heap.size w w') : RdI w0 F0 ps vo w' := by
  obtain ⟨Z, cells, vT, v0, v1, v2, T, S0, S1, S2, fr, fc, S, hc⟩ := h
  exact ⟨Z, cells, vT, v0, v1, v2, T, S0, S1, S2, fr, fc, S.keep hb, hc⟩
theorem four {a b c d e : Asr} : [a, b, c, d, e].Perm [e, a, b, c, d] := by
  have h : ([a, b, c, d] ++ [e]).Perm ([e] ++ [a, b, c, d]) := List.perm_append_comm
  exact h
/-- All that was made is kept: the parts, read. -/
theorem RdI.freeze {w0 w : World} {F0 : List FA} {ps : List Pt} {vo : Value} (h : RdI w0 F0 ps vo w) : ∃ (Z : Nat → Prop) (cells : List Value), Stt w0 Z [row vo 50 5 ps.length cells] (kpF ps cells :: F0) w := by
  obtain ⟨Z, cells, vT, v0, v1, v2, T, S0, S1, S2, fr, fc, S, hc⟩ := h
  have S4 := Stt.freezeHead (Stt.freezeHead (Stt.freezeHead (Stt.freezeHead S)))
  refine ⟨_, cells, S4.st, fun a ha => ?_, S4.old⟩
  rcases List.mem_cons.1 ha with rfl | ha
  · rcases hc with ⟨rfl, rfl, _⟩ | ⟨rg, rfl, rfl⟩
    · exact ⟨rfl, fun j p hp => by simp at hp⟩
    · have hk := S4.fr (kpF fr fc) (by simp)
      obtain ⟨A4, c4, rfl, l4, f4⟩ := ownF_F (S4.fr (ownF v2 5 1 S2.length (us8 S2)) (by simp))
      obtain ⟨A3, c3, rfl, l3, f3⟩ := ownF_F (S4.fr (ownF v1 5 1 S1.length (us8 S1)) (by simp))
      obtain ⟨A2, c2, rfl, l2, f2⟩ := ownF_F (S4.fr (ownF v0 5 1 S0.length (us8 S0)) (by simp))
      obtain ⟨A1, c1, rfl, l1, f1⟩ := ownF_F (S4.fr (ownF vT 5 1 T.length (us8 T)) (by simp))
      refine ⟨by simp [hk.1, Nat.add_mul], fun j p hp => ?_⟩
      by_cases hj : j < fr.length
      · rw [List.getElem?_append_left hj] at hp
        have h2 := hk.2 j p hp
        have hle : j * 5 + 5 ≤ fc.length := by have := hk.1; omega
        rw [List.drop_append_of_le_length (by omega), List.take_append_of_le_length (by rw [List.length_drop]; omega)]
        exact h2
      · have hj2 : j = fr.length := by
          have := (List.getElem?_eq_some_iff.1 hp).1
          simp at this; omega
        subst hj2
        simp only [List.getElem?_append_right (Nat.le_refl _), Nat.sub_self, List.getElem?_cons_zero, Option.some.injEq] at hp
        subst hp
        rw [← hk.1, List.drop_left]
        exact kP_mkF w _ ⟨rg, T, S0, S1, S2⟩ ⟨l1, f1⟩ ⟨l2, f2⟩ ⟨l3, f3⟩ ⟨l4, f4⟩
  · exact S4.fr a (by simp [ha])
end Go.Proofs.YtnnnbeimehfiiaaDoor.Q

/-! mark.Read: a part more; a line laid behind a part's row; the end. -/
set_option linter.unusedVariables false
set_option linter.unusedSimpArgs false
namespace Go.Proofs.YtnnnbeimehfiiaaDoor.Q
open Go Go.RowKit Go.Proofs.YtnnnbeimehfiiaaDoorW.PrintWords Go.Proofs.YtnnnbeimehfiiaaDoorW.SL
def fld (p : Pt) : Nat → List Int
  | 0 => p.text
  | 1 => p.s0
  | 2 => p.s1
  | _ => p.s2
def addF (p : Pt) (x : List Int) : Nat → Pt
  | 0 => { p with text := p.text ++ x }
  | 1 => { p with s0 := p.s0 ++ x }
  | 2 => { p with s1 := p.s1 ++ x }
  | _ => { p with s2 := p.s2 ++ x }
theorem own_setN {w : World} {v : Value} {e size n k : Nat} {xs : List Value} (h : w.ownsRow 0 e size v n xs) (hk : k < n * size) (u : Value) : ∃ g cap, v = .slice (some ⟨g, 0, none⟩) n cap ∧ (w.setCell ⟨g, k, none⟩ u).ownsRow 0 e size v n (xs.set k u) ∧ w.grownBy (w.setCell ⟨g, k, none⟩ u) v.ownBlock ∧ (∀ (j : Nat) (t : Value), xs[j]? = some t → w.cell? ⟨g, j, none⟩ = some t) ∧ ∀ j, w.frozen? ⟨g, j, none⟩ = false := by
  obtain ⟨h1, h2⟩ := h
  rcases h2 with ⟨rfl, rfl⟩ | ⟨g, cap, cur, rfl, _, hg, hnc, hcm, hcs, ht⟩
  · omega
  · have hle : n * size ≤ cap * size := Nat.mul_le_mul_right _ hnc
    refine ⟨g, cap, rfl, ⟨by simpa using h1, .inr ⟨g, cap, cur.setIfInBounds k u, rfl, Nat.zero_le _, blk_set hg k u, hnc, hcm, by simpa using hcs, ?_⟩⟩, ⟨rfl, rfl, rfl, by simp [World.setCell], fun q _ hq => Below.heap_setCell w ⟨g, k, none⟩ u q (fun e => hq (by simp [Value.ownBlock, e]))⟩, fun j t hj => ?_, fun j => blk_frozen hg j⟩
    · rw [← ht]
      simp [List.take_set]
    · have hjx : j < n * size := by have := (List.getElem?_eq_some_iff.1 hj).1; omega
      refine (blk_cell hg j).trans ?_
      rw [← ht, List.getElem?_take] at hj
      rw [if_pos hjx] at hj
      simpa using hj
theorem RdI.push {w0 w : World} {F0 : List FA} {ps : List Pt} {vo : Value} (h : RdI w0 F0 ps vo w) (rg : Bool) : ∃ cells, w.ownsRow 0 50 5 vo ps.length cells ∧ ∀ (W' w1 : World) (v1 : Value), Below w.heap.size w W' → w1.ownsRow 0 50 5 v1 (ps.length + 1) (cells ++ [.bool rg, .slice none 0 0, .slice none 0 0, .slice none 0 0, .slice none 0 0]) → W'.grownBy w1 vo.ownBlock → (v1.ownBlock = vo.ownBlock ∨ v1.ownBlock = some W'.heap.size) →
    RdI w0 F0 (ps ++ [⟨rg, [], [], [], []⟩]) v1 w1 := by
  obtain ⟨Z, cells, S⟩ := h.freeze
  refine ⟨cells, S.rowAt 0 rfl, fun W' w1 v1 hb ho hg hat => ?_⟩
  have S1 := (S.keep hb).updRow 0 rfl ho hg (hat.imp id (fun h => ⟨_, h, Nat.le_refl _⟩))
  have S2 := S1.with ((((S1.st.row_nil 5 1).row_nil 5 1).row_nil 5 1).row_nil 5 1)
  exact ⟨Z, _, _, _, _, _, [], [], [], [], ps, cells, by simpa using S2, .inr ⟨rg, rfl, rfl⟩⟩
theorem RdI.app {w0 w : World} {F0 : List FA} {ps : List Pt} {vo : Value} (h : RdI w0 F0 ps vo w) {fr0 : List Pt} {p : Pt} (hps : ps = fr0 ++ [p]) (k : Nat) (hk : k < 4) (x : List Int) :
    ∃ g cap v, vo = .slice (some ⟨g, 0, none⟩) ps.length cap ∧ w.cell? ⟨g, fr0.length * 5, none⟩ = some (.bool p.region) ∧ w.cell? ⟨g, fr0.length * 5 + (k + 1), none⟩ = some v ∧ w.ownsRow 0 5 1 v (fld p k).length (us8 (fld p k)) ∧
      ∀ (w1 : World) (v1 : Value), w1.ownsRow 0 5 1 v1 ((fld p k).length + x.length) (us8 (fld p k) ++ us8 x) → w.grownBy w1 v.ownBlock → (v1.ownBlock = v.ownBlock ∨ v1.ownBlock = some w.heap.size) →
        w1.cell? ⟨g, fr0.length * 5 + (k + 1), none⟩ = some v ∧ w1.frozen? ⟨g, fr0.length * 5 + (k + 1), none⟩ = false ∧ RdI w0 F0 (fr0 ++ [addF p x k]) vo (w1.setCell ⟨g, fr0.length * 5 + (k + 1), none⟩ v1) := by
  obtain ⟨Z, cells, vT, v0, v1, v2, T, S0, S1, S2, fr, fc, S, hc⟩ := h
  rcases hc with ⟨rfl, _⟩ | ⟨rg, hps2, hcells⟩
  · exact absurd hps (by simp)
  · have hfp : fr = fr0 ∧ [(⟨rg, T, S0, S1, S2⟩ : Pt)] = [p] := by
      rw [hps] at hps2
      have h2 := List.append_inj' hps2 rfl
      exact ⟨h2.1.symm, h2.2.symm⟩
    obtain ⟨rfl, hpp⟩ := hfp
    obtain rfl : p = ⟨rg, T, S0, S1, S2⟩ := (List.singleton_inj.1 hpp).symm
    have hfc : fc.length = fr.length * 5 := (S.fr (kpF fr fc) (by simp)).1
    have hn : ps.length = fr.length + 1 := by rw [hps]; simp
    have hrow := S.rowAt 4 rfl
    obtain ⟨g, cap, hvo, _, _, hcl, _⟩ := own_setN hrow (k := fr.length * 5 + (k + 1)) (by rw [hn]; omega) undef
    have hat : ∀ j u, [Value.bool rg, vT, v0, v1, v2][j]? = some u → cells[fr.length * 5 + j]? = some u := fun j u hj => by
      rw [hcells, List.getElem?_append_right (by omega), hfc]
      have : fr.length * 5 + j - fr.length * 5 = j := by omega
      rw [this]; exact hj
    have key : ∀ (v : Value) (xs : List Int) (v' : Value) (w1 : World) (l' : List Asr), [Value.bool rg, vT, v0, v1, v2][k + 1]? = some v →
        Stt w0 Z l' (kpF fr fc :: F0) w1 → l'[4]? = some (row vo 50 5 ps.length cells) → w1.cell? ⟨g, fr.length * 5 + (k + 1), none⟩ = some v ∧ w1.frozen? ⟨g, fr.length * 5 + (k + 1), none⟩ = false ∧
        Stt w0 Z (l'.set 4 (row vo 50 5 ps.length (fc ++ ([Value.bool rg, vT, v0, v1, v2].set (k + 1) v')))) (kpF fr fc :: F0) (w1.setCell ⟨g, fr.length * 5 + (k + 1), none⟩ v') := by
      intro v xs v' w1 l' hv S' hl'
      obtain ⟨g', cap', hvo', ho', hg', hcl', hfz'⟩ := own_setN (S'.rowAt 4 hl') (k := fr.length * 5 + (k + 1)) (by rw [hn]; omega) v'
      have hgg : g' = g := by rw [hvo] at hvo'; injection hvo' with h1; injection h1 with h1; injection h1 with h1; exact h1.symm
      subst hgg
      refine ⟨hcl' _ _ (hat _ _ hv), hfz' _, ?_⟩
      have hs : cells.set (fr.length * 5 + (k + 1)) v' = fc ++ ([Value.bool rg, vT, v0, v1, v2].set (k + 1) v') := by
        rw [hcells, ← hfc, List.set_append_right _ _ (by omega)]
        congr 2; omega
      rw [hs] at ho'
      exact S'.updRow 4 hl' ho' hg' (.inl rfl)
    refine ⟨g, cap, [Value.bool rg, vT, v0, v1, v2].getD (k + 1) undef, hvo, hcl _ _ (hat 0 _ rfl), ?_, ?_, ?_⟩
    · rcases k with _ | _ | _ | _ | k <;> first | exact hcl _ _ (hat _ _ rfl) | omega
    · rcases k with _ | _ | _ | _ | k <;> first | exact S.rowAt 0 rfl | exact S.rowAt 1 rfl | exact S.rowAt 2 rfl | exact S.rowAt 3 rfl | omega
    · intro w1 v' ho hg hat'
      replace hat' := hat'.imp id (fun h => (⟨_, h, Nat.le_refl _⟩ : ∃ b, v'.ownBlock = some b ∧ w.heap.size ≤ b))
      have hps3 : (fr ++ [(⟨rg, T, S0, S1, S2⟩ : Pt)]).length = ps.length := by rw [hps]
      rcases k with _ | _ | _ | _ | k
      · obtain ⟨h1, h2, h3⟩ := key vT T v' w1 _ rfl (S.updRow 0 rfl ho hg hat') rfl
        refine ⟨h1, h2, Z, _, v', v0, v1, v2, T ++ x, S0, S1, S2, fr, fc, ?_, .inr ⟨rg, rfl, rfl⟩⟩
        have e : (fr ++ [addF ⟨rg, T, S0, S1, S2⟩ x 0]).length = ps.length := by rw [hps]; simp
        rw [e, show (T ++ x).length = T.length + x.length from List.length_append, show us8 (T ++ x) = us8 T ++ us8 x from List.map_append]; exact h3
      · obtain ⟨h1, h2, h3⟩ := key v0 S0 v' w1 _ rfl (S.updRow 1 rfl ho hg hat') rfl
        refine ⟨h1, h2, Z, _, vT, v', v1, v2, T, S0 ++ x, S1, S2, fr, fc, ?_, .inr ⟨rg, rfl, rfl⟩⟩
        have e : (fr ++ [addF ⟨rg, T, S0, S1, S2⟩ x 1]).length = ps.length := by rw [hps]; simp
        rw [e, show (S0 ++ x).length = S0.length + x.length from List.length_append, show us8 (S0 ++ x) = us8 S0 ++ us8 x from List.map_append]; exact h3
      · obtain ⟨h1, h2, h3⟩ := key v1 S1 v' w1 _ rfl (S.updRow 2 rfl ho hg hat') rfl
        refine ⟨h1, h2, Z, _, vT, v0, v', v2, T, S0, S1 ++ x, S2, fr, fc, ?_, .inr ⟨rg, rfl, rfl⟩⟩
        have e : (fr ++ [addF ⟨rg, T, S0, S1, S2⟩ x 2]).length = ps.length := by rw [hps]; simp
        rw [e, show (S1 ++ x).length = S1.length + x.length from List.length_append, show us8 (S1 ++ x) = us8 S1 ++ us8 x from List.map_append]; exact h3
      · obtain ⟨h1, h2, h3⟩ := key v2 S2 v' w1 _ rfl (S.updRow 3 rfl ho hg hat') rfl
        refine ⟨h1, h2, Z, _, vT, v0, v1, v', T, S0, S1, S2 ++ x, fr, fc, ?_, .inr ⟨rg, rfl, rfl⟩⟩
        have e : (fr ++ [addF ⟨rg, T, S0, S1, S2⟩ x 3]).length = ps.length := by rw [hps]; simp
        rw [e, show (S2 ++ x).length = S2.length + x.length from List.length_append, show us8 (S2 ++ x) = us8 S2 ++ us8 x from List.map_append]; exact h3
      · omega
/-- The end: the parts, read. -/
theorem RdI.out {w0 w : World} {F0 : List FA} {ps : List Pt} {vo : Value} (h : RdI w0 F0 ps vo w) : ∃ (A : Option Addr) (c : Nat), vo = .slice A ps.length c ∧ ps.length ≤ c ∧ Kd.C kP w A ps.length ps := by
  obtain ⟨Z, cells, S⟩ := h.freeze
  have hk := S.fr (kpF ps cells) (by simp)
  have ho := S.rowAt 0 rfl
  rcases ho.2 with ⟨h1, h2⟩ | ⟨g, cap, cur, h1, _, hg, hnc, hcm, hcs, ht⟩
  · refine ⟨none, 0, by rw [h1, h2], by omega, rfl, by omega, fun hp => by omega⟩
  · refine ⟨_, cap, h1, hnc, rfl, by simp only [maxLen] at hcm; omega, fun hp => ?_⟩
    refine ⟨_, rfl, fun j p hj => ⟨(cells.drop (j * 5)).take 5, ?_, Kd.FK_now (hk.2 j p hj), fun i u hi => ?_⟩⟩
    · have hjl := (List.getElem?_eq_some_iff.1 hj).1
      have := hk.1
      rw [List.length_take, List.length_drop]
      show min 5 _ = 5
      omega
    · rw [List.getElem?_take] at hi
      split at hi
      · rw [List.getElem?_drop] at hi
        exact ho.cells (g := g) (by rw [h1]; rfl) _ _ hi
      · cases hi
end Go.Proofs.YtnnnbeimehfiiaaDoor.Q

/-! mark.Read: small laws for the walk. -/
set_option linter.unusedVariables false
set_option linter.unusedSimpArgs false
namespace Go.Proofs.YtnnnbeimehfiiaaDoor.Q
open Go Go.RowKit Go.Proofs.YtnnnbeimehfiiaaDoorW.PrintWords Go.Proofs.YtnnnbeimehfiiaaDoorW.SL
theorem rdAll_app (n : Nat) : ∀ (a b : List (List Int)) (s : List Pt × Nat), rdAll n (a ++ b) s = (rdAll n a s).bind (rdAll n b)
  | [], b, s => rfl
  | x :: r, b, s => by
    simp only [List.cons_append, rdAll]
    cases h : rdStep n s x with
    | none => rfl
    | some t => exact rdAll_app n r b t
theorem rdAll_next {n : Nat} {l : List (List Int)} {i : Nat} {x : List Int} {s s0 : List Pt × Nat} (h : rdAll n (l.take i) s0 = some s) (hx : l[i]? = some x) : rdAll n (l.take (i + 1)) s0 = rdStep n s x := by
  have hlt := (List.getElem?_eq_some_iff.1 hx).1
  rw [List.take_add_one, hx, rdAll_app, h]
  show (rdAll n [x]) s = _
  simp only [rdAll]
  cases rdStep n s x <;> rfl
theorem rdAll_none {n : Nat} {l : List (List Int)} {i : Nat} {s0 : List Pt × Nat} (h : rdAll n (l.take i) s0 = none) : rdAll n l s0 = none := by
  rw [← List.take_append_drop i l, rdAll_app, h]; rfl
theorem linesOf_ne : ∀ (l y : List Int), y ∈ linesOf l → y ≠ []
  | [], y, h => by simp [linesOf] at h
  | x :: r, y, h => by
    have ih := linesOf_ne r
    unfold linesOf at h
    split at h
    · rcases List.mem_cons.1 h with rfl | h
      · simp
      · exact ih y h
    · split at h <;> rename_i hr
      · rw [List.mem_singleton] at h; subst h; simp
      · rcases List.mem_cons.1 h with rfl | h
        · simp
        · exact ih y (by rw [hr]; exact List.mem_cons_of_mem _ h)
theorem linesOf_all (P : Int → Prop) : ∀ (l y : List Int), (∀ x ∈ l, P x) → y ∈ linesOf l → ∀ x ∈ y, P x
  | [], y, _, h => by simp [linesOf] at h
  | z :: r, y, hP, h => by
    have hz := hP z List.mem_cons_self
    have ih := fun y => linesOf_all P r y (fun x hx => hP x (List.mem_cons_of_mem _ hx))
    unfold linesOf at h
    split at h <;> rename_i hzz
    · rcases List.mem_cons.1 h with rfl | h
      · intro x hx; rw [List.mem_singleton] at hx; subst hx; rw [← hzz]; exact hz
      · exact ih y h
    · split at h <;> rename_i hr
      · rw [List.mem_singleton] at h; subst h; intro x hx; rw [List.mem_singleton] at hx; subst hx; exact hz
      · rcases List.mem_cons.1 h with rfl | h
        · intro x hx
          rcases List.mem_cons.1 hx with rfl | hx
          · exact hz
          · exact ih _ (by rw [hr]; exact List.mem_cons_self) x hx
        · exact ih y (by rw [hr]; exact List.mem_cons_of_mem _ h)
theorem mkOf_cases {n : Nat} (hn : 1 ≤ n) (l : List Int) : mkOf n l = 0 ∨ mkOf n l = 60 ∨ mkOf n l = 124 ∨ mkOf n l = 61 ∨ mkOf n l = 62 := by
  unfold mkOf
  split
  · rename_i h1
    have := (sgn_ch (l := l) (by omega)).1
    simp only [sgCh, Bool.or_eq_true, beq_iff_eq] at this
    omega
  · exact .inl rfl
theorem base_add (g m : Nat) : (⟨g, 0, none⟩ : Addr).add m = ⟨g, m, none⟩ := by
  unfold Addr.add
  split
  · rename_i h; subst h; rfl
  · simp
/-- RdI.app with the row's address as a letter. -/
theorem RdI.app' {w0 w : World} {F0 : List FA} {ps : List Pt} {vo : Value} (h : RdI w0 F0 ps vo w) {fr0 : List Pt} {p : Pt} (hps : ps = fr0 ++ [p]) (k : Nat) (hk : k < 4) (x : List Int) :
    ∃ (ad : Addr) (cap : Nat) (v : Value), vo = .slice (some ad) ps.length cap ∧ w.cell? (ad.add (fr0.length * 5)) = some (.bool p.region) ∧ w.cell? ⟨(ad.add (fr0.length * 5)).block, (ad.add (fr0.length * 5)).off + (k + 1), none⟩ = some v ∧ w.ownsRow 0 5 1 v (fld p k).length (us8 (fld p k)) ∧
      ∀ (w1 : World) (v1 : Value), w1.ownsRow 0 5 1 v1 ((fld p k).length + x.length) (us8 (fld p k) ++ us8 x) → w.grownBy w1 v.ownBlock → (v1.ownBlock = v.ownBlock ∨ v1.ownBlock = some w.heap.size) →
        w1.cell? ⟨(ad.add (fr0.length * 5)).block, (ad.add (fr0.length * 5)).off + (k + 1), none⟩ = some v ∧ w1.frozen? ⟨(ad.add (fr0.length * 5)).block, (ad.add (fr0.length * 5)).off + (k + 1), none⟩ = false ∧ RdI w0 F0 (fr0 ++ [addF p x k]) vo (w1.setCell ⟨(ad.add (fr0.length * 5)).block, (ad.add (fr0.length * 5)).off + (k + 1), none⟩ v1) := by
  obtain ⟨g, cap, v, h1, h2, h3, h4, h5⟩ := h.app hps k hk x
  refine ⟨⟨g, 0, none⟩, cap, v, h1, ?_, ?_, h4, ?_⟩
  · rw [base_add]; exact h2
  · rw [base_add]; exact h3
  · rw [base_add]; exact h5
/-- append(s, x...): x a row that is read. -/
theorem app_spread {P : Program} {ops : Array Oper} {o : Oper} {rest : List Oper} {a : Act} {Q : Exit → Act → World → Prop} {W : World} (hgd : o.guard = none) (s x : Operand)
    (ho : o.op = .call { callee := .builtin .append, args := #[s, x], argTypes := #[22, 22] })
    (ht : P.underlying 22 = some (.slice 5)) (hinfo : (P.info? 5).map (fun i => (i.zero, i.size, i.bytes)) = some (some (.int .u8 0), 1, 1))
    (v : Value) (n : Nat) (xs : List Value) (ys : List Int) (ad : Addr) (c : Nat) (hs : a.eval s = v) (hx : a.eval x = .slice (some ad) ys.length c)
    (HO : W.ownsRow 0 5 1 v n xs) (HX : Kd.C B8 W (some ad) ys.length ys) (hl : n + ys.length ≤ 140737488355328)
    (h : ∀ v1 w1, w1.ownsRow 0 5 1 v1 (n + ys.length) (xs ++ us8 ys) → W.grownBy w1 v.ownBlock → (v1.ownBlock = v.ownBlock ∨ v1.ownBlock = some W.heap.size) → wpList P ops Q rest (a.put o.dst v1) w1) : wpList P ops Q (o :: rest) a W := by
  obtain ⟨i0, hi, hzz⟩ := Option.map_eq_some_iff.1 hinfo
  simp only [Prod.mk.injEq] at hzz
  obtain ⟨hz0, hz1, hz2⟩ := hzz
  refine wpList_append_own_at W hgd s x 22 ho 0 5 i0 (.int .u8 0) 1 1 ht hi hz0 hz1 hz2 rfl (by decide) v n xs hs HO ad ys.length c (us8 ys) hx (by simp) (fun j u hj => ?_) (fun u hu => ?_) (by simp only [maxLen]; omega) (by omega) (Nat.zero_le _) (fun v' w' h1 h2 _ h4 => h v' w' h1 h2 h4)
  · have hjl : j < ys.length := by have := (List.getElem?_eq_some_iff.1 hj).1; simpa using this
    obtain ⟨ad', he, hc⟩ := Kd.at_int HX (j : Int) (by omega) (by omega)
    injection he with he
    subst he
    simp only [Int.toNat_natCast] at hc
    rw [hc, ← hj, rd_get hjl]
    simp [us8, List.getElem?_eq_getElem hjl]
  · obtain ⟨q, _, rfl⟩ := List.mem_map.1 hu; rfl
end Go.Proofs.YtnnnbeimehfiiaaDoor.Q

/-! The reference's Split, both Lengths, the reference's Labelled: what they answer. -/
set_option linter.unusedVariables false
set_option linter.unusedSimpArgs false
namespace Go.Proofs.YtnnnbeimehfiiaaDoor.Q
open Go Go.RowKit Go.Proofs.YtnnnbeimehfiiaaDoorW.PrintWords Go.Proofs.YtnnnbeimehfiiaaDoorW.PrintLast Go.Proofs.YtnnnbeimehfiiaaDoorW.PrintMore
/-- From some fuel on, it answers v. -/
def Ev {α : Type} (g : Nat → Option α) (v : α) : Prop := ∃ n, ∀ k, n ≤ k → g k = some v
theorem Ev.pure {α : Type} (v : α) : Ev (fun _ => some v) v := ⟨0, fun _ _ => rfl⟩
theorem Ev.of {α : Type} {g : Nat → Option α} {v : α} (h : ∀ k, g k = some v) : Ev g v := ⟨0, fun k _ => h k⟩
theorem leo_up {α : Type} {f : Nat → Option α} (h : ∀ k, LeO (f k) (f (k + 1))) {a : Nat} {r : α} (hr : f a = some r) : ∀ m, f (a + m) = some r
  | 0 => hr
  | m + 1 => h (a + m) r (leo_up h hr m)
theorem Ev.up {α : Type} {f : Nat → Option α} (h : ∀ k, LeO (f k) (f (k + 1))) {a : Nat} {r : α} (hr : f a = some r) : Ev f r := ⟨a, fun k hk => by have := leo_up h hr (k - a); rwa [show a + (k - a) = k by omega] at this⟩
theorem Ev.bind {α β : Type} {g : Nat → Option α} {v : α} {f : Nat → α → Option β} {u : β} (h : Ev g v) (hf : Ev (fun k => f k v) u) : Ev (fun k => (g k).bind (f k)) u := by
  obtain ⟨n, hn⟩ := h
  obtain ⟨m, hm⟩ := hf
  exact ⟨max n m, fun k hk => by show (g k).bind (f k) = _; rw [hn k (by omega)]; exact hm k (by omega)⟩
theorem Ev.step {α : Type} {g : Nat → Option α} {v : α} (h : Ev (fun k => g (k + 1)) v) : Ev g v := by
  obtain ⟨n, hn⟩ := h
  refine ⟨n + 1, fun k hk => ?_⟩
  obtain ⟨j, rfl⟩ : ∃ j, k = j + 1 := ⟨k - 1, by omega⟩
  exact hn j (by omega)
theorem Ev.congr {α : Type} {g g' : Nat → Option α} {v : α} (h : Ev g v) (e : ∀ k, g' k = g k) : Ev g' v := by
  obtain ⟨n, hn⟩ := h
  exact ⟨n, fun k hk => (e k).trans (hn k hk)⟩
theorem Ev.has {α : Type} {g : Nat → Option α} {v : α} (h : Ev g v) : ∃ k, g k = some v := by
  obtain ⟨n, hn⟩ := h
  exact ⟨n, hn n (Nat.le_refl _)⟩
theorem trimB_snoc (r : List UInt8) (c : UInt8) : Lib.trimRightB (r ++ [c]) 32 = if c = 32 then Lib.trimRightB r 32 else r ++ [c] := by
  unfold Lib.trimRightB
  by_cases h : c = 32
  · simp [h]
  · simp [h, List.dropWhile_cons]
theorem trim_ev : ∀ (n : Nat) (u : List UInt8), u.length = n → n ≤ 100000 → Ev (fun k => scarfref18_Labelled.l1 k (u.map bnum)) ⟨(Lib.trimRightB u 32).toArray⟩
  | 0, u, h, _ => by
    obtain rfl := List.length_eq_zero_iff.1 h
    exact Ev.step (Ev.of fun k => by simp [scarfref18_Labelled.l1, strOfNums, Lib.trimRightB])
  | n + 1, u, h, hn => by
    rcases List.eq_nil_or_concat u with rfl | ⟨r, c, hu⟩
    · simp at h
    · obtain rfl : u = r ++ [c] := by simpa using hu
      have hr : r.length = n := by simpa using h
      have ih := trim_ev n r hr (by omega)
      have hw : wrap64 ((((r ++ [c]).map bnum).length : Int) - 1) = (n : Int) := by simp [hr]; unfold wrap64; omega
      have hl : (((r ++ [c]).map bnum).length : Int) = (n : Int) + 1 := by simp [hr]
      have hrd : rd ((r ++ [c]).map bnum) (n : Int) = bnum c := by
        rw [rd_get (by simp; omega)]; simp [hr]
      rw [trimB_snoc]
      by_cases hc : c = 32
      · rw [if_pos hc]
        refine Ev.step (Ev.congr ih fun k => ?_)
        rw [scarfref18_Labelled.l1, hw, hl, hrd, if_pos (by omega), if_pos (by omega), if_pos (by omega), if_pos (by rw [hc]; rfl), if_pos (by omega)]
        congr 1
        simp [← hr]
      · rw [if_neg hc]
        refine Ev.step (Ev.of fun k => ?_)
        have hc2 : ¬ bnum c = 32 := fun h => hc (UInt8.toNat_inj.1 (by unfold bnum at h; have : (32 : UInt8).toNat = 32 := rfl; omega))
        rw [scarfref18_Labelled.l1, hw, hl, hrd, if_pos (by omega), if_pos (by omega), if_pos (by omega), if_neg hc2, strOf_fix]
theorem bt_get {s : ByteArray} {i : Nat} {c : UInt8} (h : s.data.toList[i]? = some c) : bt s (i : Int) = bnum c := by
  have hlt : i < s.size := by have := (List.getElem?_eq_some_iff.1 h).1; simpa using this
  have := bt_at s (i : Int) (by simpa using hlt)
  rw [← this]
  have h2 := (List.getElem?_eq_some_iff.1 h).2
  simp only [bnum, ← h2, Int.toNat_natCast]
  simp [ByteArray.getElem_eq_getElem_data]
theorem lab_loop (s : ByteArray) (hs : s.size ≤ 100000) : ∀ (m i : Nat), min 200 s.size - i = m → i ≤ min 200 s.size → Ev (fun k => scarfref18_Labelled.l0 k s (((s.data.toList.take i).map fixC).map bnum) (i : Int)) (labB s)
  | 0, i, hm, hi => by
    have hts : s.data.toList.length = s.size := by simp
    have e : s.data.toList.take i = s.data.toList.take 200 := by
      by_cases h : s.size ≤ 200
      · rw [List.take_of_length_le (by omega), List.take_of_length_le (by omega)]
      · congr 1; omega
    have h1 := trim_ev _ ((s.data.toList.take 200).map fixC) rfl (by simp; omega)
    rw [e]
    refine Ev.step (Ev.step (Ev.congr h1 fun k => ?_))
    rw [scarfref18_Labelled.l0]
    by_cases h : (i : Int) < (s.size : Int)
    · rw [if_pos h, show decide ((i : Int) < 200) = false by simp; omega, scarfref18_Labelled.j1]; rfl
    · rw [if_neg h, scarfref18_Labelled.j1]; rfl
  | m + 1, i, hm, hi => by
    have hts : s.data.toList.length = s.size := by simp
    have hlt : i < s.data.toList.length := by omega
    obtain ⟨c, hc⟩ : ∃ c, s.data.toList[i]? = some c := ⟨_, List.getElem?_eq_getElem hlt⟩
    have ih := lab_loop s hs m (i + 1) (by omega) (by omega)
    have hx : ((s.data.toList.take (i + 1)).map fixC).map bnum = ((s.data.toList.take i).map fixC).map bnum ++ [bnum (fixC c)] := by
      rw [List.take_add_one, hc]; simp
    have hlen : (((s.data.toList.take i).map fixC).map bnum).length < 140737488355328 := by simp; omega
    rw [hx] at ih
    refine Ev.step (Ev.step (Ev.congr ih fun k => ?_))
    rw [scarfref18_Labelled.l0, if_pos (by omega), show decide ((i : Int) < 200) = true by simp; omega, scarfref18_Labelled.j1, if_pos rfl, if_pos (by omega), if_pos (by omega), bt_get hc, w64n (by omega)]
    by_cases h1 : bnum c < 32
    · rw [if_pos h1, if_pos hlen, fix_lo h1]; rfl
    · by_cases h2 : bnum c > 126
      · rw [if_neg h1, if_pos h2, if_pos hlen, fix_hi h2]; rfl
      · rw [if_neg h1, if_neg h2, if_pos hlen, fix_mid h1 h2]
theorem labelled_ev (s : ByteArray) (hs : s.size ≤ 100000) : Ev (fun k => scarfref18_Labelled.f k s) (labB s) := by
  have := lab_loop s hs _ 0 rfl (Nat.zero_le _)
  exact this
theorem linesOf_nl : ∀ (p r : List Int), (∀ x ∈ p, x ≠ 10) → linesOf (p ++ 10 :: r) = (p ++ [10]) :: linesOf r
  | [], r, _ => by simp [linesOf]
  | x :: p, r, h => by
    have ih := linesOf_nl p r (fun y hy => h y (List.mem_cons_of_mem _ hy))
    show (if x = 10 then [10] :: linesOf (p ++ 10 :: r) else match linesOf (p ++ 10 :: r) with | [] => [[x]] | y :: ys => (x :: y) :: ys) = _
    rw [if_neg (h x List.mem_cons_self), ih]
    rfl
theorem linesOf_one : ∀ (p : List Int), p ≠ [] → (∀ x ∈ p, x ≠ 10) → linesOf p = [p]
  | [], h, _ => absurd rfl h
  | [x], _, h => by simp [linesOf, h x List.mem_cons_self]
  | x :: y :: p, _, h => by
    have ih := linesOf_one (y :: p) (by simp) (fun z hz => h z (List.mem_cons_of_mem _ hz))
    unfold linesOf
    rw [if_neg (h x List.mem_cons_self), ih]
theorem split_loop (l : List Int) (hl : l.length ≤ 5000000000) : ∀ (m i : Nat) (x3 : List (List Int)) (x4 : List Int), l.length - i = m → i ≤ l.length → x3.length ≤ i → x4.length ≤ i → (∀ x ∈ x4, x ≠ 10) → (i = l.length → x4 = []) →
    Ev (fun k => scarfref02_Split.l0 k l x3 x4 (i : Int)) (x3 ++ linesOf (x4 ++ l.drop i))
  | 0, i, x3, x4, hm, hi, _, _, _, h0 => by
    have hil : i = l.length := by omega
    rw [h0 hil, List.drop_of_length_le (by omega)]
    refine Ev.step (Ev.of fun k => ?_)
    rw [scarfref02_Split.l0, if_neg (by omega)]
    simp [linesOf]
  | m + 1, i, x3, x4, hm, hi, h3, h4, hn, h0 => by
    have hlt : i < l.length := by omega
    have hd : l.drop i = l[i] :: l.drop (i + 1) := List.drop_eq_getElem_cons hlt
    have hw : wrap64 ((l.length : Int) - 1) = (l.length : Int) - 1 := by unfold wrap64; omega
    by_cases h10 : l[i] = 10
    · have ih := split_loop l hl m (i + 1) (x3 ++ [x4 ++ [10]]) [] (by omega) (by omega) (by simp; omega) (by simp) (by simp) (fun _ => rfl)
      rw [hd, h10, linesOf_nl x4 _ hn]
      rw [List.append_assoc, List.nil_append] at ih
      refine Ev.step (Ev.congr ih fun k => ?_)
      rw [scarfref02_Split.l0, if_pos (by omega), if_pos (by omega), if_pos (by omega), rd_get hlt, Option.bind_some, if_pos h10, if_pos (by omega), w64n (by omega), h10]
    · by_cases hlast : i + 1 = l.length
      · have ih := split_loop l hl m (i + 1) (x3 ++ [x4 ++ [l[i]]]) [] (by omega) (by omega) (by simp; omega) (by simp) (by simp) (fun _ => rfl)
        have hde : l.drop (i + 1) = [] := List.drop_of_length_le (by omega)
        rw [hd, hde, linesOf_one (x4 ++ [l[i]]) (by simp) (by
          intro x hx
          rcases List.mem_append.1 hx with hx | hx
          · exact hn x hx
          · rw [List.mem_singleton] at hx; rw [hx]; exact h10)]
        rw [hde] at ih
        simp only [List.append_nil, linesOf] at ih
        refine Ev.step (Ev.congr ih fun k => ?_)
        rw [scarfref02_Split.l0, if_pos (by omega), if_pos (by omega), if_pos (by omega), rd_get hlt, Option.bind_some, if_neg h10, if_pos (by rw [hw]; omega), if_pos (by omega), w64n (by omega)]
      · have ih := split_loop l hl m (i + 1) x3 (x4 ++ [l[i]]) (by omega) (by omega) (by omega) (by simp; omega) (by
          intro x hx
          rcases List.mem_append.1 hx with hx | hx
          · exact hn x hx
          · rw [List.mem_singleton] at hx; rw [hx]; exact h10) (fun h => absurd h hlast)
        rw [hd]
        rw [List.append_assoc] at ih
        refine Ev.step (Ev.congr ih fun k => ?_)
        rw [scarfref02_Split.l0, if_pos (by omega), if_pos (by omega), if_pos (by omega), rd_get hlt, Option.bind_some, if_neg h10, if_neg (by rw [hw]; omega), w64n (by omega)]
theorem split_ev (l : List Int) (hl : l.length ≤ 5000000000) : Ev (fun k => scarfref02_Split.f k l) (linesOf l) := by
  have := split_loop l hl _ 0 [] [] rfl (Nat.zero_le _) (Nat.le_refl _) (Nat.le_refl _) (by simp) (fun _ => rfl)
  show Ev (fun k => scarfref02_Split.l0 k l [] [] 0) _
  simpa using this
def stepL (n : Int) (x : List Int) : Int := if (sgn x).1 > 0 then mx n (((sgn x).1 : Nat) + 1 : Int) else n
def lenRow (n : Int) (l : List Int) : Int := (linesOf l).foldl stepL n
def lenAll (n : Int) (m : List (List Int)) : Int := m.foldl lenRow n
theorem stepL_b {n : Int} {x : List Int} (h : 1 ≤ n ∧ n ≤ 5000000001) (hx : x.length ≤ 5000000000) : 1 ≤ stepL n x ∧ stepL n x ≤ 5000000001 := by
  have := sgn_le x
  unfold stepL mx
  split
  · split <;> omega
  · exact h
theorem rdL_get {l : List (List Int)} {i : Nat} (h : i < l.length) : rd_L1 l (i : Int) = l[i] := by simp [rd_L1, List.getD_eq_getElem?_getD, List.getElem?_eq_getElem h]
theorem foldB : ∀ (l : List (List Int)) (n : Int), (1 ≤ n ∧ n ≤ 5000000001) → (∀ x ∈ l, x.length ≤ 5000000000) → 1 ≤ l.foldl stepL n ∧ l.foldl stepL n ≤ 5000000001
  | [], n, h, _ => h
  | x :: r, n, h, hx => foldB r _ (stepL_b h (hx x List.mem_cons_self)) (fun y hy => hx y (List.mem_cons_of_mem _ hy))
def okRow (l : List Int) : Prop := l.length ≤ 5000000000 ∧ ∀ x ∈ l, byte x
theorem okRow_lines {l : List Int} (h : okRow l) : ∀ x ∈ linesOf l, okRow x := fun x hx => ⟨Nat.le_trans (linesOf_mem l x hx) h.1, linesOf_all byte l x h.2 hx⟩
theorem len_in (m : List (List Int)) (i : Nat) (L : List (List Int)) (hL : L.length ≤ 5000000000) (hLr : ∀ x ∈ L, okRow x) (res : Int) (hi : i < m.length) (hm : m.length ≤ 5000000000) : ∀ (q j : Nat) (n : Int), L.length - j = q → j ≤ L.length → 1 ≤ n ∧ n ≤ 5000000001 →
    Ev (fun k => mark_Length.l0 k ((L.drop j).foldl stepL n) m (m.length : Int) ((i + 1 : Nat) : Int)) res → Ev (fun k => mark_Length.l1 k n m (m.length : Int) (i : Int) L (L.length : Int) (j : Int)) res
  | 0, j, n, hq, hj, hn, hk => by
    rw [List.drop_of_length_le (by omega)] at hk
    refine Ev.step (Ev.congr hk fun k => ?_)
    rw [mark_Length.l1, if_neg (by omega), w64n (by omega)]
    rfl
  | q + 1, j, n, hq, hj, hn, hk => by
    have hlt : j < L.length := by omega
    rw [List.drop_eq_getElem_cons hlt, List.foldl_cons] at hk
    have hr := hLr _ (List.getElem_mem hlt)
    have ih := len_in m i L hL hLr res hi hm q (j + 1) (stepL n L[j]) (by omega) (by omega) (stepL_b hn hr.1) hk
    obtain ⟨k0, hs⟩ := signs_ev L[j] hr.1 hr.2
    have hsE := Ev.up (fun k => mark_signs.mono L[j] k) hs
    refine Ev.step (Ev.congr (Ev.bind hsE (f := fun k t => if t.1 > 0 then mark_Length.l1 k (mx n (wrap64 (t.1 + 1))) m (m.length : Int) (i : Int) L (L.length : Int) (wrap64 ((j : Int) + 1)) else mark_Length.l1 k n m (m.length : Int) (i : Int) L (L.length : Int) (wrap64 ((j : Int) + 1))) (Ev.congr ih fun k => ?_)) fun k => ?_)
    · have h1 := sgn_le L[j]
      have h2 := hr.1
      simp only [w64n (show j ≤ 9223372036854775806 by omega)]
      rw [show wrap64 ((((sgn L[j]).1 : Nat) : Int) + 1) = (((sgn L[j]).1 : Nat) : Int) + 1 by unfold wrap64; omega]
      unfold stepL
      by_cases h : 0 < (sgn L[j]).1
      · rw [if_pos (show (((sgn L[j]).1 : Nat) : Int) > 0 by omega), if_pos h]
      · rw [if_neg (show ¬ (((sgn L[j]).1 : Nat) : Int) > 0 by omega), if_neg h]
    · rw [mark_Length.l1, if_pos (by omega), if_pos (by omega), if_pos (by omega), rdL_get hlt]
theorem len_out (m : List (List Int)) (hm : m.length ≤ 5000000000) (hr : ∀ l ∈ m, okRow l) : ∀ (q i : Nat) (n : Int), m.length - i = q → i ≤ m.length → 1 ≤ n ∧ n ≤ 5000000001 →
    Ev (fun k => mark_Length.l0 k n m (m.length : Int) (i : Int)) ((m.drop i).foldl lenRow n)
  | 0, i, n, hq, hi, _ => by
    rw [List.drop_of_length_le (by omega)]
    refine Ev.step (Ev.of fun k => ?_)
    rw [mark_Length.l0, if_neg (by omega)]
    rfl
  | q + 1, i, n, hq, hi, hn => by
    have hlt : i < m.length := by omega
    have ho := hr _ (List.getElem_mem hlt)
    have hln : (linesOf m[i]).length ≤ 5000000000 := Nat.le_trans (linesOf_len _) ho.1
    have ih := len_out m hm hr q (i + 1) (lenRow n m[i]) (by omega) (by omega) (foldB _ n hn (fun x hx => (okRow_lines ho x hx).1))
    rw [List.drop_eq_getElem_cons hlt, List.foldl_cons]
    have h1 := len_in m i (linesOf m[i]) hln (okRow_lines ho) _ hlt hm _ 0 n rfl (Nat.zero_le _) hn ih
    refine Ev.step (Ev.congr h1 fun k => ?_)
    rw [mark_Length.l0, if_pos (by omega), if_pos (by omega), if_pos (by omega), rdL_get hlt]
    have : line_Split.f m[i] = some (linesOf m[i]) := by
      unfold line_Split.f
      rw [if_pos]
      simp only [Bool.and_eq_true, List.all_eq_true, decide_eq_true_eq]
      exact ⟨fun x hx => ho.2 x hx, ho.1⟩
    rw [this]
    rfl
theorem length_ev (least : Int) (m : List (List Int)) (hm : m.length ≤ 5000000000) (hr : ∀ l ∈ m, okRow l) : Ev (fun k => mark_Length.f k least m) (lenAll (if 1 ≤ least ∧ least ≤ 1000 then least else 7) m) := by
  have h : ∀ n : Int, 1 ≤ n ∧ n ≤ 5000000001 → Ev (fun k => mark_Length.j1 k n m) (lenAll n m) := fun n hn => Ev.step (len_out m hm hr _ 0 n rfl (Nat.zero_le _) hn)
  by_cases h1 : least < 1
  · rw [if_neg (by omega)]
    exact Ev.congr (g := fun k => mark_Length.j0 k least m true) (Ev.step (Ev.congr (h 7 (by omega)) (fun k => rfl))) (fun k => by unfold mark_Length.f; rw [if_pos h1])
  · by_cases h2 : least > 1000
    · rw [if_neg (by omega)]
      exact Ev.congr (g := fun k => mark_Length.j0 k least m true) (Ev.step (Ev.congr (h 7 (by omega)) (fun k => rfl))) (fun k => by unfold mark_Length.f; rw [if_neg h1, show decide (least > 1000) = true by simpa using h2])
    · rw [if_pos (by omega)]
      exact Ev.congr (g := fun k => mark_Length.j0 k least m false) (Ev.step (Ev.congr (h least (by omega)) (fun k => rfl))) (fun k => by unfold mark_Length.f; rw [if_neg h1, show decide (least > 1000) = false by simpa using h2])
theorem rlen_in (m : List (List Int)) (i : Nat) (L : List (List Int)) (hL : L.length ≤ 5000000000) (hLr : ∀ x ∈ L, okRow x) (res : Int) (hi : i < m.length) (hm : m.length ≤ 5000000000) : ∀ (q j : Nat) (n : Int), L.length - j = q → j ≤ L.length → 1 ≤ n ∧ n ≤ 5000000001 →
    Ev (fun k => scarfref18_Length.l0 k m ((L.drop j).foldl stepL n) ((i + 1 : Nat) : Int)) res → Ev (fun k => scarfref18_Length.l1 k m n (i : Int) L (j : Int)) res
  | 0, j, n, hq, hj, hn, hk => by
    rw [List.drop_of_length_le (by omega)] at hk
    refine Ev.step (Ev.congr hk fun k => ?_)
    rw [scarfref18_Length.l1, if_neg (by omega), w64n (by omega)]
    rfl
  | q + 1, j, n, hq, hj, hn, hk => by
    have hlt : j < L.length := by omega
    rw [List.drop_eq_getElem_cons hlt, List.foldl_cons] at hk
    have hr := hLr _ (List.getElem_mem hlt)
    have ih := rlen_in m i L hL hLr res hi hm q (j + 1) (stepL n L[j]) (by omega) (by omega) (stepL_b hn hr.1) hk
    obtain ⟨k0, hs⟩ := runs_ev L[j] hr.1
    have hsE := Ev.up (fun k => scarfref18_runs.mono L[j] k) hs
    refine Ev.step (Ev.congr (Ev.bind hsE (f := fun k t => if t > 0 then (if t ≥ n then scarfref18_Length.l1 k m (wrap64 (t + 1)) (i : Int) L (wrap64 ((j : Int) + 1)) else scarfref18_Length.l1 k m n (i : Int) L (wrap64 ((j : Int) + 1))) else scarfref18_Length.l1 k m n (i : Int) L (wrap64 ((j : Int) + 1))) (Ev.congr ih fun k => ?_)) fun k => ?_)
    · have h1 := sgn_le L[j]
      have h2 := hr.1
      simp only [w64n (show j ≤ 9223372036854775806 by omega)]
      rw [show wrap64 ((((sgn L[j]).1 : Nat) : Int) + 1) = (((sgn L[j]).1 : Nat) : Int) + 1 by unfold wrap64; omega]
      unfold stepL mx
      by_cases h : 0 < (sgn L[j]).1
      · rw [if_pos (show (((sgn L[j]).1 : Nat) : Int) > 0 by omega), if_pos h]
        by_cases h3 : (((sgn L[j]).1 : Nat) : Int) ≥ n
        · rw [if_pos h3, if_pos (by omega)]
        · rw [if_neg h3, if_neg (by omega)]
      · rw [if_neg (show ¬ (((sgn L[j]).1 : Nat) : Int) > 0 by omega), if_neg h]
    · rw [scarfref18_Length.l1, if_pos (by omega), if_pos (by omega), rdL_get hlt]
theorem rlen_out (m : List (List Int)) (hm : m.length ≤ 5000000000) (hr : ∀ l ∈ m, okRow l) : ∀ (q i : Nat) (n : Int), m.length - i = q → i ≤ m.length → 1 ≤ n ∧ n ≤ 5000000001 →
    Ev (fun k => scarfref18_Length.l0 k m n (i : Int)) ((m.drop i).foldl lenRow n)
  | 0, i, n, hq, hi, _ => by
    rw [List.drop_of_length_le (by omega)]
    refine Ev.step (Ev.of fun k => ?_)
    rw [scarfref18_Length.l0, if_neg (by omega)]
    rfl
  | q + 1, i, n, hq, hi, hn => by
    have hlt : i < m.length := by omega
    have ho := hr _ (List.getElem_mem hlt)
    have hln : (linesOf m[i]).length ≤ 5000000000 := Nat.le_trans (linesOf_len _) ho.1
    have ih := rlen_out m hm hr q (i + 1) (lenRow n m[i]) (by omega) (by omega) (foldB _ n hn (fun x hx => (okRow_lines ho x hx).1))
    rw [List.drop_eq_getElem_cons hlt, List.foldl_cons]
    have h1 := rlen_in m i (linesOf m[i]) hln (okRow_lines ho) _ hlt hm _ 0 n rfl (Nat.zero_le _) hn ih
    refine Ev.step (Ev.congr (Ev.bind (split_ev m[i] ho.1) (f := fun k t => scarfref18_Length.l1 k m n (i : Int) t 0) h1) fun k => ?_)
    rw [scarfref18_Length.l0, if_pos (by omega), if_pos (by omega), rdL_get hlt]
theorem rlength_ev (least : Int) (m : List (List Int)) (hm : m.length ≤ 5000000000) (hr : ∀ l ∈ m, okRow l) : Ev (fun k => scarfref18_Length.f k least m) (lenAll (if 1 ≤ least ∧ least ≤ 1000 then least else 7) m) := by
  have h : ∀ n : Int, 1 ≤ n ∧ n ≤ 5000000001 → Ev (fun k => scarfref18_Length.j1 k m n) (lenAll n m) := fun n hn => Ev.step (rlen_out m hm hr _ 0 n rfl (Nat.zero_le _) hn)
  by_cases h1 : least ≥ 1
  · by_cases h2 : least ≤ 1000
    · rw [if_pos (by omega)]
      exact Ev.congr (g := fun k => scarfref18_Length.j0 k least m 7 true) (Ev.step (Ev.congr (h least (by omega)) (fun k => rfl))) (fun k => by unfold scarfref18_Length.f; rw [if_pos h1, show decide (least ≤ 1000) = true by simpa using h2])
    · rw [if_neg (by omega)]
      exact Ev.congr (g := fun k => scarfref18_Length.j0 k least m 7 false) (Ev.step (Ev.congr (h 7 (by omega)) (fun k => rfl))) (fun k => by unfold scarfref18_Length.f; rw [if_pos h1, show decide (least ≤ 1000) = false by simpa using h2])
  · rw [if_neg (by omega)]
    exact Ev.congr (g := fun k => scarfref18_Length.j0 k least m 7 false) (Ev.step (Ev.congr (h 7 (by omega)) (fun k => rfl))) (fun k => by unfold scarfref18_Length.f; rw [if_neg h1])
end Go.Proofs.YtnnnbeimehfiiaaDoor.Q

-- Written by a program of this session (wip/mkprint.py, wip/pr.sh) for this claim; Lean checks it.
namespace Go.Proofs.YtnnnbeimehfiiaaDoor.L
open Go.RowKit Go.Proofs.YtnnnbeimehfiiaaDoorW.PrintWords Go.Proofs.YtnnnbeimehfiiaaDoorW.PrintLast Go.Proofs.YtnnnbeimehfiiaaDoorW.PrintMore
attribute [local go_sem] max2_int min2_int max_two min_two max_three min_three max_four min_four   -- for this text's walks alone
set_option linter.unusedVariables false
set_option linter.unusedSimpArgs false



def errW : Option Int → Value
 | none => .nilIface
 | some c => .iface 0 (.int .i64 c)
theorem errW_none : errW none = .nilIface := rfl
theorem errW_some (c : Int) : errW (some c) = .iface 0 (.int .i64 c) := rfl

theorem info5 : (Tryd.prog.info? 5).map (fun i => (i.zero, i.size, i.bytes)) = some (some (.int .u8 0), 1, 1) := by kernel_rfl
theorem info22 : (Tryd.prog.info? 22).map (fun i => (i.zero, i.size, i.bytes)) = some (some (.slice none 0 0), 1, 24) := by kernel_rfl
-- the values' own types
def rd_L1 (xs : List (List Int)) (i : Int) : (List Int) := xs.getD i.toNat ([] : List Int)
theorem at_L1 {w : World} {A : Option Addr} {n : Nat} {xs : List (List Int)} (h : Kd.C (Kd.slice 5 (Kd.int .u8)) w A n xs) (i : Int) (h0 : 0 ≤ i) (h1 : i < n) : ∃ ad A0 c0, A = some ad ∧ w.cell? (ad.add i.toNat) = some (.slice A0 (rd_L1 xs i).length c0) ∧ (rd_L1 xs i).length ≤ c0 ∧ (Kd.int .u8).C w A0 (rd_L1 xs i).length (rd_L1 xs i) := by
 obtain ⟨ad, c, e, _, hK, hc0⟩ := Kd.C_get h ([] : List Int) i h0 h1
 have hc : ∀ j u, c[j]? = some u → w.cell? (ad.add (i.toNat * 1 + j)) = some u := hc0
 obtain ⟨A0, c0, rfl, l0, g0⟩ := hK
 exact ⟨ad, A0, c0, e, by have hq := hc 0 _ rfl; rwa [Nat.mul_one, Nat.add_zero] at hq, l0, g0⟩

end Go.Proofs.YtnnnbeimehfiiaaDoor.L

/-! mark's page: what lies in it; its methods. -/
set_option linter.unusedVariables false
set_option linter.unusedSimpArgs false
namespace Go.Proofs.YtnnnbeimehfiiaaDoor.Q
open Go Go.RowKit Go.Proofs.YtnnnbeimehfiiaaDoorW.PrintWords Go.Proofs.YtnnnbeimehfiiaaDoorW.PrintLast Go.Proofs.YtnnnbeimehfiiaaDoorW.PrintMore Go.Proofs.YtnnnbeimehfiiaaDoorW.SL
attribute [local go_sem] max2_int min2_int max_two min_two max_three min_three max_four min_four
/-- A page in block b (of the call's own, from B on) that holds the bytes l. -/
def Pg (B b : Nat) (l : List Int) (w : World) : Prop := LibA.IsBuffer 73 (fun _ => none) 5 B b 0 (l.map (Value.int .u8)) w
theorem us_one (l : List Int) : ∀ v ∈ l.map (Value.int .u8), v.oneCell' = true := fun v hv => by obtain ⟨_, _, rfl⟩ := List.mem_map.1 hv; rfl
/-- What a page's method leaves as it was. -/
def Pk (B b : Nat) (w w' : World) : Prop := Below B w w' ∧ Lib.OthersKept 5 (some b) w w'
theorem Pk.refl (B b : Nat) (w : World) : Pk B b w w := ⟨Below.refl _ _, Lib.OthersKept.refl _ _ _⟩
theorem Pk.trans {B b : Nat} {w w1 w2 : World} (h : Pk B b w w1) (k : Pk B b w1 w2) : Pk B b w w2 := ⟨h.1.trans k.1, h.2.trans k.2⟩
theorem Pg.below {B b : Nat} {l : List Int} {w w' : World} (h : Pg B b l w) (hb : Below w.heap.size w w') : Pg B b l w' := by
  obtain ⟨hB, v, lr, h3, ho, hn⟩ := h
  have hlt := h3.lt
  exact ⟨hB, v, lr, h3.of_heap (hb.block b hlt), own_move ho (fun k hk => hb.block k (own_lt ho k hk)), hn⟩
theorem Pk.below {B b : Nat} {w w1 w2 : World} (h : Pk B b w w1) (hB : B ≤ w1.heap.size) (hb : Below w1.heap.size w1 w2) : Pk B b w w2 :=
  ⟨h.1.trans (below_lo hb hB), fun k o hk hb2 ho => by
    have h1 := h.2 k o hk hb2 ho
    rw [hb.block k (Array.getElem?_eq_some_iff.1 h1).1]; exact h1⟩
theorem drewN_below {w w' : World} (h : ∃ n, w' = w.drewN n) : Below w.heap.size w w' := by obtain ⟨n, rfl⟩ := h; exact pw_below_drewN (Below.refl _ _) n
set_option maxHeartbeats 4000000 in
set_option maxRecDepth 100000 in
/-- (*bytes.Buffer).Write at a page. -/
theorem pg_write (B b : Nat) (l x : List Int) (A : Option Addr) (c : Nat) (w : World) (h : Pg B b l w) (hBw : B ≤ w.heap.size) (hx : Kd.C B8 w A x.length x) (hA : x ≠ [] → ∀ a, A = some a → a.block ≠ b) (hlim : l.length + x.length ≤ 140737488355328) :
    Calls Tryd.prog 34 #[.pointer (some ⟨b, 0, none⟩), .slice A x.length c] w fun e w' => e = .returned (.tuple #[.int .i64 (x.length : Int), .nilIface]) ∧ Pg B b (l ++ x) w' ∧ Pk B b w w' := by
  by_cases hx0 : x ≠ []
  · obtain ⟨a, rfl, _⟩ := hx.2.2 (by cases x with | nil => exact absurd rfl hx0 | cons _ _ => simp)
    replace hA := hA hx0
    refine (Any.Buffer_Write_at Tryd.lays180 73 (fun _ => none) B b 0 (l.map (Value.int .u8)) (x.map (Value.int .u8)) a x.length c w h hBw (us_one l) (by simp) (hA a rfl) (fun j v hj => ?_) (us_one x) (by simpa using hlim)).mono ?_
    · have hjl : j < x.length := by have := (List.getElem?_eq_some_iff.1 hj).1; simpa using this
      obtain ⟨ad', he, hc⟩ := Kd.at_int hx (j : Int) (by omega) (by omega)
      injection he with he
      subst he
      simp only [Int.toNat_natCast] at hc
      rw [hc, ← hj, rd_get hjl]
      simp [List.getElem?_eq_getElem hjl]
    · rintro e w' ⟨rfl, h1, h2, h3⟩
      exact ⟨rfl, by unfold Pg; rw [List.map_append]; exact h1, h2, h3⟩
  · have hx0 : x = [] := Classical.not_not.1 hx0
    subst hx0
    obtain ⟨hB, v0, lr, hbk, -, -⟩ := id h
    have c2 : w.cell? ⟨b, 0 + 2, none⟩ = some (.int .i8 lr) := hbk.c2
    have f2 : w.frozen? ⟨b, 0 + 2, none⟩ = false := hbk.f (0 + 2)
    have h' := LibA.IsBuffer.setLast h 0
    have hbel0 : Below B w (w.setCell ⟨b, 0 + 2, none⟩ (.int .i8 0)) := (Below.refl B w).setCell (p := ⟨b, 0 + 2, none⟩) hB _
    have hk0 : Lib.OthersKept 5 (some b) w (w.setCell ⟨b, 0 + 2, none⟩ (.int .i8 0)) := (Lib.OthersKept.refl _ _ w).setCell ⟨b, 0 + 2, none⟩ rfl _
    clear hbk v0
    have hinfo : (Tryd.prog.info? 5).map (·.size) = some 1 := by kernel_rfl
    have hce : ∀ d dLen dCap W c, (Builtin.copy_ #[22, 22] 3 #[.slice d dLen dCap, .slice A 0 c]).run Tryd.prog W = .ok (goInt 0) W := fun d dLen dCap W c => run_copy_none W 22 22 3 5 d A dLen dCap 0 c Tryd.underlying22 hinfo (by simp)
    replace hlim := Aside0.mk hlim
    replace hA := Aside0.mk hA
    replace hx := Aside0.mk hx
    simp only [Nat.zero_add] at *
    go_enter Tryd.func34, Tryd.ntmps34
    go_wp2_with (go_at_call 49; refine (Any.Buffer_tryGrow_at { Tryd.lays180 with } 73 (fun _ => none) B b 0 0 (l.map (Value.int .u8)) _ ?_).mono ?_)
    · exact h'
    rintro e W1 (⟨rfl, xs, hxl, hI, hbel, hk, hg⟩ | ⟨rfl, rfl, hnr⟩)
    · clear h' c2 f2
      have hx0 : xs = [] := List.eq_nil_of_length_eq_zero hxl
      subst hx0
      rw [List.append_nil] at hI
      have hI2 : Pg B b l W1 := hI
      replace hI2 := Aside0.mk hI2
      have hk2 : Pk B b w W1 := ⟨hbel0.trans hbel, hk0.trans hk⟩
      replace hk2 := Aside0.mk hk2
      obtain ⟨-, lr2, hc⟩ := hI.cases
      clear hI hk hbel hg
      rcases hc with ⟨hb0, hbk2⟩ | ⟨g, cap, cur, hbk2, -, -, hnc, hcm, -, -, -⟩
      · have hl0 : l = [] := by simpa using hb0
        subst hl0
        have d0 : W1.cell? ⟨b, 0, none⟩ = some (.slice none 0 0) := hbk2.c0
        go_wp2
        go_ret2
        exact ⟨by first | rfl | simp, by simpa using hI2.out, hk2.out⟩
      · rw [List.length_map] at hbk2 hnc
        have d0 : W1.cell? ⟨b, 0, none⟩ = some (.slice (some ⟨g, 0, none⟩) l.length cap) := hbk2.c0
        unfold maxLen at hcm
        go_wp2
        all_goals (go_ret2; exact ⟨by first | rfl | simp, by simpa using hI2.out, hk2.out⟩)
    · obtain ⟨_, _, _, _, hlt⟩ := hnr
      omega
/-- A string's bytes. -/
def sb (s : ByteArray) : List Int := s.data.toList.map bnum
theorem sb_cells (s : ByteArray) : Lib.byteCells s.data.toList = (sb s).map (Value.int .u8) := by simp [Lib.byteCells, sb, bnum]
theorem sb_len (s : ByteArray) : (sb s).length = s.size := by simp [sb]
theorem pg_str (B b : Nat) (l : List Int) (s : ByteArray) (w : World) (h : Pg B b l w) (hBw : B ≤ w.heap.size) (hlim : l.length + s.size ≤ 140737488355328) :
    Calls Tryd.prog 54 #[.pointer (some ⟨b, 0, none⟩), .string s] w fun e w' => e = .returned (.tuple #[.int .i64 (s.size : Int), .nilIface]) ∧ Pg B b (l ++ sb s) w' ∧ Pk B b w w' := by
  refine (Any.Buffer_WriteString_at Tryd.lays178 73 (fun _ => none) B b 0 (l.map (Value.int .u8)) s w h hBw (us_one l) (by simpa using hlim)).mono ?_
  rintro e w' ⟨rfl, h1, h2, h3⟩
  exact ⟨rfl, by unfold Pg; rw [List.map_append, ← sb_cells]; exact h1, h2, h3⟩
theorem pg_byte (B b : Nat) (l : List Int) (x : Int) (w : World) (h : Pg B b l w) (hBw : B ≤ w.heap.size) (hlim : l.length + 1 ≤ 140737488355328) :
    Calls Tryd.prog 53 #[.pointer (some ⟨b, 0, none⟩), .int .u8 x] w fun e w' => e = .returned .nilIface ∧ Pg B b (l ++ [x]) w' ∧ Pk B b w w' := by
  refine (Any.Buffer_WriteByte_at Tryd.lays179 73 (fun _ => none) B b 0 (l.map (Value.int .u8)) x w h hBw (us_one l) (by simpa using hlim)).mono ?_
  rintro e w' ⟨rfl, h1, h2, h3⟩
  exact ⟨rfl, by unfold Pg; rw [List.map_append]; exact h1, h2, h3⟩
theorem pg_len (B b : Nat) (l : List Int) (w : World) (h : Pg B b l w) :
    Calls Tryd.prog 51 #[.pointer (some ⟨b, 0, none⟩)] w fun e w' => e = .returned (.int .i64 (l.length : Int)) ∧ Below w.heap.size w w' := by
  refine (Any.Buffer_Len_at Tryd.lays181 73 (fun _ => none) B b 0 (l.map (Value.int .u8)) w h).mono ?_
  rintro e w' ⟨rfl, h1⟩
  exact ⟨by rw [List.length_map], drewN_below h1⟩
set_option maxHeartbeats 4000000 in
set_option maxRecDepth 100000 in
theorem pg_bytes (B b : Nat) (l : List Int) (w : World) (h : Pg B b l w) :
    Calls Tryd.prog 52 #[.pointer (some ⟨b, 0, none⟩)] w fun e w' => ∃ A c, e = .returned (.slice A l.length c) ∧ l.length ≤ c ∧ Kd.C B8 w' A l.length l ∧ Below w.heap.size w w' := by
  obtain ⟨hB, v, lr, h3, ho, hn⟩ := h
  obtain ⟨A, c, rfl, hc, hF⟩ := ownF_F (w := w) (Z := fun _ => True) (v := v) (xs := l) ⟨fun _ _ => trivial, by have := own_weaken ho (Nat.zero_le _); simpa [us8] using this⟩
  have hC : ∀ n, Kd.C B8 (w.drewN n) A l.length l := fun n => Kd.C_below (Kd.F_now hF) (pw_below_drewN (Below.refl _ _) n)
  have hC1 : Kd.C B8 w.drew A l.length l := Kd.C_below (Kd.F_now hF) (below_drew1 (Below.refl _ _))
  have hmx : c ≤ 9223372036854775807 := by
    rcases ho.2 with ⟨h1, _⟩ | ⟨g, cap, cur, h1, _, _, _, hcm, _⟩
    · injection h1 with _ _ h1; omega
    · injection h1 with _ _ h1; simp only [maxLen] at hcm; omega
  have c0 : w.cell? ⟨b, 0, none⟩ = some (.slice A l.length c) := h3.c0
  have c1 : w.cell? ⟨b, 1, none⟩ = some (.int .i64 0) := h3.c1
  have mixed := Tryd.lays183.mixed
  have HC := Aside0.mk (⟨hc, hC, hC1⟩ : _ ∧ _ ∧ _)
  have hcl : (l.length : Int) ≤ (c : Int) := by omega
  clear hF ho h3 hn hC hC1 hc
  cases A with
  | none =>
    go_enter Tryd.func52, Tryd.ntmps52
    go_wp2
    go_region_o
    all_goals (go_wp2; go_ret; first | exact ⟨_, _, rfl, HC.out.1, HC.out.2.2, below_drew1 (Below.refl _ _)⟩ | exact ⟨_, _, rfl, HC.out.1, by have := HC.out.2.2; simpa using this, below_drew1 (Below.refl _ _)⟩)
  | some a =>
    go_enter Tryd.func52, Tryd.ntmps52
    go_wp2
    go_region_o
    all_goals (go_wp2; go_ret; first | exact ⟨_, _, rfl, HC.out.1, HC.out.2.2, below_drew1 (Below.refl _ _)⟩ | exact ⟨_, _, rfl, HC.out.1, by have := HC.out.2.2; simpa using this, below_drew1 (Below.refl _ _)⟩)
theorem Tryd.Builder_Extra_105 : Builder.Extra Tryd.prog Tryd.lays105_ren := {
  sizeBuilder := by kernel_rfl
  liesBuilder := by kernel_rfl
  t5 := Tryd.underlying5
  a5 := Tryd.isAgg5
  z5 := Tryd.sizeOf5
  v5 := Tryd.zeroValue5
  infoByte := by kernel_rfl
  cellsByte := by kernel_rfl
  sizeByte := by kernel_rfl
  neB5 := by decide }
/-- strings.Repeat of one byte. -/
theorem rep_calls (x : UInt8) (n : Nat) (w : World) (hn : n ≤ 16777216) : Calls Tryd.prog 55 #[.string ⟨#[x]⟩, .int .i64 (n : Int)] w fun e w' => e = .returned (.string ⟨(List.replicate n x).toArray⟩) ∧ Below w.heap.size w w' := by
  refine (Any.strings_Repeat Tryd.lays105 Tryd.Builder_Extra_105 ⟨#[x]⟩ n w (by omega) (by show 1 * n ≤ _; omega)).mono ?_
  rintro e w' ⟨rfl, h⟩
  refine ⟨?_, h⟩
  have : ∀ k, Lib.repeatL [x] k = List.replicate k x := fun k => by
    induction k with
    | zero => rfl
    | succ k ih => show [x] ++ Lib.repeatL [x] k = _; rw [ih]; rfl
  rw [← this]
end Go.Proofs.YtnnnbeimehfiiaaDoor.Q

-- Written by a program of this session (wip/gen_pg.py) for this claim; Lean checks it.
/-! mark's page: shut, lines, marker, out, walked. -/
set_option linter.unusedVariables false
set_option linter.unusedSimpArgs false
namespace Go.Proofs.YtnnnbeimehfiiaaDoor.Q
open Go Go.RowKit Go.Proofs.YtnnnbeimehfiiaaDoorW.PrintWords Go.Proofs.YtnnnbeimehfiiaaDoorW.PrintLast Go.Proofs.YtnnnbeimehfiiaaDoorW.PrintMore Go.Proofs.YtnnnbeimehfiiaaDoorW.SL
attribute [local go_sem] max2_int min2_int max_two min_two max_three min_three max_four min_four
def mmark.T0 : Bool × List (List Nat × List Nat) := (true, [([], []), ([0], [0]), ([1], [1]), ([], []), ([], []), ([3, 4], [3, 4]), ([2, 5, 5], [2, 5])])
def mmark.B0 : List Nat := [0, 1, 3, 0, 0, 24, 63]
theorem mmark.tab0 : rtab .any (opsOf Tryd.f36 0) = mmark.T0 := by kernel_rfl
theorem mmark.bits0 : waitsOk mmark.T0.2 mmark.B0 = true := by kernel_rfl
/-- A newline behind the last line, if it lacks one. -/
def endNl (l : List Int) : List Int := match l.getLast? with | some x => if x = 10 then l else l ++ [10] | none => []
theorem endNl_nil : endNl [] = [] := rfl
theorem endNl_snoc (r : List Int) (x : Int) : endNl (r ++ [x]) = if x = 10 then r ++ [x] else r ++ [x] ++ [10] := by simp [endNl]
theorem last_C {w : World} {A : Option Addr} {r : List Int} {x : Int} (h : Kd.C B8 w A (r ++ [x]).length (r ++ [x])) : ∃ ad, A = some ad ∧ w.cell? (ad.add r.length) = some (.int .u8 x) := by
  obtain ⟨ad, hA, hc⟩ := Kd.at_int h (r.length : Int) (by omega) (by simp; omega)
  refine ⟨ad, hA, ?_⟩
  simp only [Int.toNat_natCast] at hc
  rw [hc, rd_get (by simp)]
  simp
theorem Pk.of_below {B b : Nat} {w w' : World} (hB : B ≤ w.heap.size) (h : Below w.heap.size w w') : Pk B b w w' := (Pk.refl B b w).below hB h
theorem Pg.lt {B b : Nat} {l : List Int} {w : World} (h : Pg B b l w) : b < w.heap.size := LibA.IsBuffer.lt h
theorem Pk.size {B b : Nat} {w w' : World} (h : Pk B b w w') : w.heap.size ≤ w'.heap.size := h.1.size
set_option maxHeartbeats 8000000 in
set_option maxRecDepth 100000 in
theorem shut_calls (B b : Nat) (l : List Int) (w : World) (h : Pg B b l w) (hBw : B ≤ w.heap.size) (hlim : l.length + 1 ≤ 140737488355328) :
    Calls Tryd.prog 35 #[.pointer (some ⟨b, 0, none⟩)] w fun e w' => e = .returned (.tuple #[]) ∧ Pg B b (endNl l) w' ∧ Pk B b w w' := by
  rcases List.eq_nil_or_concat l with rfl | ⟨r, x, hl⟩
  · have H := Aside0.mk h; have HB := Aside0.mk hBw
    clear h hBw hlim
    rw [endNl_nil]
    go_enter Tryd.func35, Tryd.ntmps35
    go_wp2_with (go_at_call 51; refine (pg_len B b [] w H.out).mono ?_; rintro e w1 ⟨rfl, hb1⟩)
    (try simp only [Exit.inBlock, Exit.then])
    refine bodyPost_end (results_none rfl _ _ _) rfl ?_
    exact ⟨rfl, H.out.below hb1, Pk.of_below HB.out hb1⟩
  · have hl2 : l = r ++ [x] := by simpa using hl
    subst hl2
    clear hl
    have hln : (r ++ [x]).length = r.length + 1 := by simp
    have hpos := eq_true (show (0 : Int) < (r.length : Int) + 1 by omega)
    have hw0 : wrap64 (r.length : Int) = (r.length : Int) := by rw [hln] at hlim; unfold wrap64; omega
    have hlt := eq_true (show (r.length : Int) < (r.length : Int) + 1 by omega)
    have LEN : ∀ W, Pg B b (r ++ [x]) W → Calls Tryd.prog 51 #[.pointer (some ⟨b, 0, none⟩)] W fun e w' => e = .returned (.int .i64 ((r.length + 1 : Nat) : Int)) ∧ Below W.heap.size W w' := fun W hW => by
      have := pg_len B b (r ++ [x]) W hW; rwa [hln] at this
    have BYT : ∀ W, Pg B b (r ++ [x]) W → Calls Tryd.prog 52 #[.pointer (some ⟨b, 0, none⟩)] W fun e w' => ∃ ad c, e = .returned (.slice (some ad) (r.length + 1) c) ∧ w'.cell? (ad.add r.length) = some (.int .u8 x) ∧ Below W.heap.size W w' := fun W hW => by
      refine (pg_bytes B b (r ++ [x]) W hW).mono ?_
      rintro e w' ⟨A, c, rfl, hc, hC, hb⟩
      obtain ⟨ad, rfl, hx⟩ := last_C hC
      exact ⟨ad, c, by rw [hln], hx, hb⟩
    have H := Aside0.mk h; have HB := Aside0.mk hBw; have HL := Aside0.mk hlim
    replace LEN := Aside0.mk LEN; replace BYT := Aside0.mk BYT
    clear h hBw hlim hln
    rw [endNl_snoc]
    by_cases hx10 : x = 10
    · subst hx10
      rw [if_pos rfl]
      go_enter Tryd.func35, Tryd.ntmps35
      go_wp2_with (first | (go_at_call 51; refine (LEN.out w H.out).mono ?_; rintro e w1 ⟨rfl, hb1⟩; have H1 := H.out.below hb1) | (go_at_call 52; refine (BYT.out w1 H1).mono ?_; rintro e w2 ⟨ad, c, rfl, hx, hb2⟩; have hb := hb1.trans (below_lo hb2 hb1.size)))
      (try simp only [Exit.inBlock, Exit.then])
      refine bodyPost_end (results_none rfl _ _ _) rfl ?_
      exact ⟨rfl, H.out.below hb, Pk.of_below HB.out hb⟩
    · rw [if_neg hx10]
      have hne := eq_false hx10
      have hbf : (x == 10) = false := by rw [beq_eq_false_iff_ne]; exact hx10
      go_enter Tryd.func35, Tryd.ntmps35
      go_wp2_with (first | (go_at_call 51; refine (LEN.out w H.out).mono ?_; rintro e w1 ⟨rfl, hb1⟩; have H1 := H.out.below hb1) | (go_at_call 52; refine (BYT.out w1 H1).mono ?_; rintro e w2 ⟨ad, c, rfl, hx, hb2⟩; have hb := hb1.trans (below_lo hb2 hb1.size)) | (go_at_call 53; refine (pg_byte B b (r ++ [x]) 10 w2 (H.out.below hb) (Nat.le_trans HB.out hb.size) HL.out).mono ?_; rintro e w3 ⟨rfl, hp3, hk3⟩))
      (try simp only [Exit.inBlock, Exit.then])
      refine bodyPost_end (results_none rfl _ _ _) rfl ?_
      exact ⟨rfl, hp3, (Pk.of_below HB.out hb).trans hk3⟩
set_option maxHeartbeats 8000000 in
set_option maxRecDepth 100000 in
theorem lines_calls (B b : Nat) (l x : List Int) (A : Option Addr) (c : Nat) (w : World) (h : Pg B b l w) (hBw : B ≤ w.heap.size) (hx : Kd.C B8 w A x.length x) (hA : x ≠ [] → ∀ a, A = some a → a.block ≠ b) (hlim : l.length + x.length + 1 ≤ 140737488355328) :
    Calls Tryd.prog 37 #[.pointer (some ⟨b, 0, none⟩), .slice A x.length c] w fun e w' => e = .returned (.tuple #[]) ∧ Pg B b (endNl (l ++ x)) w' ∧ Pk B b w w' := by
  have H := Aside0.mk h; have HB := Aside0.mk hBw; have HL := Aside0.mk hlim; have HX := Aside0.mk hx; have HA := Aside0.mk hA
  clear h hBw hlim hx hA
  go_enter Tryd.func37, Tryd.ntmps37
  go_wp2_with (first | (go_at_call 34; refine (pg_write B b l x A c w H.out HB.out HX.out HA.out (by have := HL.out; omega)).mono ?_; rintro e w1 ⟨rfl, hp1, hk1⟩) | (go_at_call 35; refine (shut_calls B b (l ++ x) w1 hp1 (Nat.le_trans HB.out hk1.size) (by have := HL.out; simp; omega)).mono ?_; rintro e w2 ⟨rfl, hp2, hk2⟩))
  (try simp only [Exit.inBlock, Exit.then])
  refine bodyPost_end (results_none rfl _ _ _) rfl ?_
  exact ⟨rfl, hp2, hk1.trans hk2⟩
set_option maxHeartbeats 8000000 in
set_option maxRecDepth 100000 in
/-- bytes.Clone. -/
theorem bclone_calls (A : Option Addr) (c : Nat) (xs : List Int) (w : World) (hl : xs.length ≤ 140737488355328) (hr : Kd.C B8 w A xs.length xs) :
    Calls Tryd.prog 56 #[.slice A xs.length c] w fun e w' => ∃ A' c', e = .returned (.slice A' xs.length c') ∧ xs.length ≤ c' ∧ Kd.C B8 w' A' xs.length xs ∧ Below w.heap.size w w' := by
  obtain ⟨i0, hi, hz0, hz1, hz2⟩ := info_parts inf5
  have q22 : ∀ (w : World) (a : Option Addr) (n c n' c' : Nat), (binOp .eql 22 (.slice a n c) (.slice none n' c')).run Tryd.prog w = .ok (.bool a.isNone) w := fun w a n c n' c' => Lib.run_eql_slice_nil w _ _ a n c n' c' Tryd.underlying22
  have HR := Aside0.mk hr
  have HL := Aside0.mk hl
  clear hr hl
  cases A with
  | none =>
    have hx0 : xs = [] := by
      cases xs with
      | nil => rfl
      | cons y r => obtain ⟨a, ha, _⟩ := HR.out.2.2 (by simp); cases ha
    subst hx0
    go_enter Tryd.func56, Tryd.ntmps56
    go_wp2
    go_ret
    exact ⟨none, 0, rfl, Nat.le_refl _, HR.out, Below.refl _ _⟩
  | some ad =>
    go_enter Tryd.func56, Tryd.ntmps56
    go_wp2_with (at_builtin; refine wpList_append_own _ rfl _ _ 22 rfl w.heap.size 5 i0 (.int .u8 0) 1 1 Tryd.underlying22 hi hz0 hz1 hz2 rfl (by decide) _ _ _ rfl (World.ownsRow_made w #[] 0 (Nat.le_refl _) (Nat.zero_le _) rfl) ad xs.length c (xs.map (Value.int .u8)) rfl ?qc1 ?qc2 ?qc3 ?qc4 ?qc5 ?qc6 ?_)
    case qc1 => simp
    case qc2 =>
      intro j u hj
      have hjl : j < xs.length := by
        have := (List.getElem?_eq_some_iff.1 hj).1
        simpa using this
      refine Lib.cell?_alloc_some _ ?_
      obtain ⟨ad', he, hc⟩ := Kd.at_int HR.out (j : Int) (by omega) (by omega)
      injection he with he
      subst he
      simp only [Int.toNat_natCast] at hc
      rw [hc, ← hj]
      simp [rd, List.getD_eq_getElem?_getD, List.getElem?_eq_getElem hjl]
    case qc3 => intro u hu; obtain ⟨x, _, rfl⟩ := List.mem_map.1 hu; rfl
    case qc4 => have := HL.out; unfold maxLen; omega
    case qc5 => have := HL.out; omega
    case qc6 => simp
    intro v' w1 hown hgrow hnil
    have hB := Aside0.mk (((Below.refl _ w).alloc (Nat.le_refl _) _).grown hgrow (by simp) (by intro k hk; simp [Value.ownBlock] at hk; omega))
    obtain ⟨A', c', rfl, hc', hF⟩ := ownF_F (w := w1) (Z := fun _ => True) (v := v') (xs := xs) ⟨fun _ _ => trivial, by have := own_weaken hown (Nat.zero_le _); simpa [us8] using this⟩
    replace hF := Aside0.mk hF
    clear hown hgrow hnil
    go_wp2
    go_ret
    exact ⟨A', c', rfl, hc', Kd.F_now hF.out, hB.out⟩
set_option maxHeartbeats 8000000 in
set_option maxRecDepth 100000 in
theorem out_calls (B b : Nat) (l : List Int) (w : World) (h : Pg B b l w) (hlim : l.length ≤ 140737488355328) :
    Calls Tryd.prog 38 #[.pointer (some ⟨b, 0, none⟩)] w fun e w' => ∃ A' c', e = .returned (.slice A' l.length c') ∧ l.length ≤ c' ∧ Kd.C B8 w' A' l.length l ∧ Below w.heap.size w w' := by
  have H := Aside0.mk h; have HL := Aside0.mk hlim
  clear h hlim
  go_enter Tryd.func38, Tryd.ntmps38
  go_wp2_with (first | (go_at_call 52; refine (pg_bytes B b l w H.out).mono ?_; rintro e w1 ⟨A, c, rfl, hc, hC, hb1⟩; replace hC := Aside0.mk hC) | (go_at_call 56; refine (bclone_calls A c l w1 HL.out hC.out).mono ?_; rintro e w2 ⟨A2, c2, rfl, hc2, hC2, hb2⟩; have HH := Aside0.mk (⟨hc2, hC2, hb1.trans (below_lo hb2 hb1.size)⟩ : _ ∧ _ ∧ _); clear hc2 hC2 hc))
  go_ret
  exact ⟨A2, c2, rfl, HH.out.1, HH.out.2.1, HH.out.2.2⟩
def repB (x : UInt8) (n : Nat) : ByteArray := ⟨(List.replicate n x).toArray⟩
theorem sb_rep (x : UInt8) (n : Nat) : sb (repB x n) = List.replicate n (bnum x) := by simp [sb, repB]
theorem sb_app (a b : ByteArray) : sb (a ++ b) = sb a ++ sb b := by simp [sb]
/-- A marker's line. -/
def mkLine (x : UInt8) (n : Nat) (s : ByteArray) : List Int := List.replicate n (bnum x) ++ (if labB s = ⟨#[]⟩ then [] else 32 :: sb (labB s)) ++ [10]
theorem labB_size (s : ByteArray) : (labB s).size ≤ 200 := by
  show (Lib.trimRightB ((s.data.toList.take 200).map fixC) 32).toArray.size ≤ 200
  have h1 : ∀ (l : List UInt8) (c : UInt8), (Lib.trimRightB l c).length ≤ l.length := fun l c => by
    unfold Lib.trimRightB
    rw [List.length_reverse]
    exact Nat.le_trans (List.dropWhile_sublist _).length_le (by simp)
  rw [List.size_toArray]
  refine Nat.le_trans (h1 _ _) ?_
  rw [List.length_map, List.length_take]
  omega
set_option maxHeartbeats 8000000 in
set_option maxRecDepth 100000 in
theorem marker_calls (B pb : Nat) (l : List Int) (x : UInt8) (n : Nat) (s : ByteArray) (w : World) (h : Pg B pb l w) (hBw : B ≤ w.heap.size) (hn : n ≤ 16777216) (hs : s.size ≤ 9223372036854775807) (hlim : l.length + n + 300 ≤ 140737488355328) :
    Calls Tryd.prog 36 #[.pointer (some ⟨pb, 0, none⟩), .string ⟨#[x]⟩, .int .i64 (n : Int), .string s] w fun e w' => e = .returned (.tuple #[]) ∧ Pg B pb (l ++ mkLine x n s) w' ∧ Pk B pb w w' := by
  have hln : (sb (repB x n)).length = n := by rw [sb_rep, List.length_replicate]
  have hsz := labB_size s
  obtain ⟨t, ht⟩ : ∃ t, labB s = t := ⟨_, rfl⟩
  rw [ht] at hsz
  have hml : mkLine x n s = sb (repB x n) ++ (if t = ⟨#[]⟩ then [] else 32 :: sb t) ++ [10] := by unfold mkLine; rw [sb_rep, ht]
  rw [hml]
  have hrs : (repB x n).size = n := by rw [← sb_len]; exact hln
  have H := Aside0.mk h; have HB := Aside0.mk hBw; have HL := Aside0.mk hlim; have HN := Aside0.mk hn; have HS := Aside0.mk hs; have HT := Aside0.mk ht; have HLN := Aside0.mk hln; have HSZ := Aside0.mk hsz; have HRS := Aside0.mk hrs
  clear h hBw hlim hn hs ht hml hln hrs
  obtain ⟨RB, hRB⟩ : ∃ RB, RB = repB x n := ⟨_, rfl⟩
  rw [← hRB] at HLN HRS ⊢
  replace hRB := Aside0.mk hRB
  by_cases ht0 : t = ⟨#[]⟩
  · rw [if_pos ht0]
    subst ht0
    go_enter Tryd.func36, Tryd.ntmps36
    go_wp2
    have E := trivial
    refine start_ (n := 7) (S := fun w' => True) (ds := []) #[false, false, false, false, false, false, false] (by kernel_rfl) rfl rfl trivial (fun hHeld => ?_)
    refine with_tabW mmark.tab0 mmark.bits0 (fun HT_ HW_ => ?_)
    have H1 : Aside0 (Pg B pb l w.drew) := ⟨H.out.below (below_drew1 (Below.refl _ _))⟩
    have HB1 : Aside0 (B ≤ w.drew.heap.size) := ⟨HB.out⟩
    have HK1 : Aside0 (Pk B pb w w.drew) := ⟨Pk.of_below HB.out (below_drew1 (Below.refl _ _))⟩
    generalize w.drew = wd at H1 HB1 HK1 hHeld ⊢
    refine pure_ (i := 0) (N := some 9) (v := ?_) (a' := ?_) #[true, false, false, false, false, false, false] rfl rfl (any_of HT_.out (by kernel_rfl)) (fun _ _ _ h => h) (Or.inl ⟨by rfl, ?_⟩) ?_ ?_
    rotate_left
    · intro w'
      go_simp
      with_reducible rfl
    rotate_left
    · simp only [Act.put, List.setIfInBounds_toArray, List.set_cons_zero, List.set_cons_succ, i64_w, i32_w]
      rfl
    refine pure_ (i := 1) (N := some 10) (v := ?_) (a' := ?_) #[true, true, false, false, false, false, false] rfl rfl (any_of HT_.out (by kernel_rfl)) (fun _ _ _ h => h) (Or.inl ⟨by rfl, ?_⟩) ?_ ?_
    rotate_left
    · intro w'
      go_simp
      with_reducible rfl
    rotate_left
    · simp only [Act.put, List.setIfInBounds_toArray, List.set_cons_zero, List.set_cons_succ, i64_w, i32_w]
      rfl
    refine pure_ (i := 2) (N := some 11) (v := ?_) (a' := ?_) #[true, true, true, false, false, false, false] rfl rfl (any_of HT_.out (by kernel_rfl)) (fun _ _ _ h => h) (Or.inl ⟨by rfl, ?_⟩) ?_ ?_
    rotate_left
    · intro w'
      go_simp
      with_reducible rfl
    rotate_left
    · simp only [Act.put, List.setIfInBounds_toArray, List.set_cons_zero, List.set_cons_succ, i64_w, i32_w]
      rfl
    refine pure_ (i := 3) (N := some 12) (v := ?_) (a' := ?_) #[true, true, true, true, false, false, false] rfl rfl (any_of HT_.out (by kernel_rfl)) (fun _ _ _ h => h) (Or.inl ⟨by rfl, ?_⟩) ?_ ?_
    rotate_left
    · intro w'
      go_simp
      with_reducible rfl
    rotate_left
    · simp only [Act.put, List.setIfInBounds_toArray, List.set_cons_zero, List.set_cons_succ, i64_w, i32_w]
      rfl
    refine pure_ (i := 4) (N := some 13) (v := ?_) (a' := ?_) #[true, true, true, true, true, false, false] rfl rfl (any_of HT_.out (by kernel_rfl)) (fun _ _ _ h => h) (Or.inl ⟨by rfl, ?_⟩) ?_ ?_
    rotate_left
    · intro w'
      go_simp
      with_reducible rfl
    rotate_left
    · simp only [Act.put, List.setIfInBounds_toArray, List.set_cons_zero, List.set_cons_succ, i64_w, i32_w]
      rfl
    refine inv_at [5, 6] (fun a0_ b a w' => a = putSel a0_ b [(5, 14, .string RB), (6, 15, .tuple #[.int .i64 (RB.size : Int), .nilIface])] ∧ (b 6 = false → Below wd.heap.size wd w') ∧ (b 6 = true → Pg B pb (l ++ sb RB) w' ∧ Pk B pb w w')) HT_.out HW_.out (by kernel_rfl) (by kernel_rfl) ?_ ?_ ?_
    · exact ⟨by simp only [putSel, Bool.false_eq_true, if_false], fun _ => Below.refl _ _, fun h_ => absurd h_ (by decide)⟩
    · skip
      clear E
      refine steps_cons ?_ ?_
      · rintro b a w' ⟨ha, Q_E, Q_F⟩ hb_ hon hoff
        refine ⟨_, rfl, fun K hK => ?_⟩
        have e12 : a.tmps[12]? = some (.string ⟨#[x]⟩) := by rw [ha]; exact (putSel_off rfl).trans rfl
        have e13 : a.tmps[13]? = some (.int .i64 (n : Int)) := by rw [ha]; exact (putSel_off rfl).trans rfl
        replace ha := Aside0.mk ha
        have E := Aside0.mk (Q_E (hoff 6 (by kernel_rfl)))
        refine goes_ Tryd.func55 (by kernel_rfl) rfl #[.string ⟨#[x]⟩, .int .i64 (n : Int)] (by rfl) rfl rfl (by first | (simp only [List.map_toArray, List.map_cons, List.map_nil, Act.eval, Array.getD_eq_getD_getElem?, Option.getD_some, e12, e13]; done) | (simp only [List.map_toArray, List.map_cons, List.map_nil, Act.eval, Array.getD_eq_getD_getElem?, Option.getD_some, e12, e13]; rfl)) ?_
        refine (rep_calls x n _ HN.out).mono ?_
        rw [show (⟨(List.replicate n x).toArray⟩ : ByteArray) = RB from hRB.out.symm]
        rintro e w24 ⟨rfl, hb⟩
        refine ⟨_, rfl, ?_⟩
        have E3_ := E.out.trans (below_lo hb E.out.size)
        refine hK.out _ _ ⟨(by rw [ha.out]; exact putSel_upk 0 hb_ rfl rfl rfl), fun _ => E3_, fun h0_ => absurd ((hoff 6 (by kernel_rfl)).symm.trans h0_) (by decide)⟩
      refine steps_cons ?_ ?_
      · rintro b a w' ⟨ha, Q_E, Q_F⟩ hb_ hon hoff
        refine ⟨_, rfl, fun K hK => ?_⟩
        have e11 : a.tmps[11]? = some (.pointer (some ⟨pb, 0, none⟩)) := by rw [ha]; exact (putSel_off rfl).trans rfl
        have e14 : a.tmps[14]? = some (.string RB) := by rw [ha]; exact putSel_on (e := (5, 14, .string RB)) 0 rfl rfl (hon 5 (by kernel_rfl)) rfl
        replace ha := Aside0.mk ha
        have E := Aside0.mk (Q_E hb_)
        refine goes_ Tryd.func54 (by kernel_rfl) rfl #[.pointer (some ⟨pb, 0, none⟩), .string RB] (by rfl) rfl rfl (by first | (simp only [List.map_toArray, List.map_cons, List.map_nil, Act.eval, Array.getD_eq_getD_getElem?, Option.getD_some, e11, e14]; done) | (simp only [List.map_toArray, List.map_cons, List.map_nil, Act.eval, Array.getD_eq_getD_getElem?, Option.getD_some, e11, e14]; rfl)) ?_
        refine (pg_str B pb l RB _ (H1.out.below E.out) (Nat.le_trans HB1.out E.out.size) (by have := HL.out; have := HRS.out; omega)).mono ?_
        rintro e w24 ⟨rfl, hp, hk⟩
        refine ⟨_, rfl, ?_⟩
        have E3_ := And.intro hp (HK1.out.trans ((Pk.of_below HB1.out E.out).trans hk))
        refine hK.out _ _ ⟨(by rw [ha.out]; exact putSel_upk 1 hb_ rfl rfl rfl), fun h0_ => absurd ((up_self b 6).symm.trans h0_) (by decide), fun _ => E3_⟩
      exact steps_nil
    · rintro b a w' hall ⟨ha, Q_E, Q_F⟩
      clear E
      have hb5_ := hall 5 (by kernel_rfl)
      have hb6_ := hall 6 (by kernel_rfl)
      subst ha
      simp only [putSel, hb5_, hb6_, if_true, Act.put, List.setIfInBounds_toArray, List.set_cons_zero, List.set_cons_succ]
      clear Q_E
      have F := Aside0.mk (Q_F hb6_)
      clear Q_F
      clear hall hb5_ hb6_
      go_wp2_with (first | (go_at_call 14; refine (Label_calls s w' HS.out).mono ?_; rw [HT.out]; rintro e w3 ⟨rfl, hb3⟩; have hP3 := F.out.1.below hb3; have hK3 := F.out.2.below (Nat.le_trans HB.out F.out.2.size) hb3) | (go_at_call 53; refine (pg_byte B pb (l ++ sb RB) 10 w3 hP3 (Nat.le_trans HB.out hK3.size) (by have := HL.out; have := HLN.out; simp; omega)).mono ?_; rintro e w4 ⟨rfl, hP4, hK4⟩))
      (try simp only [Exit.inBlock, Exit.then])
      refine bodyPost_end (results_none rfl _ _ _) rfl ?_
      exact ⟨rfl, by simpa using hP4, hK3.trans hK4⟩
  · rw [if_neg ht0]
    have hbne := eq_false ht0
    have hti : t.toList.isEmpty = false := by
      rw [Lib.toList_data, Bool.eq_false_iff]
      intro h_
      apply ht0
      have h2_ := List.isEmpty_iff.1 h_
      cases t with | mk d => congr 1; cases d with | mk dl => simp at h2_; rw [h2_]
    have hsl : (9223372036854775807 < 1 + t.size) = False := eq_false (by have := HSZ.out; omega)
    have hsl2 : (9223372036854775807 < t.size + 1) = False := eq_false (by have := HSZ.out; omega)
    go_enter Tryd.func36, Tryd.ntmps36
    go_wp2
    have E := trivial
    refine start_ (n := 7) (S := fun w' => True) (ds := []) #[false, false, false, false, false, false, false] (by kernel_rfl) rfl rfl trivial (fun hHeld => ?_)
    refine with_tabW mmark.tab0 mmark.bits0 (fun HT_ HW_ => ?_)
    have H1 : Aside0 (Pg B pb l w.drew) := ⟨H.out.below (below_drew1 (Below.refl _ _))⟩
    have HB1 : Aside0 (B ≤ w.drew.heap.size) := ⟨HB.out⟩
    have HK1 : Aside0 (Pk B pb w w.drew) := ⟨Pk.of_below HB.out (below_drew1 (Below.refl _ _))⟩
    generalize w.drew = wd at H1 HB1 HK1 hHeld ⊢
    refine pure_ (i := 0) (N := some 9) (v := ?_) (a' := ?_) #[true, false, false, false, false, false, false] rfl rfl (any_of HT_.out (by kernel_rfl)) (fun _ _ _ h => h) (Or.inl ⟨by rfl, ?_⟩) ?_ ?_
    rotate_left
    · intro w'
      go_simp
      with_reducible rfl
    rotate_left
    · simp only [Act.put, List.setIfInBounds_toArray, List.set_cons_zero, List.set_cons_succ, i64_w, i32_w]
      rfl
    refine pure_ (i := 1) (N := some 10) (v := ?_) (a' := ?_) #[true, true, false, false, false, false, false] rfl rfl (any_of HT_.out (by kernel_rfl)) (fun _ _ _ h => h) (Or.inl ⟨by rfl, ?_⟩) ?_ ?_
    rotate_left
    · intro w'
      go_simp
      with_reducible rfl
    rotate_left
    · simp only [Act.put, List.setIfInBounds_toArray, List.set_cons_zero, List.set_cons_succ, i64_w, i32_w]
      rfl
    refine pure_ (i := 2) (N := some 11) (v := ?_) (a' := ?_) #[true, true, true, false, false, false, false] rfl rfl (any_of HT_.out (by kernel_rfl)) (fun _ _ _ h => h) (Or.inl ⟨by rfl, ?_⟩) ?_ ?_
    rotate_left
    · intro w'
      go_simp
      with_reducible rfl
    rotate_left
    · simp only [Act.put, List.setIfInBounds_toArray, List.set_cons_zero, List.set_cons_succ, i64_w, i32_w]
      rfl
    refine pure_ (i := 3) (N := some 12) (v := ?_) (a' := ?_) #[true, true, true, true, false, false, false] rfl rfl (any_of HT_.out (by kernel_rfl)) (fun _ _ _ h => h) (Or.inl ⟨by rfl, ?_⟩) ?_ ?_
    rotate_left
    · intro w'
      go_simp
      with_reducible rfl
    rotate_left
    · simp only [Act.put, List.setIfInBounds_toArray, List.set_cons_zero, List.set_cons_succ, i64_w, i32_w]
      rfl
    refine pure_ (i := 4) (N := some 13) (v := ?_) (a' := ?_) #[true, true, true, true, true, false, false] rfl rfl (any_of HT_.out (by kernel_rfl)) (fun _ _ _ h => h) (Or.inl ⟨by rfl, ?_⟩) ?_ ?_
    rotate_left
    · intro w'
      go_simp
      with_reducible rfl
    rotate_left
    · simp only [Act.put, List.setIfInBounds_toArray, List.set_cons_zero, List.set_cons_succ, i64_w, i32_w]
      rfl
    refine inv_at [5, 6] (fun a0_ b a w' => a = putSel a0_ b [(5, 14, .string RB), (6, 15, .tuple #[.int .i64 (RB.size : Int), .nilIface])] ∧ (b 6 = false → Below wd.heap.size wd w') ∧ (b 6 = true → Pg B pb (l ++ sb RB) w' ∧ Pk B pb w w')) HT_.out HW_.out (by kernel_rfl) (by kernel_rfl) ?_ ?_ ?_
    · exact ⟨by simp only [putSel, Bool.false_eq_true, if_false], fun _ => Below.refl _ _, fun h_ => absurd h_ (by decide)⟩
    · skip
      clear E
      refine steps_cons ?_ ?_
      · rintro b a w' ⟨ha, Q_E, Q_F⟩ hb_ hon hoff
        refine ⟨_, rfl, fun K hK => ?_⟩
        have e12 : a.tmps[12]? = some (.string ⟨#[x]⟩) := by rw [ha]; exact (putSel_off rfl).trans rfl
        have e13 : a.tmps[13]? = some (.int .i64 (n : Int)) := by rw [ha]; exact (putSel_off rfl).trans rfl
        replace ha := Aside0.mk ha
        have E := Aside0.mk (Q_E (hoff 6 (by kernel_rfl)))
        refine goes_ Tryd.func55 (by kernel_rfl) rfl #[.string ⟨#[x]⟩, .int .i64 (n : Int)] (by rfl) rfl rfl (by first | (simp only [List.map_toArray, List.map_cons, List.map_nil, Act.eval, Array.getD_eq_getD_getElem?, Option.getD_some, e12, e13]; done) | (simp only [List.map_toArray, List.map_cons, List.map_nil, Act.eval, Array.getD_eq_getD_getElem?, Option.getD_some, e12, e13]; rfl)) ?_
        refine (rep_calls x n _ HN.out).mono ?_
        rw [show (⟨(List.replicate n x).toArray⟩ : ByteArray) = RB from hRB.out.symm]
        rintro e w24 ⟨rfl, hb⟩
        refine ⟨_, rfl, ?_⟩
        have E3_ := E.out.trans (below_lo hb E.out.size)
        refine hK.out _ _ ⟨(by rw [ha.out]; exact putSel_upk 0 hb_ rfl rfl rfl), fun _ => E3_, fun h0_ => absurd ((hoff 6 (by kernel_rfl)).symm.trans h0_) (by decide)⟩
      refine steps_cons ?_ ?_
      · rintro b a w' ⟨ha, Q_E, Q_F⟩ hb_ hon hoff
        refine ⟨_, rfl, fun K hK => ?_⟩
        have e11 : a.tmps[11]? = some (.pointer (some ⟨pb, 0, none⟩)) := by rw [ha]; exact (putSel_off rfl).trans rfl
        have e14 : a.tmps[14]? = some (.string RB) := by rw [ha]; exact putSel_on (e := (5, 14, .string RB)) 0 rfl rfl (hon 5 (by kernel_rfl)) rfl
        replace ha := Aside0.mk ha
        have E := Aside0.mk (Q_E hb_)
        refine goes_ Tryd.func54 (by kernel_rfl) rfl #[.pointer (some ⟨pb, 0, none⟩), .string RB] (by rfl) rfl rfl (by first | (simp only [List.map_toArray, List.map_cons, List.map_nil, Act.eval, Array.getD_eq_getD_getElem?, Option.getD_some, e11, e14]; done) | (simp only [List.map_toArray, List.map_cons, List.map_nil, Act.eval, Array.getD_eq_getD_getElem?, Option.getD_some, e11, e14]; rfl)) ?_
        refine (pg_str B pb l RB _ (H1.out.below E.out) (Nat.le_trans HB1.out E.out.size) (by have := HL.out; have := HRS.out; omega)).mono ?_
        rintro e w24 ⟨rfl, hp, hk⟩
        refine ⟨_, rfl, ?_⟩
        have E3_ := And.intro hp (HK1.out.trans ((Pk.of_below HB1.out E.out).trans hk))
        refine hK.out _ _ ⟨(by rw [ha.out]; exact putSel_upk 1 hb_ rfl rfl rfl), fun h0_ => absurd ((up_self b 6).symm.trans h0_) (by decide), fun _ => E3_⟩
      exact steps_nil
    · rintro b a w' hall ⟨ha, Q_E, Q_F⟩
      clear E
      have hb5_ := hall 5 (by kernel_rfl)
      have hb6_ := hall 6 (by kernel_rfl)
      subst ha
      simp only [putSel, hb5_, hb6_, if_true, Act.put, List.setIfInBounds_toArray, List.set_cons_zero, List.set_cons_succ]
      clear Q_E
      have F := Aside0.mk (Q_F hb6_)
      clear Q_F
      clear hall hb5_ hb6_
      go_wp2_with (first | (go_at_call 14; refine (Label_calls s w' HS.out).mono ?_; rw [HT.out]; rintro e w3 ⟨rfl, hb3⟩; have hP3 := F.out.1.below hb3; have hK3 := F.out.2.below (Nat.le_trans HB.out F.out.2.size) hb3) | (go_at_call 54; go_loud (refine (pg_str B pb (l ++ sb RB) _ w3 hP3 (Nat.le_trans HB.out hK3.size) (by have := HL.out; have := HLN.out; have := HSZ.out; have h32_ : (⟨#[32]⟩ : ByteArray).size = 1 := rfl; simp; omega)).mono ?_; rintro e w4 ⟨rfl, hP4, hK4⟩)) | (go_at_call 53; refine (pg_byte B pb _ 10 w4 hP4 (Nat.le_trans HB.out (Nat.le_trans hK3.size hK4.size)) (by have := HL.out; have := HLN.out; have := HSZ.out; have h32_ : (⟨#[32]⟩ : ByteArray).size = 1 := rfl; simp [sb_len]; have := HRS.out; omega)).mono ?_; rintro e w5 ⟨rfl, hP5, hK5⟩))
      (try simp only [Exit.inBlock, Exit.then])
      refine bodyPost_end (results_none rfl _ _ _) rfl ?_
      refine ⟨rfl, ?_, (hK3.trans hK4).trans hK5⟩
      rw [sb_app] at hP5
      have e32 : sb ⟨#[32]⟩ = [32] := rfl
      rw [e32] at hP5
      simpa using hP5
end Go.Proofs.YtnnnbeimehfiiaaDoor.Q

/-! mark.Write in plain Lean; what the walk needs of it. -/
set_option linter.unusedVariables false
set_option linter.unusedSimpArgs false
namespace Go.Proofs.YtnnnbeimehfiiaaDoor.Q
open Go Go.RowKit Go.Proofs.YtnnnbeimehfiiaaDoorW.PrintWords Go.Proofs.YtnnnbeimehfiiaaDoorW.SL
def wrReg (n : Nat) (s0 s1 s2 : ByteArray) (acc : List Int) (p : Pt) : List Int :=
  endNl (endNl (endNl (acc ++ mkLine 60 n s0 ++ p.s0) ++ mkLine 124 n s1 ++ p.s1) ++ mkLine 61 n ⟨#[]⟩ ++ p.s2) ++ mkLine 62 n s2
def wrPart (n : Nat) (s0 s1 s2 : ByteArray) (last : Bool) (acc : List Int) (p : Pt) : List Int :=
  if p.region then wrReg n s0 s1 s2 acc p else if last then acc ++ p.text else endNl (acc ++ p.text)
def wrAll (n : Nat) (s0 s1 s2 : ByteArray) : List Pt → List Int → List Int
  | [], acc => acc
  | p :: r, acc => wrAll n s0 s1 s2 r (wrPart n s0 s1 s2 r.isEmpty acc p)
def writeOf (n : Int) (s0 s1 s2 : ByteArray) (ps : List Pt) : List Int × Int :=
  if n ≥ 1 ∧ n ≤ 16777216 then (wrAll n.toNat s0 s1 s2 ps [], 0) else ([], 1)
theorem endNl_le (l : List Int) : (endNl l).length ≤ l.length + 1 := by
  rcases List.eq_nil_or_concat l with rfl | ⟨r, x, h⟩
  · simp [endNl_nil]
  · have h2 : l = r ++ [x] := by simpa using h
    subst h2
    rw [endNl_snoc]
    split <;> simp
theorem mkLine_le (x : UInt8) (n : Nat) (s : ByteArray) : (mkLine x n s).length ≤ n + 202 := by
  have h1 := labB_size s
  have h2 := sb_len (labB s)
  unfold mkLine
  split <;> simp <;> omega
theorem wrAll_next {n : Nat} {s0 s1 s2 : ByteArray} {ps : List Pt} {i : Nat} {p : Pt} {acc R : List Int} (h : wrAll n s0 s1 s2 (ps.drop i) acc = R) (hp : ps[i]? = some p) : wrAll n s0 s1 s2 (ps.drop (i + 1)) (wrPart n s0 s1 s2 (decide (i + 1 = ps.length)) acc p) = R := by
  have hlt := (List.getElem?_eq_some_iff.1 hp).1
  have hpe := (List.getElem?_eq_some_iff.1 hp).2
  rw [List.drop_eq_getElem_cons hlt, hpe] at h
  rw [← h]
  show _ = wrAll n s0 s1 s2 (ps.drop (i + 1)) (wrPart n s0 s1 s2 (ps.drop (i + 1)).isEmpty acc p)
  congr 2
  by_cases hi : i + 1 = ps.length
  · rw [List.drop_of_length_le (by omega)]; simp [hi]
  · have : ps.drop (i + 1) ≠ [] := by intro h; have := congrArg List.length h; simp at this; omega
    cases hd : ps.drop (i + 1) with
    | nil => exact absurd hd this
    | cons a r => simp [hi]
/-- The box of the part in hand: five cells. -/
def BoxP (g : Nat) (cs : Array Value) (w : World) : Prop := w.heap[g]? = some (.cells cs 50 (0, 0))
theorem BoxP.keep {g : Nat} {cs : Array Value} {w w' : World} (h : BoxP g cs w) (hb : Below w.heap.size w w') : BoxP g cs w' := by
  unfold BoxP at *
  rw [hb.block g (Array.getElem?_eq_some_iff.1 h).1]; exact h
theorem BoxP.pk {g B pb : Nat} {cs : Array Value} {w w' : World} (h : BoxP g cs w) (hg : g ≠ pb) (hk : Pk B pb w w') : BoxP g cs w' :=
  hk.2 g _ h (by intro e; injection e with e; exact hg e) (by intro c fz e; injection e with _ e _; exact absurd e (by decide))
theorem BoxP.cells {g : Nat} {a b c d e : Value} {w : World} (h : BoxP g #[a, b, c, d, e] w) : w.cell? ⟨g, 0, none⟩ = some a ∧ w.cell? ⟨g, 1, none⟩ = some b ∧ w.cell? ⟨g, 2, none⟩ = some c ∧ w.cell? ⟨g, 3, none⟩ = some d ∧ w.cell? ⟨g, 4, none⟩ = some e :=
  ⟨(blk_cell h 0).trans rfl, (blk_cell h 1).trans rfl, (blk_cell h 2).trans rfl, (blk_cell h 3).trans rfl, (blk_cell h 4).trans rfl⟩
theorem row_apart {w : World} {A : Option Addr} {xs : List Int} {m pb : Nat} (h : Kd.F B8 w (fun k => k < m) A xs.length xs) (hm : m ≤ pb) : xs ≠ [] → ∀ a, A = some a → a.block ≠ pb := by
  intro hx a ha
  subst ha
  have hl : 0 < xs.length := by cases xs with | nil => exact absurd rfl hx | cons _ _ => simp
  obtain ⟨a', cs, e, _, _, _, hok⟩ := Kd.F_get h 0 (0 : Int) (by omega) (by omega)
  injection e with e
  subst e
  have := hok (by decide)
  omega
/-- A page with a bound of its length. -/
def Pq (pb m : Nat) (l : List Int) (w : World) : Prop := Pg pb pb l w ∧ pb ≤ w.heap.size ∧ l.length ≤ m
theorem marker_st {pb m : Nat} {l : List Int} {w : World} (h : Pq pb m l w) (x : UInt8) (n : Nat) (s : ByteArray) (hn : n ≤ 16777216) (hs : s.size ≤ 9223372036854775807) (hm : m + 16777600 ≤ 140737488355328) :
    Calls Tryd.prog 36 #[.pointer (some ⟨pb, 0, none⟩), .string ⟨#[x]⟩, .int .i64 (n : Int), .string s] w fun e w' => e = .returned (.tuple #[]) ∧ Pq pb (m + 16777418) (l ++ mkLine x n s) w' ∧ Pk pb pb w w' := by
  refine (marker_calls pb pb l x n s w h.1 h.2.1 hn hs (by have := h.2.2; omega)).mono ?_
  rintro e w' ⟨rfl, h1, h2⟩
  exact ⟨rfl, ⟨h1, Nat.le_trans h.2.1 h2.size, by have := h.2.2; have := mkLine_le x n s; simp; omega⟩, h2⟩
theorem lines_st {pb m : Nat} {l : List Int} {w : World} (h : Pq pb m l w) (x : List Int) (A : Option Addr) (c : Nat) (hx : Kd.C B8 w A x.length x) (hA : x ≠ [] → ∀ a, A = some a → a.block ≠ pb) (hl : x.length ≤ 5000000) (hm : m + 5000001 ≤ 140737488355328) :
    Calls Tryd.prog 37 #[.pointer (some ⟨pb, 0, none⟩), .slice A x.length c] w fun e w' => e = .returned (.tuple #[]) ∧ Pq pb (m + 5000001) (endNl (l ++ x)) w' ∧ Pk pb pb w w' := by
  refine (lines_calls pb pb l x A c w h.1 h.2.1 hx hA (by have := h.2.2; omega)).mono ?_
  rintro e w' ⟨rfl, h1, h2⟩
  exact ⟨rfl, ⟨h1, Nat.le_trans h.2.1 h2.size, by have := h.2.2; have := endNl_le (l ++ x); simp at this ⊢; omega⟩, h2⟩
theorem write_st {pb m : Nat} {l : List Int} {w : World} (h : Pq pb m l w) (x : List Int) (A : Option Addr) (c : Nat) (hx : Kd.C B8 w A x.length x) (hA : x ≠ [] → ∀ a, A = some a → a.block ≠ pb) (hl : x.length ≤ 5000000) (hm : m + 5000001 ≤ 140737488355328) :
    Calls Tryd.prog 34 #[.pointer (some ⟨pb, 0, none⟩), .slice A x.length c] w fun e w' => e = .returned (.tuple #[.int .i64 (x.length : Int), .nilIface]) ∧ Pq pb (m + 5000001) (l ++ x) w' ∧ Pk pb pb w w' := by
  refine (pg_write pb pb l x A c w h.1 h.2.1 hx hA (by have := h.2.2; omega)).mono ?_
  rintro e w' ⟨rfl, h1, h2⟩
  exact ⟨rfl, ⟨h1, Nat.le_trans h.2.1 h2.size, by have := h.2.2; simp; omega⟩, h2⟩
theorem shut_st {pb m : Nat} {l : List Int} {w : World} (h : Pq pb m l w) (hm : m + 5000001 ≤ 140737488355328) :
    Calls Tryd.prog 35 #[.pointer (some ⟨pb, 0, none⟩)] w fun e w' => e = .returned (.tuple #[]) ∧ Pq pb (m + 1) (endNl l) w' ∧ Pk pb pb w w' := by
  refine (shut_calls pb pb l w h.1 h.2.1 (by have := h.2.2; omega)).mono ?_
  rintro e w' ⟨rfl, h1, h2⟩
  exact ⟨rfl, ⟨h1, Nat.le_trans h.2.1 h2.size, by have := h.2.2; have := endNl_le l; omega⟩, h2⟩
/-- What a round reads: the labels, the part in hand, the part's rows. -/
structure Rd3 (w wA w1 : World) (pb lb g : Nat) (s0 s1 s2 : ByteArray) (p : Pt) (A1 A2 A3 A4 : Option Addr) (c1 c2 c3 c4 : Nat) (W : World) : Prop where
  l0 : W.cell? ⟨lb, 0, none⟩ = some (.string s0)
  l1 : W.cell? ⟨lb, 1, none⟩ = some (.string s1)
  l2 : W.cell? ⟨lb, 2, none⟩ = some (.string s2)
  b0 : W.cell? ⟨g, 0, none⟩ = some (.bool p.region)
  b1 : W.cell? ⟨g, 1, none⟩ = some (.slice A1 p.text.length c1)
  b2 : W.cell? ⟨g, 2, none⟩ = some (.slice A2 p.s0.length c2)
  b3 : W.cell? ⟨g, 3, none⟩ = some (.slice A3 p.s1.length c3)
  b4 : W.cell? ⟨g, 4, none⟩ = some (.slice A4 p.s2.length c4)
  h1 : Kd.C B8 W A1 p.text.length p.text
  h2 : Kd.C B8 W A2 p.s0.length p.s0
  h3 : Kd.C B8 W A3 p.s1.length p.s1
  h4 : Kd.C B8 W A4 p.s2.length p.s2
  bA : Below pb wA W
theorem Rd3.of {w wA w1 : World} {pb lb g : Nat} {s0 s1 s2 : ByteArray} {p : Pt} {A1 A2 A3 A4 : Option Addr} {c1 c2 c3 c4 : Nat} (hl : wA.heap[lb]? = some (.cells #[.string s0, .string s1, .string s2] 39 (0, 0))) (hlb : lb < pb)
    (hbx : BoxP g #[.bool p.region, .slice A1 p.text.length c1, .slice A2 p.s0.length c2, .slice A3 p.s1.length c3, .slice A4 p.s2.length c4] w1) (hg : g ≠ pb) (hwp : w.heap.size ≤ pb) (h1 : Below pb wA w1)
    (g1 : Kd.F B8 w1 (fun k => k < w.heap.size) A1 p.text.length p.text) (g2 : Kd.F B8 w1 (fun k => k < w.heap.size) A2 p.s0.length p.s0) (g3 : Kd.F B8 w1 (fun k => k < w.heap.size) A3 p.s1.length p.s1) (g4 : Kd.F B8 w1 (fun k => k < w.heap.size) A4 p.s2.length p.s2) :
    ∀ W, Pk pb pb w1 W → Rd3 w wA w1 pb lb g s0 s1 s2 p A1 A2 A3 A4 c1 c2 c3 c4 W := fun W hk => by
  have hW : Below pb wA W := h1.trans hk.1
  have hL := (hW.block lb hlb).trans hl
  have hB := (hbx.pk hg hk).cells
  have st : ∀ k, k < w.heap.size → W.heap[k]? = w1.heap[k]? := fun k hk2 => hk.1.block k (by omega)
  exact ⟨(blk_cell hL 0).trans rfl, (blk_cell hL 1).trans rfl, (blk_cell hL 2).trans rfl, hB.1, hB.2.1, hB.2.2.1, hB.2.2.2.1, hB.2.2.2.2, Kd.F_now (Kd.F_step g1 (fun k hk _ => st k hk)), Kd.F_now (Kd.F_step g2 (fun k hk _ => st k hk)), Kd.F_now (Kd.F_step g3 (fun k hk _ => st k hk)), Kd.F_now (Kd.F_step g4 (fun k hk _ => st k hk)), hW⟩
end Go.Proofs.YtnnnbeimehfiiaaDoor.Q

-- Written by a program of this session (wip/gen_write.py) for this claim; Lean checks it.
/-! mark.Write, walked. -/
set_option linter.unusedVariables false
set_option linter.unusedSimpArgs false
namespace Go.Proofs.YtnnnbeimehfiiaaDoor.Q
open Go Go.RowKit Go.Proofs.YtnnnbeimehfiiaaDoorW.PrintWords Go.Proofs.YtnnnbeimehfiiaaDoorW.PrintLast Go.Proofs.YtnnnbeimehfiiaaDoorW.PrintMore Go.Proofs.YtnnnbeimehfiiaaDoorW.SL
attribute [local go_sem] max2_int min2_int max_two min_two max_three min_three max_four min_four
set_option maxHeartbeats 16000000 in
set_option maxRecDepth 100000 in
theorem Write_calls (n : Int) (s0 s1 s2 : ByteArray) (A : Option Addr) (c : Nat) (ps : List Pt) (w : World) (hr : Kd.C kP w A ps.length ps) (hc : ps.length ≤ c) (hps : ps.length ≤ 1000) (hf : ∀ p ∈ ps, p.text.length ≤ 5000000 ∧ p.s0.length ≤ 5000000 ∧ p.s1.length ≤ 5000000 ∧ p.s2.length ≤ 5000000)
    (hs0 : s0.size ≤ 9223372036854775807) (hs1 : s1.size ≤ 9223372036854775807) (hs2 : s2.size ≤ 9223372036854775807) :
    Calls Tryd.prog 19 #[.int .i64 n, .agg #[.string s0, .string s1, .string s2], .slice A ps.length c] w fun e w' => ∃ (A' : Option Addr) (c' : Nat), e = .returned (.tuple #[.slice A' (writeOf n s0 s1 s2 ps).1.length c', .int .i64 (writeOf n s0 s1 s2 ps).2]) ∧ (writeOf n s0 s1 s2 ps).1.length ≤ c' ∧ Kd.C B8 w' A' (writeOf n s0 s1 s2 ps).1.length (writeOf n s0 s1 s2 ps).1 ∧ Below w.heap.size w w' := by
 have HX := Aside0.mk (Kd.C_F kP_heap hr)
 have HC := Aside0.mk hc; have HPS := Aside0.mk hps; have HF := Aside0.mk hf; have HS0 := Aside0.mk hs0; have HS1 := Aside0.mk hs1; have HS2 := Aside0.mk hs2
 clear hr hc hps hf hs0 hs1 hs2
 by_cases hn : n ≥ 1 ∧ n ≤ 16777216
 · have hright : mark_right.f n = some true := by unfold mark_right.f; rw [if_pos hn.1]; simp [hn.2]
   obtain ⟨N, hN⟩ := Int.eq_ofNat_of_zero_le (by omega : 0 ≤ n)
   have hN1 : 1 ≤ N := by omega
   have hN2 : N ≤ 16777216 := by omega
   have hres : writeOf n s0 s1 s2 ps = (wrAll N s0 s1 s2 ps [], 0) := by unfold writeOf; rw [if_pos hn, hN]; rfl
   obtain ⟨R, hR⟩ : ∃ R, wrAll N s0 s1 s2 ps [] = R := ⟨_, rfl⟩
   rw [hres, hR]
   have HRT := Aside0.mk hright
   clear hres hn hright
   subst hN
   replace hR := Aside0.mk hR
   replace hN1 := Aside0.mk hN1
   replace hN2 := Aside0.mk hN2
   go_enter Tryd.func19, Tryd.ntmps19
   go_wp2_with (go_at_call 24; refine (mark_right.calls _ true _ HRT.out).mono ?_; rintro e w2 ⟨rfl, hb1⟩; replace hb1 := drawn_below hb1)
   have hlt2 : w.heap.size < w2.heap.size := by have := hb1.size; simp at this; omega
   have hbA0 : Below w.heap.size w w2 := (below_alloc (Below.refl _ _) _).trans (below_lo hb1 (by simp))
   have hlb : w2.heap[w.heap.size]? = some (.cells #[.string s0, .string s1, .string s2] 39 (0, 0)) := (hb1.block _ (by simp)).trans (heap_alloc_new w _)
   obtain ⟨pb, hpb⟩ : ∃ pb, pb = w2.heap.size := ⟨_, rfl⟩
   obtain ⟨lb, hlb0⟩ : ∃ lb, lb = w.heap.size := ⟨_, rfl⟩
   obtain ⟨wA, hwA⟩ : ∃ wA, wA = w2.alloc (Obj.cells #[Value.slice none 0 0, Value.int IntKind.i64 0, Value.int IntKind.i8 0] 73) := ⟨_, rfl⟩
   have hPg0 : Pg pb pb [] wA := LibA.zero_isBuffer (Nat.le_refl _) (LibA.three_whole (by rw [hwA, hpb]; exact heap_alloc_new w2 _))
   have hbA : Below w.heap.size w wA := by rw [hwA]; exact hbA0.trans (below_lo (below_alloc (Below.refl _ _) _) hbA0.size)
   have hlbA : wA.heap[lb]? = some (.cells #[.string s0, .string s1, .string s2] 39 (0, 0)) := by rw [hwA, hlb0]; exact ((below_alloc (Below.refl w2.heap.size w2) _).block _ hlt2).trans hlb
   have hsA : pb < wA.heap.size := by rw [hwA, hpb]; simp
   have hpw : w.heap.size ≤ pb ∧ lb < pb := by omega
   rw [← hpb, ← hwA, ← hlb0]
   have HA := Aside0.mk (⟨hPg0, hbA, hlbA, hsA, hpw⟩ : _ ∧ _ ∧ _ ∧ _ ∧ _)
   clear hlt2 hbA0 hlb hPg0 hbA hlbA hsA hpw hwA hpb hb1 hlb0
   go_loopg [16] ps.length (fun kq v16 W => ∃ (ii : Int) (i : Nat) (acc : List Int), v16 = .int .i64 ii ∧ Aside0 (ii = (i : Int)) ∧ i ≤ ps.length ∧ kq = ps.length - i ∧ Aside0 (wrAll N s0 s1 s2 (ps.drop i) acc = R) ∧ Aside0 (acc.length ≤ i * 200000000) ∧ Aside0 (Pg pb pb acc W ∧ Below pb wA W))
   case atStart => exact ⟨0, 0, [], rfl, ⟨rfl⟩, Nat.zero_le _, rfl, hR, ⟨Nat.le_refl _⟩, ⟨HA.out.1, Below.refl _ _⟩⟩
   case round =>
    obtain ⟨ii, i, acc, rfl, hii, hi, hgk, hall, hal, hI⟩ := hrel
    obtain ⟨wb, rfl⟩ : ∃ q, q = wr := ⟨_, rfl⟩
    by_cases hin : ii < (ps.length : Int)
    · have p0 : 0 ≤ ii := by have := hii.out; omega
      have hbw : Below w.heap.size w wb := HA.out.2.1.trans (below_lo hI.out.2 HA.out.2.2.2.2.1)
      obtain ⟨ad, x, A1, c1, A2, c2, A3, c3, A4, c4, rfl, hxi, hok, hx0, hx1, hx2, hx3, hx4, g1, g2, g3, g4⟩ := at_Pt (Kd.F_step HX.out (fun k hk _ => hbw.block k hk)) ii p0 hin
      have e0 : ii.toNat = i := by have := hii.out; omega
      rw [e0] at hxi
      have hxm := HF.out x (List.mem_of_getElem? hxi)
      have hsz : wA.heap.size ≤ wb.heap.size := hI.out.2.size
      have hg : pb < wb.heap.size := Nat.lt_of_lt_of_le HA.out.2.2.2.1 hsz
      have hw1 : wrap64 (ii + 1) = ii + 1 := by have := hii.out; have := HPS.out; unfold wrap64; omega
      have hw2 : wrap64 ((ps.length : Int) - 1) = (ps.length : Int) - 1 := by have := HPS.out; unfold wrap64; omega
      have G := Aside0.mk (⟨g1, g2, g3, g4, hxi, hxm, hg, hi, hgk⟩ : _ ∧ _ ∧ _ ∧ _ ∧ _ ∧ _ ∧ _ ∧ _ ∧ _)
      have hinb := eq_true hin
      have p0b := eq_true p0
      obtain ⟨rg, T, S0, S1, S2⟩ := x
      simp only at hx0 hx1 hx2 hx3 hx4
      replace e0 := Aside0.mk e0
      have hbw' := Aside0.mk hbw
      clear g1 g2 g3 g4 hxi hok hxm hsz hg hbw hi hgk
      cases rg with
      | false =>
        by_cases hlast : i + 1 = ps.length
        · have hcl := eq_false (show ¬ ii < (ps.length : Int) - 1 by have := hii.out; omega)
          have hcl2 := eq_true (show (ps.length : Int) - 1 ≤ ii by have := hii.out; omega)
          have hnext : wrAll N s0 s1 s2 (ps.drop (i + 1)) (acc ++ T) = R := by
            have := wrAll_next hall.out G.out.2.2.2.2.1
            simpa [wrPart, hlast] using this
          replace hnext := Aside0.mk hnext
          go_upto_region 7 with (fail)
          have FACT := Aside0.mk (Rd3.of (w := w) (wA := wA) (lb := lb) (g := wb.heap.size) (p := ⟨false, T, S0, S1, S2⟩) HA.out.2.2.1 HA.out.2.2.2.2.2 (heap_alloc_new wb _) (by have := G.out.2.2.2.2.2.2.1; omega) HA.out.2.2.2.2.1 (hI.out.2.trans (below_lo (below_alloc (Below.refl _ _) (Obj.cells #[Value.bool false, Value.slice A1 T.length c1, Value.slice A2 S0.length c2, Value.slice A3 S1.length c3, Value.slice A4 S2.length c4] 50)) (by have := G.out.2.2.2.2.2.2.1; omega)))
            (Kd.F_step G.out.1.2 (fun k hk hl => (below_alloc (Below.refl wb.heap.size wb) _).block k hl)) (Kd.F_step G.out.2.1.2 (fun k hk hl => (below_alloc (Below.refl wb.heap.size wb) _).block k hl)) (Kd.F_step G.out.2.2.1.2 (fun k hk hl => (below_alloc (Below.refl wb.heap.size wb) _).block k hl)) (Kd.F_step G.out.2.2.2.1.2 (fun k hk hl => (below_alloc (Below.refl wb.heap.size wb) _).block k hl)))
          have P : Aside0 (Pq pb (i * 200000000) acc (wb.alloc (Obj.cells #[Value.bool false, Value.slice A1 T.length c1, Value.slice A2 S0.length c2, Value.slice A3 S1.length c3, Value.slice A4 S2.length c4] 50))) := ⟨hI.out.1.below (below_alloc (Below.refl _ _) _), by have := G.out.2.2.2.2.2.2.1; simp; omega, hal.out⟩
          have hi3 : i ≤ 1000 := Nat.le_trans G.out.2.2.2.2.2.2.2.1 HPS.out
          generalize wb.alloc (Obj.cells #[Value.bool false, Value.slice A1 T.length c1, Value.slice A2 S0.length c2, Value.slice A3 S1.length c3, Value.slice A4 S2.length c4] 50) = w1 at FACT P ⊢
          have K := Aside0.mk (Pk.refl pb pb w1)
          have FX := Aside0.mk (FACT.out _ K.out)
          have fl0 := FX.out.l0
          have fl1 := FX.out.l1
          have fl2 := FX.out.l2
          have fb0 := FX.out.b0
          have fb1 := FX.out.b1
          have fb2 := FX.out.b2
          have fb3 := FX.out.b3
          have fb4 := FX.out.b4
          simp only at fb0 fb1 fb2 fb3 fb4
          clear hx0 hx1 hx2 hx3 hx4
          go_wp2_with (first | (go_at_call 36; refine (marker_st P.out _ N _ hN2.out (by first | exact HS0.out | exact HS1.out | exact HS2.out | decide) (by omega)).mono ?_; rintro e wN ⟨rfl, hp, hk⟩; replace K := Aside0.mk (K.out.trans hk); replace P := Aside0.mk hp; replace FX := Aside0.mk (FACT.out _ K.out); clear hp hk; clear fl0 fl1 fl2 fb0 fb1 fb2 fb3 fb4; have fl0 := FX.out.l0; have fl1 := FX.out.l1; have fl2 := FX.out.l2; have fb0 := FX.out.b0; have fb1 := FX.out.b1; have fb2 := FX.out.b2; have fb3 := FX.out.b3; have fb4 := FX.out.b4; simp only at fb0 fb1 fb2 fb3 fb4) | (go_at_call 37; refine (lines_st P.out _ _ _ (by first | exact FX.out.h2 | exact FX.out.h3 | exact FX.out.h4) (by first | exact row_apart G.out.2.1.2 HA.out.2.2.2.2.1 | exact row_apart G.out.2.2.1.2 HA.out.2.2.2.2.1 | exact row_apart G.out.2.2.2.1.2 HA.out.2.2.2.2.1) (by have := G.out.2.2.2.2.2.1; first | exact this.2.1 | exact this.2.2.1 | exact this.2.2.2) (by omega)).mono ?_; rintro e wN ⟨rfl, hp, hk⟩; replace K := Aside0.mk (K.out.trans hk); replace P := Aside0.mk hp; replace FX := Aside0.mk (FACT.out _ K.out); clear hp hk; clear fl0 fl1 fl2 fb0 fb1 fb2 fb3 fb4; have fl0 := FX.out.l0; have fl1 := FX.out.l1; have fl2 := FX.out.l2; have fb0 := FX.out.b0; have fb1 := FX.out.b1; have fb2 := FX.out.b2; have fb3 := FX.out.b3; have fb4 := FX.out.b4; simp only at fb0 fb1 fb2 fb3 fb4) | (go_at_call 34; refine (write_st P.out _ _ _ FX.out.h1 (row_apart G.out.1.2 HA.out.2.2.2.2.1) G.out.2.2.2.2.2.1.1 (by omega)).mono ?_; rintro e wN ⟨rfl, hp, hk⟩; replace K := Aside0.mk (K.out.trans hk); replace P := Aside0.mk hp; replace FX := Aside0.mk (FACT.out _ K.out); clear hp hk; clear fl0 fl1 fl2 fb0 fb1 fb2 fb3 fb4; have fl0 := FX.out.l0; have fl1 := FX.out.l1; have fl2 := FX.out.l2; have fb0 := FX.out.b0; have fb1 := FX.out.b1; have fb2 := FX.out.b2; have fb3 := FX.out.b3; have fb4 := FX.out.b4; simp only at fb0 fb1 fb2 fb3 fb4) | (go_at_call 35; refine (shut_st P.out (by omega)).mono ?_; rintro e wN ⟨rfl, hp, hk⟩; replace K := Aside0.mk (K.out.trans hk); replace P := Aside0.mk hp; replace FX := Aside0.mk (FACT.out _ K.out); clear hp hk; clear fl0 fl1 fl2 fb0 fb1 fb2 fb3 fb4; have fl0 := FX.out.l0; have fl1 := FX.out.l1; have fl2 := FX.out.l2; have fb0 := FX.out.b0; have fb1 := FX.out.b1; have fb2 := FX.out.b2; have fb3 := FX.out.b3; have fb4 := FX.out.b4; simp only at fb0 fb1 fb2 fb3 fb4))
          go_roundg (ps.length - (i + 1))
          case rel => exact ⟨wrap64 (ii + 1), i + 1, _, by first | rfl | (simp; done) | (simp [hw1]; done), ⟨by rw [hw1]; have := hii.out; omega⟩, by have := hii.out; omega, rfl, Aside0.mk hnext.out, ⟨Nat.le_trans P.out.2.2 (by omega)⟩, ⟨P.out.1, FX.out.bA⟩⟩
          case measure => have := hii.out; have := G.out.2.2.2.2.2.2.2.2; omega
        · have hcl := eq_true (show ii < (ps.length : Int) - 1 by have := hii.out; omega)
          have hnext : wrAll N s0 s1 s2 (ps.drop (i + 1)) (endNl (acc ++ T)) = R := by
            have := wrAll_next hall.out G.out.2.2.2.2.1
            simpa [wrPart, hlast] using this
          replace hnext := Aside0.mk hnext
          go_upto_region 7 with (fail)
          have FACT := Aside0.mk (Rd3.of (w := w) (wA := wA) (lb := lb) (g := wb.heap.size) (p := ⟨false, T, S0, S1, S2⟩) HA.out.2.2.1 HA.out.2.2.2.2.2 (heap_alloc_new wb _) (by have := G.out.2.2.2.2.2.2.1; omega) HA.out.2.2.2.2.1 (hI.out.2.trans (below_lo (below_alloc (Below.refl _ _) (Obj.cells #[Value.bool false, Value.slice A1 T.length c1, Value.slice A2 S0.length c2, Value.slice A3 S1.length c3, Value.slice A4 S2.length c4] 50)) (by have := G.out.2.2.2.2.2.2.1; omega)))
            (Kd.F_step G.out.1.2 (fun k hk hl => (below_alloc (Below.refl wb.heap.size wb) _).block k hl)) (Kd.F_step G.out.2.1.2 (fun k hk hl => (below_alloc (Below.refl wb.heap.size wb) _).block k hl)) (Kd.F_step G.out.2.2.1.2 (fun k hk hl => (below_alloc (Below.refl wb.heap.size wb) _).block k hl)) (Kd.F_step G.out.2.2.2.1.2 (fun k hk hl => (below_alloc (Below.refl wb.heap.size wb) _).block k hl)))
          have P : Aside0 (Pq pb (i * 200000000) acc (wb.alloc (Obj.cells #[Value.bool false, Value.slice A1 T.length c1, Value.slice A2 S0.length c2, Value.slice A3 S1.length c3, Value.slice A4 S2.length c4] 50))) := ⟨hI.out.1.below (below_alloc (Below.refl _ _) _), by have := G.out.2.2.2.2.2.2.1; simp; omega, hal.out⟩
          have hi3 : i ≤ 1000 := Nat.le_trans G.out.2.2.2.2.2.2.2.1 HPS.out
          generalize wb.alloc (Obj.cells #[Value.bool false, Value.slice A1 T.length c1, Value.slice A2 S0.length c2, Value.slice A3 S1.length c3, Value.slice A4 S2.length c4] 50) = w1 at FACT P ⊢
          have K := Aside0.mk (Pk.refl pb pb w1)
          have FX := Aside0.mk (FACT.out _ K.out)
          have fl0 := FX.out.l0
          have fl1 := FX.out.l1
          have fl2 := FX.out.l2
          have fb0 := FX.out.b0
          have fb1 := FX.out.b1
          have fb2 := FX.out.b2
          have fb3 := FX.out.b3
          have fb4 := FX.out.b4
          simp only at fb0 fb1 fb2 fb3 fb4
          clear hx0 hx1 hx2 hx3 hx4
          go_wp2_with (first | (go_at_call 36; refine (marker_st P.out _ N _ hN2.out (by first | exact HS0.out | exact HS1.out | exact HS2.out | decide) (by omega)).mono ?_; rintro e wN ⟨rfl, hp, hk⟩; replace K := Aside0.mk (K.out.trans hk); replace P := Aside0.mk hp; replace FX := Aside0.mk (FACT.out _ K.out); clear hp hk; clear fl0 fl1 fl2 fb0 fb1 fb2 fb3 fb4; have fl0 := FX.out.l0; have fl1 := FX.out.l1; have fl2 := FX.out.l2; have fb0 := FX.out.b0; have fb1 := FX.out.b1; have fb2 := FX.out.b2; have fb3 := FX.out.b3; have fb4 := FX.out.b4; simp only at fb0 fb1 fb2 fb3 fb4) | (go_at_call 37; refine (lines_st P.out _ _ _ (by first | exact FX.out.h2 | exact FX.out.h3 | exact FX.out.h4) (by first | exact row_apart G.out.2.1.2 HA.out.2.2.2.2.1 | exact row_apart G.out.2.2.1.2 HA.out.2.2.2.2.1 | exact row_apart G.out.2.2.2.1.2 HA.out.2.2.2.2.1) (by have := G.out.2.2.2.2.2.1; first | exact this.2.1 | exact this.2.2.1 | exact this.2.2.2) (by omega)).mono ?_; rintro e wN ⟨rfl, hp, hk⟩; replace K := Aside0.mk (K.out.trans hk); replace P := Aside0.mk hp; replace FX := Aside0.mk (FACT.out _ K.out); clear hp hk; clear fl0 fl1 fl2 fb0 fb1 fb2 fb3 fb4; have fl0 := FX.out.l0; have fl1 := FX.out.l1; have fl2 := FX.out.l2; have fb0 := FX.out.b0; have fb1 := FX.out.b1; have fb2 := FX.out.b2; have fb3 := FX.out.b3; have fb4 := FX.out.b4; simp only at fb0 fb1 fb2 fb3 fb4) | (go_at_call 34; refine (write_st P.out _ _ _ FX.out.h1 (row_apart G.out.1.2 HA.out.2.2.2.2.1) G.out.2.2.2.2.2.1.1 (by omega)).mono ?_; rintro e wN ⟨rfl, hp, hk⟩; replace K := Aside0.mk (K.out.trans hk); replace P := Aside0.mk hp; replace FX := Aside0.mk (FACT.out _ K.out); clear hp hk; clear fl0 fl1 fl2 fb0 fb1 fb2 fb3 fb4; have fl0 := FX.out.l0; have fl1 := FX.out.l1; have fl2 := FX.out.l2; have fb0 := FX.out.b0; have fb1 := FX.out.b1; have fb2 := FX.out.b2; have fb3 := FX.out.b3; have fb4 := FX.out.b4; simp only at fb0 fb1 fb2 fb3 fb4) | (go_at_call 35; refine (shut_st P.out (by omega)).mono ?_; rintro e wN ⟨rfl, hp, hk⟩; replace K := Aside0.mk (K.out.trans hk); replace P := Aside0.mk hp; replace FX := Aside0.mk (FACT.out _ K.out); clear hp hk; clear fl0 fl1 fl2 fb0 fb1 fb2 fb3 fb4; have fl0 := FX.out.l0; have fl1 := FX.out.l1; have fl2 := FX.out.l2; have fb0 := FX.out.b0; have fb1 := FX.out.b1; have fb2 := FX.out.b2; have fb3 := FX.out.b3; have fb4 := FX.out.b4; simp only at fb0 fb1 fb2 fb3 fb4))
          go_roundg (ps.length - (i + 1))
          case rel => exact ⟨wrap64 (ii + 1), i + 1, _, by first | rfl | (simp; done) | (simp [hw1]; done), ⟨by rw [hw1]; have := hii.out; omega⟩, by have := hii.out; omega, rfl, Aside0.mk hnext.out, ⟨Nat.le_trans P.out.2.2 (by omega)⟩, ⟨P.out.1, FX.out.bA⟩⟩
          case measure => have := hii.out; have := G.out.2.2.2.2.2.2.2.2; omega
      | true =>
        have hnext : wrAll N s0 s1 s2 (ps.drop (i + 1)) (wrReg N s0 s1 s2 acc ⟨true, T, S0, S1, S2⟩) = R := by
          have := wrAll_next hall.out G.out.2.2.2.2.1
          simpa [wrPart] using this
        replace hnext := Aside0.mk hnext
        unfold wrReg at hnext
        go_upto_region 7 with (fail)
        have FACT := Aside0.mk (Rd3.of (w := w) (wA := wA) (lb := lb) (g := wb.heap.size) (p := ⟨true, T, S0, S1, S2⟩) HA.out.2.2.1 HA.out.2.2.2.2.2 (heap_alloc_new wb _) (by have := G.out.2.2.2.2.2.2.1; omega) HA.out.2.2.2.2.1 (hI.out.2.trans (below_lo (below_alloc (Below.refl _ _) (Obj.cells #[Value.bool true, Value.slice A1 T.length c1, Value.slice A2 S0.length c2, Value.slice A3 S1.length c3, Value.slice A4 S2.length c4] 50)) (by have := G.out.2.2.2.2.2.2.1; omega)))
          (Kd.F_step G.out.1.2 (fun k hk hl => (below_alloc (Below.refl wb.heap.size wb) _).block k hl)) (Kd.F_step G.out.2.1.2 (fun k hk hl => (below_alloc (Below.refl wb.heap.size wb) _).block k hl)) (Kd.F_step G.out.2.2.1.2 (fun k hk hl => (below_alloc (Below.refl wb.heap.size wb) _).block k hl)) (Kd.F_step G.out.2.2.2.1.2 (fun k hk hl => (below_alloc (Below.refl wb.heap.size wb) _).block k hl)))
        have P : Aside0 (Pq pb (i * 200000000) acc (wb.alloc (Obj.cells #[Value.bool true, Value.slice A1 T.length c1, Value.slice A2 S0.length c2, Value.slice A3 S1.length c3, Value.slice A4 S2.length c4] 50))) := ⟨hI.out.1.below (below_alloc (Below.refl _ _) _), by have := G.out.2.2.2.2.2.2.1; simp; omega, hal.out⟩
        have hi3 : i ≤ 1000 := Nat.le_trans G.out.2.2.2.2.2.2.2.1 HPS.out
        generalize wb.alloc (Obj.cells #[Value.bool true, Value.slice A1 T.length c1, Value.slice A2 S0.length c2, Value.slice A3 S1.length c3, Value.slice A4 S2.length c4] 50) = w1 at FACT P ⊢
        have K := Aside0.mk (Pk.refl pb pb w1)
        have FX := Aside0.mk (FACT.out _ K.out)
        have fl0 := FX.out.l0
        have fl1 := FX.out.l1
        have fl2 := FX.out.l2
        have fb0 := FX.out.b0
        have fb1 := FX.out.b1
        have fb2 := FX.out.b2
        have fb3 := FX.out.b3
        have fb4 := FX.out.b4
        simp only at fb0 fb1 fb2 fb3 fb4
        clear hx0 hx1 hx2 hx3 hx4
        go_wp2_with (first | (go_at_call 36; refine (marker_st P.out _ N _ hN2.out (by first | exact HS0.out | exact HS1.out | exact HS2.out | decide) (by omega)).mono ?_; rintro e wN ⟨rfl, hp, hk⟩; replace K := Aside0.mk (K.out.trans hk); replace P := Aside0.mk hp; replace FX := Aside0.mk (FACT.out _ K.out); clear hp hk; clear fl0 fl1 fl2 fb0 fb1 fb2 fb3 fb4; have fl0 := FX.out.l0; have fl1 := FX.out.l1; have fl2 := FX.out.l2; have fb0 := FX.out.b0; have fb1 := FX.out.b1; have fb2 := FX.out.b2; have fb3 := FX.out.b3; have fb4 := FX.out.b4; simp only at fb0 fb1 fb2 fb3 fb4) | (go_at_call 37; refine (lines_st P.out _ _ _ (by first | exact FX.out.h2 | exact FX.out.h3 | exact FX.out.h4) (by first | exact row_apart G.out.2.1.2 HA.out.2.2.2.2.1 | exact row_apart G.out.2.2.1.2 HA.out.2.2.2.2.1 | exact row_apart G.out.2.2.2.1.2 HA.out.2.2.2.2.1) (by have := G.out.2.2.2.2.2.1; first | exact this.2.1 | exact this.2.2.1 | exact this.2.2.2) (by omega)).mono ?_; rintro e wN ⟨rfl, hp, hk⟩; replace K := Aside0.mk (K.out.trans hk); replace P := Aside0.mk hp; replace FX := Aside0.mk (FACT.out _ K.out); clear hp hk; clear fl0 fl1 fl2 fb0 fb1 fb2 fb3 fb4; have fl0 := FX.out.l0; have fl1 := FX.out.l1; have fl2 := FX.out.l2; have fb0 := FX.out.b0; have fb1 := FX.out.b1; have fb2 := FX.out.b2; have fb3 := FX.out.b3; have fb4 := FX.out.b4; simp only at fb0 fb1 fb2 fb3 fb4) | (go_at_call 34; refine (write_st P.out _ _ _ FX.out.h1 (row_apart G.out.1.2 HA.out.2.2.2.2.1) G.out.2.2.2.2.2.1.1 (by omega)).mono ?_; rintro e wN ⟨rfl, hp, hk⟩; replace K := Aside0.mk (K.out.trans hk); replace P := Aside0.mk hp; replace FX := Aside0.mk (FACT.out _ K.out); clear hp hk; clear fl0 fl1 fl2 fb0 fb1 fb2 fb3 fb4; have fl0 := FX.out.l0; have fl1 := FX.out.l1; have fl2 := FX.out.l2; have fb0 := FX.out.b0; have fb1 := FX.out.b1; have fb2 := FX.out.b2; have fb3 := FX.out.b3; have fb4 := FX.out.b4; simp only at fb0 fb1 fb2 fb3 fb4) | (go_at_call 35; refine (shut_st P.out (by omega)).mono ?_; rintro e wN ⟨rfl, hp, hk⟩; replace K := Aside0.mk (K.out.trans hk); replace P := Aside0.mk hp; replace FX := Aside0.mk (FACT.out _ K.out); clear hp hk; clear fl0 fl1 fl2 fb0 fb1 fb2 fb3 fb4; have fl0 := FX.out.l0; have fl1 := FX.out.l1; have fl2 := FX.out.l2; have fb0 := FX.out.b0; have fb1 := FX.out.b1; have fb2 := FX.out.b2; have fb3 := FX.out.b3; have fb4 := FX.out.b4; simp only at fb0 fb1 fb2 fb3 fb4))
        go_roundg (ps.length - (i + 1))
        case rel => exact ⟨wrap64 (ii + 1), i + 1, _, by first | rfl | (simp; done) | (simp [hw1]; done), ⟨by rw [hw1]; have := hii.out; omega⟩, by have := hii.out; omega, rfl, Aside0.mk hnext.out, ⟨Nat.le_trans P.out.2.2 (by omega)⟩, ⟨P.out.1, FX.out.bA⟩⟩
        case measure => have := hii.out; have := G.out.2.2.2.2.2.2.2.2; omega
    · have hi' : i = ps.length := by have := hii.out; omega
      have hacc : acc = R := by have := hall.out; rw [hi', List.drop_of_length_le (Nat.le_refl _)] at this; exact this
      subst hacc
      have hlen : acc.length ≤ 140737488355328 := by have := hal.out; have := HPS.out; omega
      replace hlen := Aside0.mk hlen
      clear hi'
      go_wp2_with (go_at_call 38; refine (out_calls pb pb acc wb hI.out.1 hlen.out).mono ?_; rintro e w5 ⟨A5, c5, rfl, hc5, hC5, hb5⟩; have HH := Aside0.mk (⟨hc5, hC5, hb5⟩ : _ ∧ _ ∧ _); clear hc5 hC5 hb5)
      refine bodyPost_ret (results_tmp2 rfl _ _ _) rfl ?_
      refine ⟨A5, c5, rfl, HH.out.1, HH.out.2.1, ?_⟩
      have hbw : Below w.heap.size w wb := HA.out.2.1.trans (below_lo hI.out.2 HA.out.2.2.2.2.1)
      exact hbw.trans (below_lo HH.out.2.2 hbw.size)
 · have hright : mark_right.f n = some false := by
     unfold mark_right.f
     by_cases h : n ≥ 1
     · rw [if_pos h]; have : ¬ n ≤ 16777216 := fun h2 => hn ⟨h, h2⟩; simp [this]
     · rw [if_neg h]
   have hres : writeOf n s0 s1 s2 ps = ([], 1) := by unfold writeOf; rw [if_neg hn]
   rw [hres]
   clear hn hres
   go_enter Tryd.func19, Tryd.ntmps19
   go_wp2_with (go_at_call 24; refine (mark_right.calls _ false _ hright).mono ?_; rintro e w1 ⟨rfl, hb1⟩; replace hb1 := drawn_below hb1)
   refine bodyPost_ret (results_tmp2 rfl _ _ _) rfl ?_
   exact ⟨none, 0, rfl, Nat.zero_le _, Kd.C_nil B8 _, (below_alloc (Below.refl _ _) _).trans (below_lo hb1 (by simp))⟩
end Go.Proofs.YtnnnbeimehfiiaaDoor.Q

/-! mark.Read: the append of a new part as an event; a part's row found through the row of the parts. -/
set_option linter.unusedVariables false
set_option linter.unusedSimpArgs false
namespace Go.Proofs.YtnnnbeimehfiiaaDoor.Q
open Go Go.RowKit Go.Proofs.YtnnnbeimehfiiaaDoorW.PrintWords Go.Proofs.YtnnnbeimehfiiaaDoorW.SL
abbrev nwPt (rg : Bool) : Pt := ⟨rg, [], [], [], []⟩
def rawPt (rg : Bool) : List Value := [.bool rg, .slice none 0 0, .slice none 0 0, .slice none 0 0, .slice none 0 0]
theorem own_form {w : World} {v : Value} {base e size n : Nat} {xs : List Value} (h : w.ownsRow base e size v n xs) : ∃ A c, v = .slice A n c ∧ n ≤ c := by
  obtain ⟨_, ⟨rfl, rfl⟩ | ⟨g, cap, cur, rfl, _, _, hnc, _⟩⟩ := h
  · exact ⟨none, 0, rfl, Nat.le_refl _⟩
  · exact ⟨_, cap, rfl, hnc⟩
theorem app_push {P : Program} {ops : Array Oper} {o : Oper} {rest : List Oper} {a : Act} {Q : Exit → Act → World → Prop} {W : World} (hgd : o.guard = none) (s x : Operand) (bytes : Nat)
    (ho : o.op = .call { callee := .builtin .append, args := #[s, x], argTypes := #[23, 23] })
    (ht : P.underlying 23 = some (.slice 50)) (hinfo : (P.info? 50).map (fun i => (i.zero, i.size, i.bytes)) = some (some (.agg (rawPt false).toArray), 5, bytes)) (hb0 : bytes ≤ 1000)
    {w0 : World} {F0 : List FA} {ps : List Pt} {vo : Value} (hI : RdI w0 F0 ps vo W) (hl : ps.length ≤ 5000000) (m : Nat) (hm : ps.length = m) (rg : Bool) (hs : a.eval s = vo) (hx : a.eval x = .slice (some ⟨W.heap.size, 0, none⟩) 1 1)
    (h : ∀ A c w1, RdI w0 F0 (ps ++ [nwPt rg]) (.slice A (m + 1) c) w1 → wpList P ops Q rest (a.put o.dst (.slice A (m + 1) c)) w1) : wpList P ops Q (o :: rest) a (W.alloc (.cells (rawPt rg).toArray 50)) := by
  subst hm
  obtain ⟨i0, hi, hzz⟩ := Option.map_eq_some_iff.1 hinfo
  simp only [Prod.mk.injEq] at hzz
  obtain ⟨hz0, hz1, hz2⟩ := hzz
  obtain ⟨cells, hown, hstep⟩ := hI.push rg
  have hb : Below W.heap.size W (W.alloc (.cells (rawPt rg).toArray 50)) := below_alloc (Below.refl _ _) _
  have hown2 := own_move hown (fun k hk => hb.block k (own_lt hown k hk))
  refine wpList_append_own_at _ hgd s x 23 ho 0 50 i0 (.agg (rawPt false).toArray) 5 bytes ht hi hz0 hz1 hz2 (by rfl) (by decide) vo ps.length cells hs hown2 ⟨W.heap.size, 0, none⟩ 1 1 (rawPt rg) hx rfl (fun j u hj => ?_) (by simp [rawPt, Value.oneCell']) (by simp only [maxLen]; omega)
    (Nat.le_trans (Nat.mul_le_mul (show ps.length + 1 ≤ 5000001 by omega) hb0) (by decide)) (Nat.zero_le _) (fun v' w' h1 h2 _ h4 => ?_)
  · rw [base_add]
    refine (blk_cell (heap_alloc_new W _) j).trans ?_
    simpa using hj
  · have hI2 := hstep _ w' v' hb h1 h2 h4
    obtain ⟨A, c, rfl, _⟩ := own_form h1
    exact h A c w' hI2
theorem RdI.at {w0 w : World} {F0 : List FA} {vo : Value} {fr0 : List Pt} {p : Pt} (h : RdI w0 F0 (fr0 ++ [p]) vo w) (k : Nat) (hk : k < 4) (x : List Int) :
    ∃ (ad : Addr) (cap : Nat) (v : Value), vo = .slice (some ad) (fr0.length + 1) cap ∧ w.cell? (ad.add (fr0.length * 5)) = some (.bool p.region) ∧ w.cell? ⟨(ad.add (fr0.length * 5)).block, (ad.add (fr0.length * 5)).off + (k + 1), none⟩ = some v ∧ w.ownsRow 0 5 1 v (fld p k).length (us8 (fld p k)) ∧
      ∀ (w1 : World) (v1 : Value), w1.ownsRow 0 5 1 v1 ((fld p k).length + x.length) (us8 (fld p k) ++ us8 x) → w.grownBy w1 v.ownBlock → (v1.ownBlock = v.ownBlock ∨ v1.ownBlock = some w.heap.size) →
        w1.cell? ⟨(ad.add (fr0.length * 5)).block, (ad.add (fr0.length * 5)).off + (k + 1), none⟩ = some v ∧ w1.frozen? ⟨(ad.add (fr0.length * 5)).block, (ad.add (fr0.length * 5)).off + (k + 1), none⟩ = false ∧ RdI w0 F0 (fr0 ++ [addF p x k]) vo (w1.setCell ⟨(ad.add (fr0.length * 5)).block, (ad.add (fr0.length * 5)).off + (k + 1), none⟩ v1) := by
  have h2 := h.app' rfl k hk x
  simpa only [List.length_append, List.length_singleton] using h2
theorem RdI.atj {w0 w : World} {F0 : List FA} {vo : Value} {fr0 : List Pt} {p : Pt} (h : RdI w0 F0 (fr0 ++ [p]) vo w) (k : Nat) (hk : k < 4) (x : List Int) {j : Nat} (hj : fr0.length = j) :
    ∃ (ad : Addr) (cap : Nat) (v : Value), vo = .slice (some ad) (j + 1) cap ∧ w.cell? (ad.add (j * 5)) = some (.bool p.region) ∧ w.cell? ⟨(ad.add (j * 5)).block, (ad.add (j * 5)).off + (k + 1), none⟩ = some v ∧ w.ownsRow 0 5 1 v (fld p k).length (us8 (fld p k)) ∧
      ∀ (w1 : World) (v1 : Value), w1.ownsRow 0 5 1 v1 ((fld p k).length + x.length) (us8 (fld p k) ++ us8 x) → w.grownBy w1 v.ownBlock → (v1.ownBlock = v.ownBlock ∨ v1.ownBlock = some w.heap.size) →
        w1.cell? ⟨(ad.add (j * 5)).block, (ad.add (j * 5)).off + (k + 1), none⟩ = some v ∧ w1.frozen? ⟨(ad.add (j * 5)).block, (ad.add (j * 5)).off + (k + 1), none⟩ = false ∧ RdI w0 F0 (fr0 ++ [addF p x k]) vo (w1.setCell ⟨(ad.add (j * 5)).block, (ad.add (j * 5)).off + (k + 1), none⟩ v1) := by
  subst hj
  exact h.at k hk x
theorem RdI.at0 {w0 w : World} {F0 : List FA} {vo : Value} {p : Pt} (h : RdI w0 F0 ([] ++ [p]) vo w) (k : Nat) (hk : k < 4) (x : List Int) :
    ∃ (ad : Addr) (cap : Nat) (v : Value), vo = .slice (some ad) 1 cap ∧ w.cell? ad = some (.bool p.region) ∧ w.cell? ⟨ad.block, ad.off + (k + 1), none⟩ = some v ∧ w.ownsRow 0 5 1 v (fld p k).length (us8 (fld p k)) ∧
      ∀ (w1 : World) (v1 : Value), w1.ownsRow 0 5 1 v1 ((fld p k).length + x.length) (us8 (fld p k) ++ us8 x) → w.grownBy w1 v.ownBlock → (v1.ownBlock = v.ownBlock ∨ v1.ownBlock = some w.heap.size) →
        w1.cell? ⟨ad.block, ad.off + (k + 1), none⟩ = some v ∧ w1.frozen? ⟨ad.block, ad.off + (k + 1), none⟩ = false ∧ RdI w0 F0 ([] ++ [addF p x k]) vo (w1.setCell ⟨ad.block, ad.off + (k + 1), none⟩ v1) := by
  obtain ⟨ad, cap, v, e1, e2, e3, e4, e5⟩ := h.at k hk x
  have e : ad.add (([] : List Pt).length * 5) = ad := by simp [Addr.add]
  rw [e] at e2 e3 e5
  exact ⟨ad, cap, v, e1, e2, e3, e4, e5⟩
/-- More that is read and kept. -/
theorem RdI.wider {w0 w : World} {F0 : List FA} {ps : List Pt} {vo : Value} (h : RdI w0 F0 ps vo w) (a : FA) (ha : ∀ Z : Nat → Prop, (∀ b ∈ F0, b.P w Z) → a.P w Z) : RdI w0 (a :: F0) ps vo w := by
  obtain ⟨Z, cells, vT, v0, v1, v2, T, S0, S1, S2, fr, fc, S, hc⟩ := h
  refine ⟨Z, cells, vT, v0, v1, v2, T, S0, S1, S2, fr, fc, ⟨S.st, fun b hb => ?_, S.old⟩, hc⟩
  rcases List.mem_cons.1 hb with rfl | hb
  · exact S.fr _ List.mem_cons_self
  · rcases List.mem_cons.1 hb with rfl | hb
    · exact ha Z (fun b hb => S.fr b (List.mem_cons_of_mem _ hb))
    · exact S.fr _ (List.mem_cons_of_mem _ hb)
theorem RdI.less {w0 w : World} {F0 : List FA} {a : FA} {ps : List Pt} {vo : Value} (h : RdI w0 (a :: F0) ps vo w) : RdI w0 F0 ps vo w := by
  obtain ⟨Z, cells, vT, v0, v1, v2, T, S0, S1, S2, fr, fc, S, hc⟩ := h
  refine ⟨Z, cells, vT, v0, v1, v2, T, S0, S1, S2, fr, fc, ⟨S.st, fun b hb => S.fr b ?_, S.old⟩, hc⟩
  rcases List.mem_cons.1 hb with rfl | hb
  · exact List.mem_cons_self
  · exact List.mem_cons_of_mem _ (List.mem_cons_of_mem _ hb)
theorem snoc_cases (ps : List Pt) : ps = [] ∨ ∃ fr p, ps = fr ++ [p] := by
  rcases List.eq_nil_or_concat ps with h | ⟨fr, p, h⟩
  · exact .inl h
  · exact .inr ⟨fr, p, by simpa using h⟩
theorem kB_openF {W : World} {ok : Nat → Prop} {x : List Int} {cs : List Value} (h : Kd.FK kB W ok x cs) : ∃ A c, cs = [.slice A x.length c] ∧ (rdV B8 A c x).P W ok := by
  obtain ⟨A, c, rfl, l1, _⟩ := Kd.FK_now h
  refine ⟨A, c, rfl, l1, fun W' hW => ?_⟩
  obtain ⟨B, d, he, _, g⟩ := h W' hW
  simp only [List.cons.injEq, Value.slice.injEq, and_true, true_and] at he
  rw [he.1]; exact g
theorem row_kept {wb : World} {Z : Nat → Prop} {al ax : Addr} {cL cX : Nat} {L : List (List Int)} {x : List Int} {i : Nat} (h : (rdV kB (some al) cL L).P wb Z) (hi : L[i]? = some x) (hc : wb.cell? (al.add i) = some (.slice (some ax) x.length cX)) : (rdV B8 (some ax) cX x).P wb Z := by
  have hlt := (List.getElem?_eq_some_iff.1 hi).1
  obtain ⟨al', cs, eA, hcl, hFK, hcc, _⟩ := Kd.F_get h.2 [] (i : Int) (by omega) (by omega)
  injection eA with eA
  subst eA
  have hx : L.getD (i : Int).toNat [] = x := by simp [List.getD_eq_getElem?_getD, hi]
  rw [hx] at hFK
  obtain ⟨A, c, rfl, hP⟩ := kB_openF hFK
  have h0 : wb.cell? (al.add ((i : Int).toNat * 1)) = some (.slice A x.length c) := hcc 0 _ rfl
  have e : (i : Int).toNat * 1 = i := by simp
  rw [e, hc] at h0
  injection h0 with h0
  injection h0 with h0 _ h1
  subst h0 h1
  exact hP
/-- append(s, x...), x a row that is read, inside a region of open order. -/
theorem app_spread_step {P : Program} {ops : Array Oper} {o : Oper} {a : Act} {Q : Exit → Act → World → Prop} {K : Act → World → Prop} {W : World} (hw : Region.wanted o (yielded ops a.tmps) = true) (s x : Operand)
    (ho : o.op = .call { callee := .builtin .append, args := #[s, x], argTypes := #[22, 22] })
    (ht : P.underlying 22 = some (.slice 5)) (hinfo : (P.info? 5).map (fun i => (i.zero, i.size, i.bytes)) = some (some (.int .u8 0), 1, 1))
    (v : Value) (n : Nat) (xs : List Value) (ys : List Int) (ad : Addr) (c : Nat) (hs : a.eval s = v) (hx : a.eval x = .slice (some ad) ys.length c)
    (HO : W.ownsRow 0 5 1 v n xs) (HX : Kd.C B8 W (some ad) ys.length ys) (hl : n + ys.length ≤ 140737488355328)
    (h : ∀ v1 w1, w1.ownsRow 0 5 1 v1 (n + ys.length) (xs ++ us8 ys) → W.grownBy w1 v.ownBlock → (v1.ownBlock = v.ownBlock ∨ v1.ownBlock = some W.heap.size) → K (a.put o.dst v1) w1) :
    if Region.wanted o (yielded ops a.tmps) = true then Oper.wp P o a W K Q else K (a.put o.dst undef) W := by
  obtain ⟨i0, hi, hzz⟩ := Option.map_eq_some_iff.1 hinfo
  simp only [Prod.mk.injEq] at hzz
  obtain ⟨hz0, hz1, hz2⟩ := hzz
  rw [if_pos hw]
  obtain ⟨v1, w1, hr, hown, hgr, _, hat⟩ := run_append_own_at (P := P) W 0 22 o.type 5 i0 (.int .u8 0) 1 1 ht hi hz0 hz1 hz2 rfl (by decide) v n xs HO ad ys.length c (us8 ys) (by simp)
    (fun j u hj => by
      have hjl : j < ys.length := by have := (List.getElem?_eq_some_iff.1 hj).1; simpa using this
      obtain ⟨ad', he, hc⟩ := Kd.at_int HX (j : Int) (by omega) (by omega)
      injection he with he
      subst he
      simp only [Int.toNat_natCast] at hc
      rw [hc, ← hj, rd_get hjl]
      simp [us8, List.getElem?_eq_getElem hjl]) (fun u hu => by obtain ⟨q, _, rfl⟩ := List.mem_map.1 hu; rfl) (by simp only [maxLen]; omega) (by omega) (Nat.zero_le _)
  unfold Oper.wp execOp
  simp only [ho, resolve, invoke, builtin, Sem.run_bind, Sem.run_pure, Result.andThen_ok, List.map_toArray, List.map_cons, List.map_nil, hs, hx, hr]
  exact h v1 w1 hown hgr hat
def P1 (wd : World) (vk : Value) (xs ys : List Int) (vv : Value) (w : World) : Prop := w.ownsRow 0 5 1 vv (xs.length + ys.length) (us8 xs ++ us8 ys) ∧ wd.grownBy w vk.ownBlock ∧ (vv.ownBlock = vk.ownBlock ∨ vv.ownBlock = some wd.heap.size)
def P2 (wd : World) (vk : Value) (xs ys : List Int) (p : Addr) (vv : Value) (w : World) : Prop := ∃ w1, P1 wd vk xs ys vv w1 ∧ w = w1.setCell p vv
theorem P1.form {wd : World} {vk : Value} {xs ys : List Int} {vv : Value} {w : World} (h : P1 wd vk xs ys vv w) : ∃ A c, vv = .slice A (xs.length + ys.length) c := by
  obtain ⟨A, c, e, _⟩ := own_form h.1
  exact ⟨A, c, e⟩
theorem rdStep_ne {n : Nat} {s t : List Pt × Nat} {x : List Int} (h : rdStep n s x = some t) (hs : s.2 ≠ 0 → s.1 ≠ []) : t.2 ≠ 0 → t.1 ≠ [] := by
  have hol : ∀ (f : Pt → Pt) (l : List Pt), l ≠ [] → onLast f l ≠ [] := fun f l hl => by
    cases l with
    | nil => exact absurd rfl hl
    | cons a r => cases r <;> simp [onLast]
  unfold rdStep at h
  split at h
  · split at h
    · split at h
      · split at h
        · injection h with h; subst h; simp
        · injection h with h; subst h; simp
      · injection h with h; subst h; simp
    · rename_i h2
      injection h with h; subst h; exact fun _ => hol _ _ (hs h2)
  · split at h
    · injection h with h; subst h; simp
    · split at h
      · rename_i h2
        injection h with h; subst h; exact fun _ => hs (by omega)
      · split at h
        · injection h with h; subst h; simp
        · cases h
theorem rdAll_ne {n : Nat} : ∀ {l : List (List Int)} {s t : List Pt × Nat}, rdAll n l s = some t → (s.2 ≠ 0 → s.1 ≠ []) → t.2 ≠ 0 → t.1 ≠ []
  | [], s, t, h, hs => by simp only [rdAll, Option.some.injEq] at h; subst h; exact hs
  | x :: r, s, t, h, hs => by
    simp only [rdAll] at h
    obtain ⟨u, hu, h⟩ := Option.bind_eq_some_iff.1 h
    exact rdAll_ne h (rdStep_ne hu hs)
def Sz (ps : List Pt) (i : Nat) : Prop := ps.length ≤ i ∧ ∀ p ∈ ps, p.text.length ≤ 5000000 * i ∧ p.s0.length ≤ 5000000 * i ∧ p.s1.length ≤ 5000000 * i ∧ p.s2.length ≤ 5000000 * i
theorem sz_nil : Sz [] 0 := ⟨Nat.zero_le _, by simp⟩
theorem sz_mono {ps : List Pt} {i : Nat} (h : Sz ps i) : Sz ps (i + 1) := ⟨by have := h.1; omega, fun p hp => by have := h.2 p hp; omega⟩
theorem sz_push {ps : List Pt} {i : Nat} (h : Sz ps i) (rg : Bool) : Sz (ps ++ [nwPt rg]) (i + 1) := ⟨by have := h.1; simp; omega, fun p hp => by
  rcases List.mem_append.1 hp with hp | hp
  · have := h.2 p hp; omega
  · rw [List.mem_singleton] at hp; subst hp; simp⟩
theorem sz_push0 {i : Nat} (h : Sz [] i) (rg : Bool) : Sz ([] ++ [nwPt rg]) (i + 1) := sz_push h rg
theorem sz_app {ps : List Pt} {i : Nat} (h : Sz ps i) (rg : Bool) {x : List Int} (hx : x.length ≤ 5000000) (k : Nat) : Sz (ps ++ [addF (nwPt rg) x k]) (i + 1) := ⟨by have := h.1; simp; omega, fun p hp => by
  rcases List.mem_append.1 hp with hp | hp
  · have := h.2 p hp; omega
  · rw [List.mem_singleton] at hp; subst hp
    rcases k with _ | _ | _ | k <;> simp only [addF, List.length_append, List.length_nil] <;> omega⟩
theorem sz_fld {p : Pt} {m : Nat} (h : p.text.length ≤ m ∧ p.s0.length ≤ m ∧ p.s1.length ≤ m ∧ p.s2.length ≤ m) (k : Nat) : (fld p k).length ≤ m := by
  rcases k with _ | _ | _ | k
  · exact h.1
  · exact h.2.1
  · exact h.2.2.1
  · exact h.2.2.2
theorem sz_add {fr : List Pt} {p : Pt} {i : Nat} (h : Sz (fr ++ [p]) i) (x : List Int) (hx : x.length ≤ 5000000) (k : Nat) : Sz (fr ++ [addF p x k]) (i + 1) := ⟨by have := h.1; simp at this ⊢; omega, fun q hq => by
  rcases List.mem_append.1 hq with hq | hq
  · have := h.2 q (List.mem_append_left _ hq); omega
  · rw [List.mem_singleton] at hq; subst hq
    have := h.2 p (by simp)
    rcases k with _ | _ | _ | k <;> simp only [addF, List.length_append] <;> omega⟩
end Go.Proofs.YtnnnbeimehfiiaaDoor.Q

-- Written by a program of this session (wip/gen_read.py) for this claim; Lean checks it.
/-! mark.Read, walked. -/
set_option linter.unusedVariables false
set_option linter.unusedSimpArgs false
namespace Go.Proofs.YtnnnbeimehfiiaaDoor.Q
open Go Go.RowKit Go.Proofs.YtnnnbeimehfiiaaDoorW.PrintWords Go.Proofs.YtnnnbeimehfiiaaDoorW.PrintLast Go.Proofs.YtnnnbeimehfiiaaDoorW.PrintMore Go.Proofs.YtnnnbeimehfiiaaDoorW.SL
attribute [local go_sem] max2_int min2_int max_two min_two max_three min_three max_four min_four
def mread.T17 : Bool × List (List Nat × List Nat) := (true, [([], []), ([], []), ([], []), ([2], [2]), ([], []), ([], []), ([], []), ([6], [6]), ([4, 5], [4, 5]), ([8], [8]), ([9, 7], [7, 9]), ([10], [10]), ([], []), ([11, 12], [11, 12]), ([0, 1], [0, 1]), ([14], [14]), ([15, 3, 0, 1, 2, 3, 4, 5, 6, 7, 8, 9, 10, 11, 12, 13], [3, 15]), ([16, 13, 13, 0, 1, 2, 3, 4, 5, 6, 7, 8, 9, 10, 11, 12, 13], [13, 16])])
def mread.B17 : List Nat := [0, 0, 0, 4, 0, 0, 0, 64, 48, 304, 1008, 2032, 0, 8176, 3, 16387, 65535, 131071]
theorem mread.tab17 : rtab .any (opsOf Tryd.f9 17) = mread.T17 := by kernel_rfl
theorem mread.bits17 : waitsOk mread.T17.2 mread.B17 = true := by kernel_rfl
theorem inf50 : (Tryd.prog.info? 50).map (fun i => (i.zero, i.size, i.bytes)) = some (some (.agg #[.bool false, .slice none 0 0, .slice none 0 0, .slice none 0 0, .slice none 0 0]), 5, 104) := by kernel_rfl
set_option maxHeartbeats 16000000 in
set_option maxRecDepth 100000 in
theorem read_calls (n : Int) (A : Option Addr) (c : Nat) (b : List Int) (w : World) (hr : Kd.C B8 w A b.length b) (hc : b.length ≤ c) (hb : ∀ x ∈ b, byte x) (hlen : b.length ≤ 5000000) :
  Calls Tryd.prog 9 #[.int .i64 n, .slice A b.length c] w fun e w' => ∃ (A' : Option Addr) (c' : Nat), e = .returned (.tuple #[.slice A' (readOf n b).1.length c', .int .i64 (readOf n b).2]) ∧ (readOf n b).1.length ≤ c' ∧ Kd.C kP w' A' (readOf n b).1.length (readOf n b).1 ∧ Below w.heap.size w w' := by
 have HR := Aside0.mk hr; have HC := Aside0.mk hc; have HB := Aside0.mk hb; have HLEN := Aside0.mk hlen
 clear hr hc hb hlen
 by_cases hn : n ≥ 1 ∧ n ≤ 16777216
 · have hright : mark_right.f n = some true := by unfold mark_right.f; rw [if_pos hn.1]; simp [hn.2]
   obtain ⟨N, hN⟩ := Int.eq_ofNat_of_zero_le (by omega : 0 ≤ n)
   have hN1 : 1 ≤ N := by omega
   have hres : readOf n b = match rdAll N (linesOf b) ([], 0) with | some (ps, st) => if st = 0 then (ps, 0) else ([], 5) | none => ([], 5) := by
     unfold readOf; rw [if_pos hn, hN]; rfl
   obtain ⟨R, hR⟩ : ∃ R, readOf n b = R := ⟨_, rfl⟩
   rw [hR] at hres ⊢
   have HRES := Aside0.mk hres; have HRT := Aside0.mk hright
   clear hres hR hn hright
   subst hN
   obtain ⟨L, hL⟩ : ∃ L, linesOf b = L := ⟨_, rfl⟩
   rw [hL] at HRES
   have HLN := Aside0.mk (show L.length ≤ 5000000 by rw [← hL]; exact Nat.le_trans (linesOf_len b) HLEN.out)
   have HLX := Aside0.mk (show ∀ x ∈ L, x ≠ [] ∧ (∀ y ∈ x, byte y) ∧ x.length ≤ 5000000 by rw [← hL]; exact fun x hx => ⟨linesOf_ne b x hx, linesOf_all byte b x HB.out hx, Nat.le_trans (linesOf_mem b x hx) HLEN.out⟩)
   replace hL := Aside0.mk hL
   go_enter Tryd.func9, Tryd.ntmps9
   go_wp2_with (first | (go_at_call 24; refine (mark_right.calls _ true _ HRT.out).mono ?_; rintro e w1 ⟨rfl, hb1⟩; replace hb1 := drawn_below hb1) | (go_at_call 25; refine (split_calls A c b _ (Kd.C_below HR.out hb1) HC.out HB.out (by have := HLEN.out; omega)).mono ?_; rintro e w2 ⟨vl, rfl, hR, hb2⟩; rw [hL.out] at hR; obtain ⟨AL, cL, rfl, hrd⟩ := rd_R hR; replace hR := Aside0.mk hR))
   have hF0 : ∀ a ∈ [rdV kB AL cL L], a.P w2 (fun k => k < w2.heap.size) := by
     intro a ha; rw [List.mem_singleton] at ha; subst ha
     exact FA.step _ hrd (fun _ _ _ => rfl) (fun k hk => hk.2)
   have HS := Aside0.mk (RdI.start (Stt.start w2 hF0))
   have hB2 := Aside0.mk (hb1.trans (below_lo hb2 hb1.size))
   clear hF0 hrd hb1 hb2
   go_loopg [6, 7, 18] L.length (fun kq v6 v7 v18 w'' => ∃ (ps : List Pt) (ii sti : Int) (i : Nat), v18 = .int .i64 ii ∧ Aside0 (ii = (i : Int)) ∧ v7 = .int .i64 sti ∧ (sti = 0 ∨ sti = 1 ∨ sti = 2 ∨ sti = 3) ∧ i ≤ L.length ∧ kq = L.length - i ∧ Aside0 (rdAll N (L.take i) ([], 0) = some (ps, sti.toNat)) ∧ Aside0 (Sz ps i) ∧ Aside0 (RdI w2 [rdV kB AL cL L] ps v6 w''))
   case atStart => exact ⟨[], 0, 0, 0, rfl, ⟨rfl⟩, rfl, .inl rfl, Nat.zero_le _, rfl, ⟨rfl⟩, ⟨sz_nil⟩, HS⟩
   case round =>
    obtain ⟨ps, ii, sti, i, rfl, hii, rfl, hst, hi, hgk, hall, hsz, hI⟩ := hrel
    obtain ⟨wb, rfl⟩ : ∃ q, q = wr := ⟨_, rfl⟩
    by_cases hin : ii < (L.length : Int)
    · have p0 : 0 ≤ ii := by have := hii.out; omega
      obtain ⟨Z, hZ⟩ := hI.out.fr
      have hrd : (rdV kB AL cL L).P wb Z := hZ _ (by simp)
      obtain ⟨al, cs, eA, hcl, hFK, hcc, _⟩ := Kd.F_get hrd.2 [] ii p0 hin
      subst eA
      obtain ⟨x, hx⟩ : ∃ x, x = L.getD ii.toNat [] := ⟨_, rfl⟩
      rw [← hx] at hFK
      have hxi : L[i]? = some x := by
        rw [hx, hii.out]; have : i < L.length := by have := hii.out; omega
        simp [List.getD_eq_getElem?_getD, List.getElem?_eq_getElem this]
      have hxm := HLX.out x (List.mem_of_getElem? hxi)
      obtain ⟨AX, cX, rfl, hxc, hxC⟩ := Kd.FK_now hFK
      obtain ⟨ax, rfl, _⟩ := hxC.2.2 (by have := hxm.1; cases x with | nil => exact absurd rfl this | cons _ _ => simp)
      have hx0 : wb.cell? (al.add (ii.toNat * 1)) = some (.slice (some ax) x.length cX) := hcc 0 _ rfl
      have hx0' : wb.cell? (al.add ii.toNat) = some (.slice (some ax) x.length cX) := by simpa using hx0
      have HX := Aside0.mk (⟨hxi, hxm, hxc, hxC, hi, hgk⟩ : _ ∧ _ ∧ _ ∧ _ ∧ _ ∧ _)
      have HMK := Aside0.mk (markerOf_calls N hN1 (some ax) cX x wb hxC hxc hxm.2.1 (by have := hxm.2.2; omega))
      have hnext := Aside0.mk (rdAll_next hall.out hxi)
      have hsg := mkOf_cases hN1 x
      have hi5_ : i ≤ 5000000 := by have := HLN.out; omega
      obtain ⟨Ao, co, evo, hoc, _⟩ := hI.out.out
      obtain ⟨m, hm⟩ : ∃ m, m = ps.length := ⟨_, rfl⟩
      rw [← hm] at evo
      subst evo
      replace hm := Aside0.mk hm
      have hw1 : wrap64 (ii + 1) = ii + 1 := by have := hii.out; unfold wrap64; omega
      have hinb := eq_true hin
      have p0b := eq_true p0
      have hi5 : i ≤ 5000000 := by have := HLN.out; omega
      have hps5 := Aside0.mk (Nat.le_trans hsz.out.1 hi5)
      clear hZ hrd hcl hFK hcc hx hxi hxm hxc hxC hi hgk hoc
      obtain ⟨sg, hsgq⟩ : ∃ sg, mkOf N x = sg := ⟨_, rfl⟩
      rw [hsgq] at hsg HMK
      replace hsgq := Aside0.mk hsgq
      rcases hsg with rfl | hsg
      · rcases hst with rfl | rfl | rfl | rfl
        · skip
          have hx1_ : wb.cell? (al.add i) = some (.slice (some ax) x.length cX) := by have := hx0'; rwa [show ii.toNat = i by have := hii.out; omega] at this
          have HIX := Aside0.mk (hI.out.wider (rdV B8 (some ax) cX x) (fun Z hZ => row_kept (hZ _ List.mem_cons_self) HX.out.1 hx1_))
          clear hx1_
          obtain rfl | ⟨fr, ⟨rg, T, S0, S1, S2⟩, rfl⟩ := snoc_cases ps
          · obtain rfl : m = 0 := hm.out
            have hyes : rdStep N ([], 0) x = some ([] ++ [addF (nwPt false) x 0], 0) := by simp [rdStep, hsgq.out, addF]
            go_wp2_with (first | ((go_at_call 26; refine HMK.out.mono ?_; rintro e w3 ⟨rfl, hb3⟩); have hI3 := HIX.out.keep hb3) | ((with_reducible refine gate_builtin (b := .append) (xs := #[.tmp 44, .tmp 46]) rfl ?_); at_builtin; refine app_push rfl (.tmp 44) (.tmp 46) 104 rfl Tryd.underlying23 inf50 (by decide) hI3 hps5.out _ rfl false rfl rfl ?_; intro Ao2 co2 w4 hI4; obtain ⟨Zx, hZx⟩ := hI4.fr; have hxC4 := Kd.F_now (hZx (rdV B8 (some ax) cX x) (by simp)).2; obtain ⟨ad4, _, vk_, e1, hreg, hcell, hown, hstep⟩ := hI4.at0 0 (by decide) x; obtain ⟨ak_, ck_, rfl, _⟩ := own_form hown; injection e1 with e1 _ ec; subst e1 ec) | ((with_reducible refine gate_builtin (b := .append) (xs := #[.tmp 56, .tmp 57]) rfl ?_); at_builtin; refine app_spread rfl (.tmp 56) (.tmp 57) rfl Tryd.underlying22 inf5 _ _ _ x ax cX rfl rfl hown (hxC4) ?hl ?_; (case hl => simp [fld]; have := HX.out.2.1.2.2; omega); intro v5_ w5 ho5 hg5 hat5; obtain ⟨A5, c5, rfl, _⟩ := own_form ho5; obtain ⟨hk1, hk2, hI5⟩ := hstep w5 _ ho5 hg5 hat5))
            go_roundg (L.length - (i + 1))
            case rel => exact ⟨[] ++ [addF (nwPt false) x 0], wrap64 (ii + 1), 0, i + 1, by first | rfl | (simp; done) | (simp [hw1]; done), ⟨by rw [hw1]; have := hii.out; omega⟩, by first | rfl | (simp; done), by simp, by have := hii.out; omega, rfl, Aside0.mk (hnext.out.trans hyes), ⟨sz_app hsz.out false HX.out.2.1.2.2 0⟩, ⟨hI5.less⟩⟩
            case measure => have := hii.out; have := HX.out.2.2.2.2.2; omega
          · obtain rfl : m = fr.length + 1 := by rw [hm.out]; simp
            have hwj : wrap64 (fr.length : Int) = (fr.length : Int) := by have := hps5.out; simp at this; unfold wrap64; omega
            cases rg with
            | false =>
              have hyes : rdStep N (fr ++ [⟨false, T, S0, S1, S2⟩], 0) x = some (fr ++ [addF ⟨false, T, S0, S1, S2⟩ x 0], 0) := by simp [rdStep, hsgq.out, onLast_snoc, addF, addText]
              obtain ⟨ad, cap, vk, e1, hreg, hcell, hown, _⟩ := hI.out.at 0 (by decide) x
              obtain ⟨ak, ck, rfl, _⟩ := own_form hown
              injection e1 with eA _ ec
              subst eA ec
              have hreg0 := Aside0.mk hreg
              have hcell0 := Aside0.mk hcell
              clear hreg hcell hown
              go_wp2_with (first | ((go_at_call 26; refine HMK.out.mono ?_; rintro e w3 ⟨rfl, hb3⟩); have hI3 := hI.out.keep hb3; obtain ⟨_, _, vk_, e1, hreg, hcell, hown, hstep⟩ := hI3.at 0 (by decide) x; obtain ⟨ak_, ck_, rfl, _⟩ := own_form hown; injection e1 with e1 _ ec; injection e1 with e1; subst e1 ec) | ((with_reducible refine gate_builtin (b := .append) (xs := #[.tmp 56, .tmp 57]) rfl ?_); at_builtin; refine app_spread rfl (.tmp 56) (.tmp 57) rfl Tryd.underlying22 inf5 _ _ _ x ax cX rfl rfl hown (Kd.C_below HX.out.2.2.2.1 hb3) ?hl ?_; (case hl => have := sz_fld (hsz.out.2 _ (List.mem_append_right _ List.mem_cons_self)) 0; have := hi5; have := HX.out.2.1.2.2; simp only [fld] at *; omega); intro v5_ w5 ho5 hg5 hat5; obtain ⟨A5, c5, rfl, _⟩ := own_form ho5; obtain ⟨hk1, hk2, hI5⟩ := hstep w5 _ ho5 hg5 hat5))
              go_roundg (L.length - (i + 1))
              case rel => exact ⟨fr ++ [addF ⟨false, T, S0, S1, S2⟩ x 0], wrap64 (ii + 1), 0, i + 1, by first | rfl | (simp; done) | (simp [hw1]; done), ⟨by rw [hw1]; have := hii.out; omega⟩, by first | rfl | (simp; done), by simp, by have := hii.out; omega, rfl, Aside0.mk (hnext.out.trans hyes), ⟨sz_add hsz.out x HX.out.2.1.2.2 0⟩, ⟨hI5⟩⟩
              case measure => have := hii.out; have := HX.out.2.2.2.2.2; omega
            | true =>
              have hfl : (fr ++ [(⟨true, T, S0, S1, S2⟩ : Pt)]).length = fr.length + 1 := by simp
              have hwj1 : wrap64 ((fr.length : Int) + 1) = (fr.length : Int) + 1 := by have := hps5.out; simp at this; unfold wrap64; omega
              replace hfl := Aside0.mk hfl
              have hyes : rdStep N (fr ++ [⟨true, T, S0, S1, S2⟩], 0) x = some ((fr ++ [⟨true, T, S0, S1, S2⟩]) ++ [addF (nwPt false) x 0], 0) := by simp [rdStep, hsgq.out, addF]
              obtain ⟨ad, cap, vk, e1, hreg, hcell, hown, _⟩ := hI.out.at 0 (by decide) x
              obtain ⟨ak, ck, rfl, _⟩ := own_form hown
              injection e1 with eA _ ec
              subst eA ec
              have hreg0 := Aside0.mk hreg
              clear hreg hcell hown
              go_wp2_with (first | ((go_at_call 26; refine HMK.out.mono ?_; rintro e w3 ⟨rfl, hb3⟩); have hI3 := HIX.out.keep hb3; obtain ⟨_, _, vk_, e1, hreg, hcell, hown, hstep⟩ := hI3.at 0 (by decide) x; injection e1 with e1 _ ec; injection e1 with e1; subst e1 ec; clear hcell hown hstep) | ((with_reducible refine gate_builtin (b := .append) (xs := #[.tmp 44, .tmp 46]) rfl ?_); at_builtin; refine app_push rfl (.tmp 44) (.tmp 46) 104 rfl Tryd.underlying23 inf50 (by decide) hI3 hps5.out _ hfl.out false rfl rfl ?_; intro Ao2 co2 w4 hI4; obtain ⟨Zx, hZx⟩ := hI4.fr; have hxC4 := Kd.F_now (hZx (rdV B8 (some ax) cX x) (by simp)).2; obtain ⟨ad4, _, vk_, e1, hreg, hcell, hown, hstep⟩ := hI4.atj 0 (by decide) x hfl.out; obtain ⟨ak_, ck_, rfl, _⟩ := own_form hown; injection e1 with e1 _ ec; subst e1 ec) | ((with_reducible refine gate_builtin (b := .append) (xs := #[.tmp 56, .tmp 57]) rfl ?_); at_builtin; refine app_spread rfl (.tmp 56) (.tmp 57) rfl Tryd.underlying22 inf5 _ _ _ x ax cX rfl rfl hown (hxC4) ?hl ?_; (case hl => simp [fld]; have := HX.out.2.1.2.2; omega); intro v5_ w5 ho5 hg5 hat5; obtain ⟨A5, c5, rfl, _⟩ := own_form ho5; obtain ⟨hk1, hk2, hI5⟩ := hstep w5 _ ho5 hg5 hat5))
              go_roundg (L.length - (i + 1))
              case rel => exact ⟨_, wrap64 (ii + 1), 0, i + 1, by first | rfl | (simp; done) | (simp [hw1]; done), ⟨by rw [hw1]; have := hii.out; omega⟩, by first | rfl | (simp; done), by simp, by have := hii.out; omega, rfl, Aside0.mk (hnext.out.trans hyes), ⟨sz_app hsz.out false HX.out.2.1.2.2 0⟩, ⟨hI5.less⟩⟩
              case measure => have := hii.out; have := HX.out.2.2.2.2.2; omega
        · skip
          have hpn : ps ≠ [] := rdAll_ne hall.out (fun h => absurd rfl h) (by simp)
          obtain rfl | ⟨fr, p, rfl⟩ := snoc_cases ps
          · exact absurd rfl hpn
          clear hpn
          obtain rfl : m = fr.length + 1 := by rw [hm.out]; simp
          have hwj : wrap64 (fr.length : Int) = (fr.length : Int) := by have := hps5.out; simp at this; unfold wrap64; omega
          have hyes : rdStep N (fr ++ [p], 1) x = some (fr ++ [addF p x 1], 1) := by simp [rdStep, hsgq.out, onLast_snoc, addF, addSide]
          replace hyes := Aside0.mk hyes
          obtain ⟨ad, cap, vk, e1, _, _, _, _⟩ := hI.out.at 1 (by decide) x
          injection e1 with eA _ ec
          subst eA ec
          have hq0 : wrap64 0 = 0 := by unfold wrap64; omega
          have hjj := eq_true (show (fr.length : Int) < (fr.length : Int) + 1 by omega)
          go_wp2_with ((go_at_call 26; refine HMK.out.mono ?_; rintro e w3 ⟨rfl, hb3⟩))
          have hIw := hI.out.keep (below_drew1 hb3)
          have hXw := Kd.C_below HX.out.2.2.2.1 (below_drew1 hb3)
          obtain ⟨_, _, vk, e1, _, hcell, hown, hstep⟩ := hIw.at 1 (by decide) x
          obtain ⟨ak, ck, rfl, _⟩ := own_form hown
          injection e1 with e1 _ ec
          injection e1 with e1
          subst e1 ec
          have hln : (fld p 1).length + x.length ≤ 140737488355328 := by
            have := sz_fld (hsz.out.2 p (List.mem_append_right _ List.mem_cons_self)) 1
            have := hi5; have := HX.out.2.1.2.2; omega
          replace hln := Aside0.mk hln
          have hst_ : ∀ w1 v1, P1 w3.drew (.slice ak (fld p 1).length ck) (fld p 1) x v1 w1 → _ := fun w1 v1 h => hstep w1 v1 h.1 h.2.1 h.2.2
          replace hst_ := Aside0.mk hst_
          replace hown := Aside0.mk hown
          replace hXw := Aside0.mk hXw
          clear hstep hIw
          have E0 := trivial
          refine start_ (n := 18) (S := fun w' => True) (ds := []) #[false, false, false, false, false, false, false, false, false, false, false, false, false, false, false, false, false, false] (by kernel_rfl) rfl rfl trivial (fun hHeld => ?_)
          refine with_tabW mread.tab17 mread.bits17 (fun HT_ HW_ => ?_)
          generalize w3.drew = wd at hcell hown hst_ hXw hHeld ⊢
          refine pure_ (i := 0) (N := some 64) (v := ?_) (a' := ?_) #[true, false, false, false, false, false, false, false, false, false, false, false, false, false, false, false, false, false] rfl rfl (any_of HT_.out (by kernel_rfl)) (fun _ _ _ h => h) (Or.inl ⟨by rfl, ?_⟩) ?_ ?_
          rotate_left
          · intro w'
            go_simp
            with_reducible rfl
          rotate_left
          · simp only [Act.put, List.setIfInBounds_toArray, List.set_cons_zero, List.set_cons_succ, i64_w, i32_w]
            rfl
          refine pure_ (i := 1) (N := some 65) (v := ?_) (a' := ?_) #[true, true, false, false, false, false, false, false, false, false, false, false, false, false, false, false, false, false] rfl rfl (any_of HT_.out (by kernel_rfl)) (fun _ _ _ h => h) (Or.inl ⟨by rfl, ?_⟩) ?_ ?_
          rotate_left
          · intro w'
            go_simp
            with_reducible rfl
          rotate_left
          · simp only [Act.put, List.setIfInBounds_toArray, List.set_cons_zero, List.set_cons_succ, i64_w, i32_w]
            rfl
          refine pure_ (i := 2) (N := some 66) (v := ?_) (a' := ?_) #[true, true, true, false, false, false, false, false, false, false, false, false, false, false, false, false, false, false] rfl rfl (any_of HT_.out (by kernel_rfl)) (fun _ _ _ h => h) (Or.inl ⟨by rfl, ?_⟩) ?_ ?_
          rotate_left
          · intro w'
            go_simp
            with_reducible rfl
          rotate_left
          · simp only [Act.put, List.setIfInBounds_toArray, List.set_cons_zero, List.set_cons_succ, i64_w, i32_w]
            rfl
          refine pure_ (i := 3) (N := some 67) (v := ?_) (a' := ?_) #[true, true, true, true, false, false, false, false, false, false, false, false, false, false, false, false, false, false] rfl rfl (any_of HT_.out (by kernel_rfl)) (fun _ _ _ h => h) (Or.inl ⟨by rfl, ?_⟩) ?_ ?_
          rotate_left
          · intro w'
            go_simp
            with_reducible rfl
          rotate_left
          · simp only [Act.put, List.setIfInBounds_toArray, List.set_cons_zero, List.set_cons_succ, i64_w, i32_w]
            rfl
          refine pure_ (i := 4) (N := some 68) (v := ?_) (a' := ?_) #[true, true, true, true, true, false, false, false, false, false, false, false, false, false, false, false, false, false] rfl rfl (any_of HT_.out (by kernel_rfl)) (fun _ _ _ h => h) (Or.inl ⟨by rfl, ?_⟩) ?_ ?_
          rotate_left
          · intro w'
            go_simp
            with_reducible rfl
          rotate_left
          · simp only [Act.put, List.setIfInBounds_toArray, List.set_cons_zero, List.set_cons_succ, i64_w, i32_w]
            rfl
          refine pure_ (i := 5) (N := some 69) (v := ?_) (a' := ?_) #[true, true, true, true, true, true, false, false, false, false, false, false, false, false, false, false, false, false] rfl rfl (any_of HT_.out (by kernel_rfl)) (fun _ _ _ h => h) (Or.inl ⟨by rfl, ?_⟩) ?_ ?_
          rotate_left
          · intro w'
            go_simp
            with_reducible rfl
          rotate_left
          · simp only [Act.put, List.setIfInBounds_toArray, List.set_cons_zero, List.set_cons_succ, i64_w, i32_w]
            rfl
          refine pure_ (i := 6) (N := some 70) (v := ?_) (a' := ?_) #[true, true, true, true, true, true, true, false, false, false, false, false, false, false, false, false, false, false] rfl rfl (any_of HT_.out (by kernel_rfl)) (fun _ _ _ h => h) (Or.inl ⟨by rfl, ?_⟩) ?_ ?_
          rotate_left
          · intro w'
            go_simp
            with_reducible rfl
          rotate_left
          · simp only [Act.put, List.setIfInBounds_toArray, List.set_cons_zero, List.set_cons_succ, i64_w, i32_w]
            rfl
          refine pure_ (i := 7) (N := some 71) (v := ?_) (a' := ?_) #[true, true, true, true, true, true, true, true, false, false, false, false, false, false, false, false, false, false] rfl rfl (any_of HT_.out (by kernel_rfl)) (fun _ _ _ h => h) (Or.inl ⟨by rfl, ?_⟩) ?_ ?_
          rotate_left
          · intro w'
            go_simp
            with_reducible rfl
          rotate_left
          · simp only [Act.put, List.setIfInBounds_toArray, List.set_cons_zero, List.set_cons_succ, i64_w, i32_w]
            rfl
          refine pure_ (i := 8) (N := some 72) (v := ?_) (a' := ?_) #[true, true, true, true, true, true, true, true, true, false, false, false, false, false, false, false, false, false] rfl rfl (any_of HT_.out (by kernel_rfl)) (fun _ _ _ h => h) (Or.inl ⟨by rfl, ?_⟩) ?_ ?_
          rotate_left
          · intro w'
            go_simp
            with_reducible rfl
          rotate_left
          · simp only [Act.put, List.setIfInBounds_toArray, List.set_cons_zero, List.set_cons_succ, i64_w, i32_w]
            rfl
          refine pure_ (i := 9) (N := some 73) (v := ?_) (a' := ?_) #[true, true, true, true, true, true, true, true, true, true, false, false, false, false, false, false, false, false] rfl rfl (any_of HT_.out (by kernel_rfl)) (fun _ _ _ h => h) (Or.inl ⟨by rfl, ?_⟩) ?_ ?_
          rotate_left
          · intro w'
            go_simp
            with_reducible rfl
          rotate_left
          · simp only [Act.put, List.setIfInBounds_toArray, List.set_cons_zero, List.set_cons_succ, i64_w, i32_w]
            rfl
          refine pure_ (i := 10) (N := some 74) (v := ?_) (a' := ?_) #[true, true, true, true, true, true, true, true, true, true, true, false, false, false, false, false, false, false] rfl rfl (any_of HT_.out (by kernel_rfl)) (fun _ _ _ h => h) (Or.inl ⟨by rfl, ?_⟩) ?_ ?_
          rotate_left
          · intro w'
            go_simp
            with_reducible rfl
          rotate_left
          · simp only [Act.put, List.setIfInBounds_toArray, List.set_cons_zero, List.set_cons_succ, i64_w, i32_w]
            rfl
          refine pure_ (i := 12) (N := some 76) (v := ?_) (a' := ?_) #[true, true, true, true, true, true, true, true, true, true, true, false, true, false, false, false, false, false] rfl rfl (any_of HT_.out (by kernel_rfl)) (fun _ _ _ h => h) (Or.inl ⟨by rfl, ?_⟩) ?_ ?_
          rotate_left
          · intro w'
            go_simp
            with_reducible rfl
          rotate_left
          · simp only [Act.put, List.setIfInBounds_toArray, List.set_cons_zero, List.set_cons_succ, i64_w, i32_w]
            rfl
          refine pure_ (i := 14) (N := some 78) (v := ?_) (a' := ?_) #[true, true, true, true, true, true, true, true, true, true, true, false, true, false, true, false, false, false] rfl rfl (any_of HT_.out (by kernel_rfl)) (fun _ _ _ h => h) (Or.inl ⟨by rfl, ?_⟩) ?_ ?_
          rotate_left
          · intro w'
            go_simp
            with_reducible rfl
          rotate_left
          · simp only [Act.put, List.setIfInBounds_toArray, List.set_cons_zero, List.set_cons_succ, i64_w, i32_w]
            rfl
          refine pure_ (i := 15) (N := some 79) (v := ?_) (a' := ?_) #[true, true, true, true, true, true, true, true, true, true, true, false, true, false, true, true, false, false] rfl rfl (any_of HT_.out (by kernel_rfl)) (fun _ _ _ h => h) (Or.inl ⟨by rfl, ?_⟩) ?_ ?_
          rotate_left
          · intro w'
            go_simp
            with_reducible rfl
          rotate_left
          · simp only [Act.put, List.setIfInBounds_toArray, List.set_cons_zero, List.set_cons_succ, i64_w, i32_w]
            rfl
          refine inv_at [11, 13, 16, 17] (fun a0_ b a w' => ∃ (vv : Value), a = putSel a0_ b [(11, 75, .slice ak (fld p 1).length ck), (13, 77, vv), (16, 80, .pointer (some ⟨(ad.add (fr.length * 5)).block, (ad.add (fr.length * 5)).off + 2, none⟩))] ∧ (b 13 = false → w' = wd) ∧ (b 13 = true → b 17 = false → P1 wd (.slice ak (fld p 1).length ck) (fld p 1) x vv w') ∧ (b 17 = true → P2 wd (.slice ak (fld p 1).length ck) (fld p 1) x ⟨(ad.add (fr.length * 5)).block, (ad.add (fr.length * 5)).off + 2, none⟩ vv w')) HT_.out HW_.out (by kernel_rfl) (by kernel_rfl) ?_ ?_ ?_
          · exact ⟨.bool false, by simp only [putSel, Bool.false_eq_true, if_false], fun _ => rfl, fun h_ => absurd h_ (by decide), fun h_ => absurd h_ (by decide)⟩
          · skip
            clear E0
            refine steps_cons ?_ ?_
            · rintro b a w' ⟨vv, ha, Q_E0, Q_E1, Q_E2⟩ hb_ hon hoff
              refine ⟨_, rfl, fun K hK => ?_⟩
              have e74 : a.tmps[74]? = some (.pointer (some ⟨(ad.add (fr.length * 5)).block, (ad.add (fr.length * 5)).off + 2, none⟩)) := by rw [ha]; exact (putSel_off rfl).trans rfl
              replace ha := Aside0.mk ha
              have E0 := Aside0.mk (Q_E0 (hoff 13 (by kernel_rfl)))
              have hw_ := E0.out
              have hc_ := hcell
              rw [← hw_] at hc_
              refine value_ (w1 := w') (v := .slice ak (fld p 1).length ck) (by rfl) rfl ?_ ?_
              · go_simp
                (try simp only [i64_w])
                try rfl
              refine hK.out _ _ ⟨vv, (by rw [ha.out]; exact putSel_upk 0 hb_ rfl rfl rfl), Q_E0, fun h0_ _ => absurd ((hoff 13 (by kernel_rfl)).symm.trans h0_) (by decide), fun h0_ => absurd ((hoff 17 (by kernel_rfl)).symm.trans h0_) (by decide)⟩
            refine steps_cons ?_ ?_
            · rintro b a w' ⟨vv, ha, Q_E0, Q_E1, Q_E2⟩ hb_ hon hoff
              refine ⟨_, rfl, fun K hK => ?_⟩
              have e75 : a.tmps[75]? = some (.slice ak (fld p 1).length ck) := by rw [ha]; exact putSel_on (e := (11, 75, .slice ak (fld p 1).length ck)) 0 rfl rfl (hon 11 (by kernel_rfl)) rfl
              have e76 : a.tmps[76]? = some (.slice (some ax) x.length cX) := by rw [ha]; exact (putSel_off rfl).trans rfl
              replace ha := Aside0.mk ha
              have E0 := Aside0.mk (Q_E0 hb_)
              have hw_ := E0.out
              refine app_spread_step (by rfl) (.tmp 75) (.tmp 76) rfl Tryd.underlying22 inf5 (.slice ak (fld p 1).length ck) _ (us8 (fld p 1)) x ax cX (eval_of e75) (eval_of e76) (hw_ ▸ hown.out) (hw_ ▸ hXw.out) hln.out ?_
              intro v1 w1 ho hg hat
              have S3_ : P1 wd (.slice ak (fld p 1).length ck) (fld p 1) x v1 w1 := ⟨ho, hw_ ▸ hg, hw_ ▸ hat⟩
              refine hK.out _ _ ⟨v1, (by rw [ha.out]; exact putSel_upk 1 hb_ rfl rfl rfl), fun h0_ => absurd ((up_self b 13).symm.trans h0_) (by decide), fun _ _ => S3_, fun h0_ => absurd ((hoff 17 (by kernel_rfl)).symm.trans h0_) (by decide)⟩
            refine steps_cons ?_ ?_
            · rintro b a w' ⟨vv, ha, Q_E0, Q_E1, Q_E2⟩ hb_ hon hoff
              refine ⟨_, rfl, fun K hK => ?_⟩
              have e79 : a.tmps[79]? = some (.pointer (some ⟨(ad.add (fr.length * 5)).block, (ad.add (fr.length * 5)).off + 2, none⟩)) := by rw [ha]; exact (putSel_off rfl).trans rfl
              have e67 : a.tmps[67]? = some (.int .i64 (wrap64 0)) := by rw [ha]; exact (putSel_off rfl).trans rfl
              replace ha := Aside0.mk ha
              have E1 := Aside0.mk (Q_E1 (hon 13 (by kernel_rfl)) (hoff 17 (by kernel_rfl)))
              refine value_ (w1 := w') (v := .pointer (some ⟨(ad.add (fr.length * 5)).block, (ad.add (fr.length * 5)).off + 2, none⟩)) (by rfl) rfl ?_ ?_
              · go_simp
                (try simp only [i64_w])
                try rfl
              refine hK.out _ _ ⟨vv, (by rw [ha.out]; exact putSel_upk 2 hb_ rfl rfl rfl), fun h0_ => absurd ((hon 13 (by kernel_rfl)).symm.trans h0_) (by decide), Q_E1, fun h0_ => absurd ((hoff 17 (by kernel_rfl)).symm.trans h0_) (by decide)⟩
            refine steps_cons ?_ ?_
            · rintro b a w' ⟨vv, ha, Q_E0, Q_E1, Q_E2⟩ hb_ hon hoff
              refine ⟨_, rfl, fun K hK => ?_⟩
              have e80 : a.tmps[80]? = some (.pointer (some ⟨(ad.add (fr.length * 5)).block, (ad.add (fr.length * 5)).off + 2, none⟩)) := by rw [ha]; exact putSel_on (e := (16, 80, .pointer (some ⟨(ad.add (fr.length * 5)).block, (ad.add (fr.length * 5)).off + 2, none⟩))) 2 rfl rfl (hon 16 (by kernel_rfl)) rfl
              have e77 : a.tmps[77]? = some (vv) := by rw [ha]; exact putSel_on (e := (13, 77, vv)) 1 rfl rfl (hon 13 (by kernel_rfl)) rfl
              replace ha := Aside0.mk ha
              have E1 := Aside0.mk (Q_E1 (hon 13 (by kernel_rfl)) hb_)
              obtain ⟨A_, c_, en_⟩ := E1.out.form
              obtain ⟨hc_, hf_, _⟩ := hst_.out w' vv E1.out
              refine skip_ (w1 := w'.setCell ⟨(ad.add (fr.length * 5)).block, (ad.add (fr.length * 5)).off + 2, none⟩ vv) (by rfl) rfl ?_ ?_
              · rw [en_] at e77 ⊢
                go_simp
                try rfl
              have S3_ := E1.out
              refine hK.out _ _ ⟨vv, (by rw [ha.out]; exact putSel_none (v := undef) rfl), fun h0_ => absurd ((hon 13 (by kernel_rfl)).symm.trans h0_) (by decide), fun _ h1_ => absurd ((up_self b 17).symm.trans h1_) (by decide), fun _ => ⟨w', S3_, rfl⟩⟩
            exact steps_nil
          · rintro b a w' hall ⟨vv, ha, Q_E0, Q_E1, Q_E2⟩
            clear E0
            have hb11_ := hall 11 (by kernel_rfl)
            have hb13_ := hall 13 (by kernel_rfl)
            have hb16_ := hall 16 (by kernel_rfl)
            have hb17_ := hall 17 (by kernel_rfl)
            subst ha
            simp only [putSel, hb11_, hb13_, hb16_, hb17_, if_true, Act.put, List.setIfInBounds_toArray, List.set_cons_zero, List.set_cons_succ]
            clear Q_E0
            clear Q_E1
            have E2 := Aside0.mk (Q_E2 hb17_)
            clear Q_E2
            clear hall hb11_ hb13_ hb16_ hb17_
            obtain ⟨w1_, h1_, rfl⟩ := E2.out
            obtain ⟨_, _, hI5⟩ := hst_.out w1_ vv h1_
            go_wp2
            go_roundg (L.length - (i + 1))
            case rel => exact ⟨_, wrap64 (ii + 1), 1, i + 1, by first | rfl | (simp; done) | (simp [hw1]; done), ⟨by rw [hw1]; have := hii.out; omega⟩, by first | rfl | (simp; done), by simp, by have := hii.out; omega, rfl, Aside0.mk (hnext.out.trans hyes.out), ⟨sz_add hsz.out x HX.out.2.1.2.2 1⟩, ⟨hI5⟩⟩
            case measure => have := hii.out; have := HX.out.2.2.2.2.2; omega
        · skip
          have hpn : ps ≠ [] := rdAll_ne hall.out (fun h => absurd rfl h) (by simp)
          obtain rfl | ⟨fr, p, rfl⟩ := snoc_cases ps
          · exact absurd rfl hpn
          clear hpn
          obtain rfl : m = fr.length + 1 := by rw [hm.out]; simp
          have hwj : wrap64 (fr.length : Int) = (fr.length : Int) := by have := hps5.out; simp at this; unfold wrap64; omega
          have hyes : rdStep N (fr ++ [p], 2) x = some (fr ++ [addF p x 2], 2) := by simp [rdStep, hsgq.out, onLast_snoc, addF, addSide]
          replace hyes := Aside0.mk hyes
          obtain ⟨ad, cap, vk, e1, _, _, _, _⟩ := hI.out.at 2 (by decide) x
          injection e1 with eA _ ec
          subst eA ec
          have hq0 : wrap64 1 = 1 := by unfold wrap64; omega
          have hjj := eq_true (show (fr.length : Int) < (fr.length : Int) + 1 by omega)
          go_wp2_with ((go_at_call 26; refine HMK.out.mono ?_; rintro e w3 ⟨rfl, hb3⟩))
          have hIw := hI.out.keep (below_drew1 hb3)
          have hXw := Kd.C_below HX.out.2.2.2.1 (below_drew1 hb3)
          obtain ⟨_, _, vk, e1, _, hcell, hown, hstep⟩ := hIw.at 2 (by decide) x
          obtain ⟨ak, ck, rfl, _⟩ := own_form hown
          injection e1 with e1 _ ec
          injection e1 with e1
          subst e1 ec
          have hln : (fld p 2).length + x.length ≤ 140737488355328 := by
            have := sz_fld (hsz.out.2 p (List.mem_append_right _ List.mem_cons_self)) 2
            have := hi5; have := HX.out.2.1.2.2; omega
          replace hln := Aside0.mk hln
          have hst_ : ∀ w1 v1, P1 w3.drew (.slice ak (fld p 2).length ck) (fld p 2) x v1 w1 → _ := fun w1 v1 h => hstep w1 v1 h.1 h.2.1 h.2.2
          replace hst_ := Aside0.mk hst_
          replace hown := Aside0.mk hown
          replace hXw := Aside0.mk hXw
          clear hstep hIw
          have E0 := trivial
          refine start_ (n := 18) (S := fun w' => True) (ds := []) #[false, false, false, false, false, false, false, false, false, false, false, false, false, false, false, false, false, false] (by kernel_rfl) rfl rfl trivial (fun hHeld => ?_)
          refine with_tabW mread.tab17 mread.bits17 (fun HT_ HW_ => ?_)
          generalize w3.drew = wd at hcell hown hst_ hXw hHeld ⊢
          refine pure_ (i := 0) (N := some 64) (v := ?_) (a' := ?_) #[true, false, false, false, false, false, false, false, false, false, false, false, false, false, false, false, false, false] rfl rfl (any_of HT_.out (by kernel_rfl)) (fun _ _ _ h => h) (Or.inl ⟨by rfl, ?_⟩) ?_ ?_
          rotate_left
          · intro w'
            go_simp
            with_reducible rfl
          rotate_left
          · simp only [Act.put, List.setIfInBounds_toArray, List.set_cons_zero, List.set_cons_succ, i64_w, i32_w]
            rfl
          refine pure_ (i := 1) (N := some 65) (v := ?_) (a' := ?_) #[true, true, false, false, false, false, false, false, false, false, false, false, false, false, false, false, false, false] rfl rfl (any_of HT_.out (by kernel_rfl)) (fun _ _ _ h => h) (Or.inl ⟨by rfl, ?_⟩) ?_ ?_
          rotate_left
          · intro w'
            go_simp
            with_reducible rfl
          rotate_left
          · simp only [Act.put, List.setIfInBounds_toArray, List.set_cons_zero, List.set_cons_succ, i64_w, i32_w]
            rfl
          refine pure_ (i := 2) (N := some 66) (v := ?_) (a' := ?_) #[true, true, true, false, false, false, false, false, false, false, false, false, false, false, false, false, false, false] rfl rfl (any_of HT_.out (by kernel_rfl)) (fun _ _ _ h => h) (Or.inl ⟨by rfl, ?_⟩) ?_ ?_
          rotate_left
          · intro w'
            go_simp
            with_reducible rfl
          rotate_left
          · simp only [Act.put, List.setIfInBounds_toArray, List.set_cons_zero, List.set_cons_succ, i64_w, i32_w]
            rfl
          refine pure_ (i := 3) (N := some 67) (v := ?_) (a' := ?_) #[true, true, true, true, false, false, false, false, false, false, false, false, false, false, false, false, false, false] rfl rfl (any_of HT_.out (by kernel_rfl)) (fun _ _ _ h => h) (Or.inl ⟨by rfl, ?_⟩) ?_ ?_
          rotate_left
          · intro w'
            go_simp
            with_reducible rfl
          rotate_left
          · simp only [Act.put, List.setIfInBounds_toArray, List.set_cons_zero, List.set_cons_succ, i64_w, i32_w]
            rfl
          refine pure_ (i := 4) (N := some 68) (v := ?_) (a' := ?_) #[true, true, true, true, true, false, false, false, false, false, false, false, false, false, false, false, false, false] rfl rfl (any_of HT_.out (by kernel_rfl)) (fun _ _ _ h => h) (Or.inl ⟨by rfl, ?_⟩) ?_ ?_
          rotate_left
          · intro w'
            go_simp
            with_reducible rfl
          rotate_left
          · simp only [Act.put, List.setIfInBounds_toArray, List.set_cons_zero, List.set_cons_succ, i64_w, i32_w]
            rfl
          refine pure_ (i := 5) (N := some 69) (v := ?_) (a' := ?_) #[true, true, true, true, true, true, false, false, false, false, false, false, false, false, false, false, false, false] rfl rfl (any_of HT_.out (by kernel_rfl)) (fun _ _ _ h => h) (Or.inl ⟨by rfl, ?_⟩) ?_ ?_
          rotate_left
          · intro w'
            go_simp
            with_reducible rfl
          rotate_left
          · simp only [Act.put, List.setIfInBounds_toArray, List.set_cons_zero, List.set_cons_succ, i64_w, i32_w]
            rfl
          refine pure_ (i := 6) (N := some 70) (v := ?_) (a' := ?_) #[true, true, true, true, true, true, true, false, false, false, false, false, false, false, false, false, false, false] rfl rfl (any_of HT_.out (by kernel_rfl)) (fun _ _ _ h => h) (Or.inl ⟨by rfl, ?_⟩) ?_ ?_
          rotate_left
          · intro w'
            go_simp
            with_reducible rfl
          rotate_left
          · simp only [Act.put, List.setIfInBounds_toArray, List.set_cons_zero, List.set_cons_succ, i64_w, i32_w]
            rfl
          refine pure_ (i := 7) (N := some 71) (v := ?_) (a' := ?_) #[true, true, true, true, true, true, true, true, false, false, false, false, false, false, false, false, false, false] rfl rfl (any_of HT_.out (by kernel_rfl)) (fun _ _ _ h => h) (Or.inl ⟨by rfl, ?_⟩) ?_ ?_
          rotate_left
          · intro w'
            go_simp
            with_reducible rfl
          rotate_left
          · simp only [Act.put, List.setIfInBounds_toArray, List.set_cons_zero, List.set_cons_succ, i64_w, i32_w]
            rfl
          refine pure_ (i := 8) (N := some 72) (v := ?_) (a' := ?_) #[true, true, true, true, true, true, true, true, true, false, false, false, false, false, false, false, false, false] rfl rfl (any_of HT_.out (by kernel_rfl)) (fun _ _ _ h => h) (Or.inl ⟨by rfl, ?_⟩) ?_ ?_
          rotate_left
          · intro w'
            go_simp
            with_reducible rfl
          rotate_left
          · simp only [Act.put, List.setIfInBounds_toArray, List.set_cons_zero, List.set_cons_succ, i64_w, i32_w]
            rfl
          refine pure_ (i := 9) (N := some 73) (v := ?_) (a' := ?_) #[true, true, true, true, true, true, true, true, true, true, false, false, false, false, false, false, false, false] rfl rfl (any_of HT_.out (by kernel_rfl)) (fun _ _ _ h => h) (Or.inl ⟨by rfl, ?_⟩) ?_ ?_
          rotate_left
          · intro w'
            go_simp
            with_reducible rfl
          rotate_left
          · simp only [Act.put, List.setIfInBounds_toArray, List.set_cons_zero, List.set_cons_succ, i64_w, i32_w]
            rfl
          refine pure_ (i := 10) (N := some 74) (v := ?_) (a' := ?_) #[true, true, true, true, true, true, true, true, true, true, true, false, false, false, false, false, false, false] rfl rfl (any_of HT_.out (by kernel_rfl)) (fun _ _ _ h => h) (Or.inl ⟨by rfl, ?_⟩) ?_ ?_
          rotate_left
          · intro w'
            go_simp
            with_reducible rfl
          rotate_left
          · simp only [Act.put, List.setIfInBounds_toArray, List.set_cons_zero, List.set_cons_succ, i64_w, i32_w]
            rfl
          refine pure_ (i := 12) (N := some 76) (v := ?_) (a' := ?_) #[true, true, true, true, true, true, true, true, true, true, true, false, true, false, false, false, false, false] rfl rfl (any_of HT_.out (by kernel_rfl)) (fun _ _ _ h => h) (Or.inl ⟨by rfl, ?_⟩) ?_ ?_
          rotate_left
          · intro w'
            go_simp
            with_reducible rfl
          rotate_left
          · simp only [Act.put, List.setIfInBounds_toArray, List.set_cons_zero, List.set_cons_succ, i64_w, i32_w]
            rfl
          refine pure_ (i := 14) (N := some 78) (v := ?_) (a' := ?_) #[true, true, true, true, true, true, true, true, true, true, true, false, true, false, true, false, false, false] rfl rfl (any_of HT_.out (by kernel_rfl)) (fun _ _ _ h => h) (Or.inl ⟨by rfl, ?_⟩) ?_ ?_
          rotate_left
          · intro w'
            go_simp
            with_reducible rfl
          rotate_left
          · simp only [Act.put, List.setIfInBounds_toArray, List.set_cons_zero, List.set_cons_succ, i64_w, i32_w]
            rfl
          refine pure_ (i := 15) (N := some 79) (v := ?_) (a' := ?_) #[true, true, true, true, true, true, true, true, true, true, true, false, true, false, true, true, false, false] rfl rfl (any_of HT_.out (by kernel_rfl)) (fun _ _ _ h => h) (Or.inl ⟨by rfl, ?_⟩) ?_ ?_
          rotate_left
          · intro w'
            go_simp
            with_reducible rfl
          rotate_left
          · simp only [Act.put, List.setIfInBounds_toArray, List.set_cons_zero, List.set_cons_succ, i64_w, i32_w]
            rfl
          refine inv_at [11, 13, 16, 17] (fun a0_ b a w' => ∃ (vv : Value), a = putSel a0_ b [(11, 75, .slice ak (fld p 2).length ck), (13, 77, vv), (16, 80, .pointer (some ⟨(ad.add (fr.length * 5)).block, (ad.add (fr.length * 5)).off + 2 + 1, none⟩))] ∧ (b 13 = false → w' = wd) ∧ (b 13 = true → b 17 = false → P1 wd (.slice ak (fld p 2).length ck) (fld p 2) x vv w') ∧ (b 17 = true → P2 wd (.slice ak (fld p 2).length ck) (fld p 2) x ⟨(ad.add (fr.length * 5)).block, (ad.add (fr.length * 5)).off + 2 + 1, none⟩ vv w')) HT_.out HW_.out (by kernel_rfl) (by kernel_rfl) ?_ ?_ ?_
          · exact ⟨.bool false, by simp only [putSel, Bool.false_eq_true, if_false], fun _ => rfl, fun h_ => absurd h_ (by decide), fun h_ => absurd h_ (by decide)⟩
          · skip
            clear E0
            refine steps_cons ?_ ?_
            · rintro b a w' ⟨vv, ha, Q_E0, Q_E1, Q_E2⟩ hb_ hon hoff
              refine ⟨_, rfl, fun K hK => ?_⟩
              have e74 : a.tmps[74]? = some (.pointer (some ⟨(ad.add (fr.length * 5)).block, (ad.add (fr.length * 5)).off + 2 + 1, none⟩)) := by rw [ha]; exact (putSel_off rfl).trans rfl
              replace ha := Aside0.mk ha
              have E0 := Aside0.mk (Q_E0 (hoff 13 (by kernel_rfl)))
              have hw_ := E0.out
              have hc_ := hcell
              rw [← hw_] at hc_
              refine value_ (w1 := w') (v := .slice ak (fld p 2).length ck) (by rfl) rfl ?_ ?_
              · go_simp
                (try simp only [i64_w])
                try rfl
              refine hK.out _ _ ⟨vv, (by rw [ha.out]; exact putSel_upk 0 hb_ rfl rfl rfl), Q_E0, fun h0_ _ => absurd ((hoff 13 (by kernel_rfl)).symm.trans h0_) (by decide), fun h0_ => absurd ((hoff 17 (by kernel_rfl)).symm.trans h0_) (by decide)⟩
            refine steps_cons ?_ ?_
            · rintro b a w' ⟨vv, ha, Q_E0, Q_E1, Q_E2⟩ hb_ hon hoff
              refine ⟨_, rfl, fun K hK => ?_⟩
              have e75 : a.tmps[75]? = some (.slice ak (fld p 2).length ck) := by rw [ha]; exact putSel_on (e := (11, 75, .slice ak (fld p 2).length ck)) 0 rfl rfl (hon 11 (by kernel_rfl)) rfl
              have e76 : a.tmps[76]? = some (.slice (some ax) x.length cX) := by rw [ha]; exact (putSel_off rfl).trans rfl
              replace ha := Aside0.mk ha
              have E0 := Aside0.mk (Q_E0 hb_)
              have hw_ := E0.out
              refine app_spread_step (by rfl) (.tmp 75) (.tmp 76) rfl Tryd.underlying22 inf5 (.slice ak (fld p 2).length ck) _ (us8 (fld p 2)) x ax cX (eval_of e75) (eval_of e76) (hw_ ▸ hown.out) (hw_ ▸ hXw.out) hln.out ?_
              intro v1 w1 ho hg hat
              have S3_ : P1 wd (.slice ak (fld p 2).length ck) (fld p 2) x v1 w1 := ⟨ho, hw_ ▸ hg, hw_ ▸ hat⟩
              refine hK.out _ _ ⟨v1, (by rw [ha.out]; exact putSel_upk 1 hb_ rfl rfl rfl), fun h0_ => absurd ((up_self b 13).symm.trans h0_) (by decide), fun _ _ => S3_, fun h0_ => absurd ((hoff 17 (by kernel_rfl)).symm.trans h0_) (by decide)⟩
            refine steps_cons ?_ ?_
            · rintro b a w' ⟨vv, ha, Q_E0, Q_E1, Q_E2⟩ hb_ hon hoff
              refine ⟨_, rfl, fun K hK => ?_⟩
              have e79 : a.tmps[79]? = some (.pointer (some ⟨(ad.add (fr.length * 5)).block, (ad.add (fr.length * 5)).off + 2, none⟩)) := by rw [ha]; exact (putSel_off rfl).trans rfl
              have e67 : a.tmps[67]? = some (.int .i64 (wrap64 1)) := by rw [ha]; exact (putSel_off rfl).trans rfl
              replace ha := Aside0.mk ha
              have E1 := Aside0.mk (Q_E1 (hon 13 (by kernel_rfl)) (hoff 17 (by kernel_rfl)))
              refine value_ (w1 := w') (v := .pointer (some ⟨(ad.add (fr.length * 5)).block, (ad.add (fr.length * 5)).off + 2 + 1, none⟩)) (by rfl) rfl ?_ ?_
              · go_simp
                (try simp only [i64_w])
                try rfl
              refine hK.out _ _ ⟨vv, (by rw [ha.out]; exact putSel_upk 2 hb_ rfl rfl rfl), fun h0_ => absurd ((hon 13 (by kernel_rfl)).symm.trans h0_) (by decide), Q_E1, fun h0_ => absurd ((hoff 17 (by kernel_rfl)).symm.trans h0_) (by decide)⟩
            refine steps_cons ?_ ?_
            · rintro b a w' ⟨vv, ha, Q_E0, Q_E1, Q_E2⟩ hb_ hon hoff
              refine ⟨_, rfl, fun K hK => ?_⟩
              have e80 : a.tmps[80]? = some (.pointer (some ⟨(ad.add (fr.length * 5)).block, (ad.add (fr.length * 5)).off + 2 + 1, none⟩)) := by rw [ha]; exact putSel_on (e := (16, 80, .pointer (some ⟨(ad.add (fr.length * 5)).block, (ad.add (fr.length * 5)).off + 2 + 1, none⟩))) 2 rfl rfl (hon 16 (by kernel_rfl)) rfl
              have e77 : a.tmps[77]? = some (vv) := by rw [ha]; exact putSel_on (e := (13, 77, vv)) 1 rfl rfl (hon 13 (by kernel_rfl)) rfl
              replace ha := Aside0.mk ha
              have E1 := Aside0.mk (Q_E1 (hon 13 (by kernel_rfl)) hb_)
              obtain ⟨A_, c_, en_⟩ := E1.out.form
              obtain ⟨hc_, hf_, _⟩ := hst_.out w' vv E1.out
              refine skip_ (w1 := w'.setCell ⟨(ad.add (fr.length * 5)).block, (ad.add (fr.length * 5)).off + 2 + 1, none⟩ vv) (by rfl) rfl ?_ ?_
              · rw [en_] at e77 ⊢
                go_simp
                try rfl
              have S3_ := E1.out
              refine hK.out _ _ ⟨vv, (by rw [ha.out]; exact putSel_none (v := undef) rfl), fun h0_ => absurd ((hon 13 (by kernel_rfl)).symm.trans h0_) (by decide), fun _ h1_ => absurd ((up_self b 17).symm.trans h1_) (by decide), fun _ => ⟨w', S3_, rfl⟩⟩
            exact steps_nil
          · rintro b a w' hall ⟨vv, ha, Q_E0, Q_E1, Q_E2⟩
            clear E0
            have hb11_ := hall 11 (by kernel_rfl)
            have hb13_ := hall 13 (by kernel_rfl)
            have hb16_ := hall 16 (by kernel_rfl)
            have hb17_ := hall 17 (by kernel_rfl)
            subst ha
            simp only [putSel, hb11_, hb13_, hb16_, hb17_, if_true, Act.put, List.setIfInBounds_toArray, List.set_cons_zero, List.set_cons_succ]
            clear Q_E0
            clear Q_E1
            have E2 := Aside0.mk (Q_E2 hb17_)
            clear Q_E2
            clear hall hb11_ hb13_ hb16_ hb17_
            obtain ⟨w1_, h1_, rfl⟩ := E2.out
            obtain ⟨_, _, hI5⟩ := hst_.out w1_ vv h1_
            go_wp2
            go_roundg (L.length - (i + 1))
            case rel => exact ⟨_, wrap64 (ii + 1), 2, i + 1, by first | rfl | (simp; done) | (simp [hw1]; done), ⟨by rw [hw1]; have := hii.out; omega⟩, by first | rfl | (simp; done), by simp, by have := hii.out; omega, rfl, Aside0.mk (hnext.out.trans hyes.out), ⟨sz_add hsz.out x HX.out.2.1.2.2 2⟩, ⟨hI5⟩⟩
            case measure => have := hii.out; have := HX.out.2.2.2.2.2; omega
        · skip
          have hpn : ps ≠ [] := rdAll_ne hall.out (fun h => absurd rfl h) (by simp)
          obtain rfl | ⟨fr, p, rfl⟩ := snoc_cases ps
          · exact absurd rfl hpn
          clear hpn
          obtain rfl : m = fr.length + 1 := by rw [hm.out]; simp
          have hwj : wrap64 (fr.length : Int) = (fr.length : Int) := by have := hps5.out; simp at this; unfold wrap64; omega
          have hyes : rdStep N (fr ++ [p], 3) x = some (fr ++ [addF p x 3], 3) := by simp [rdStep, hsgq.out, onLast_snoc, addF, addSide]
          replace hyes := Aside0.mk hyes
          obtain ⟨ad, cap, vk, e1, _, _, _, _⟩ := hI.out.at 3 (by decide) x
          injection e1 with eA _ ec
          subst eA ec
          have hq0 : wrap64 2 = 2 := by unfold wrap64; omega
          have hjj := eq_true (show (fr.length : Int) < (fr.length : Int) + 1 by omega)
          go_wp2_with ((go_at_call 26; refine HMK.out.mono ?_; rintro e w3 ⟨rfl, hb3⟩))
          have hIw := hI.out.keep (below_drew1 hb3)
          have hXw := Kd.C_below HX.out.2.2.2.1 (below_drew1 hb3)
          obtain ⟨_, _, vk, e1, _, hcell, hown, hstep⟩ := hIw.at 3 (by decide) x
          obtain ⟨ak, ck, rfl, _⟩ := own_form hown
          injection e1 with e1 _ ec
          injection e1 with e1
          subst e1 ec
          have hln : (fld p 3).length + x.length ≤ 140737488355328 := by
            have := sz_fld (hsz.out.2 p (List.mem_append_right _ List.mem_cons_self)) 3
            have := hi5; have := HX.out.2.1.2.2; omega
          replace hln := Aside0.mk hln
          have hst_ : ∀ w1 v1, P1 w3.drew (.slice ak (fld p 3).length ck) (fld p 3) x v1 w1 → _ := fun w1 v1 h => hstep w1 v1 h.1 h.2.1 h.2.2
          replace hst_ := Aside0.mk hst_
          replace hown := Aside0.mk hown
          replace hXw := Aside0.mk hXw
          clear hstep hIw
          have E0 := trivial
          refine start_ (n := 18) (S := fun w' => True) (ds := []) #[false, false, false, false, false, false, false, false, false, false, false, false, false, false, false, false, false, false] (by kernel_rfl) rfl rfl trivial (fun hHeld => ?_)
          refine with_tabW mread.tab17 mread.bits17 (fun HT_ HW_ => ?_)
          generalize w3.drew = wd at hcell hown hst_ hXw hHeld ⊢
          refine pure_ (i := 0) (N := some 64) (v := ?_) (a' := ?_) #[true, false, false, false, false, false, false, false, false, false, false, false, false, false, false, false, false, false] rfl rfl (any_of HT_.out (by kernel_rfl)) (fun _ _ _ h => h) (Or.inl ⟨by rfl, ?_⟩) ?_ ?_
          rotate_left
          · intro w'
            go_simp
            with_reducible rfl
          rotate_left
          · simp only [Act.put, List.setIfInBounds_toArray, List.set_cons_zero, List.set_cons_succ, i64_w, i32_w]
            rfl
          refine pure_ (i := 1) (N := some 65) (v := ?_) (a' := ?_) #[true, true, false, false, false, false, false, false, false, false, false, false, false, false, false, false, false, false] rfl rfl (any_of HT_.out (by kernel_rfl)) (fun _ _ _ h => h) (Or.inl ⟨by rfl, ?_⟩) ?_ ?_
          rotate_left
          · intro w'
            go_simp
            with_reducible rfl
          rotate_left
          · simp only [Act.put, List.setIfInBounds_toArray, List.set_cons_zero, List.set_cons_succ, i64_w, i32_w]
            rfl
          refine pure_ (i := 2) (N := some 66) (v := ?_) (a' := ?_) #[true, true, true, false, false, false, false, false, false, false, false, false, false, false, false, false, false, false] rfl rfl (any_of HT_.out (by kernel_rfl)) (fun _ _ _ h => h) (Or.inl ⟨by rfl, ?_⟩) ?_ ?_
          rotate_left
          · intro w'
            go_simp
            with_reducible rfl
          rotate_left
          · simp only [Act.put, List.setIfInBounds_toArray, List.set_cons_zero, List.set_cons_succ, i64_w, i32_w]
            rfl
          refine pure_ (i := 3) (N := some 67) (v := ?_) (a' := ?_) #[true, true, true, true, false, false, false, false, false, false, false, false, false, false, false, false, false, false] rfl rfl (any_of HT_.out (by kernel_rfl)) (fun _ _ _ h => h) (Or.inl ⟨by rfl, ?_⟩) ?_ ?_
          rotate_left
          · intro w'
            go_simp
            with_reducible rfl
          rotate_left
          · simp only [Act.put, List.setIfInBounds_toArray, List.set_cons_zero, List.set_cons_succ, i64_w, i32_w]
            rfl
          refine pure_ (i := 4) (N := some 68) (v := ?_) (a' := ?_) #[true, true, true, true, true, false, false, false, false, false, false, false, false, false, false, false, false, false] rfl rfl (any_of HT_.out (by kernel_rfl)) (fun _ _ _ h => h) (Or.inl ⟨by rfl, ?_⟩) ?_ ?_
          rotate_left
          · intro w'
            go_simp
            with_reducible rfl
          rotate_left
          · simp only [Act.put, List.setIfInBounds_toArray, List.set_cons_zero, List.set_cons_succ, i64_w, i32_w]
            rfl
          refine pure_ (i := 5) (N := some 69) (v := ?_) (a' := ?_) #[true, true, true, true, true, true, false, false, false, false, false, false, false, false, false, false, false, false] rfl rfl (any_of HT_.out (by kernel_rfl)) (fun _ _ _ h => h) (Or.inl ⟨by rfl, ?_⟩) ?_ ?_
          rotate_left
          · intro w'
            go_simp
            with_reducible rfl
          rotate_left
          · simp only [Act.put, List.setIfInBounds_toArray, List.set_cons_zero, List.set_cons_succ, i64_w, i32_w]
            rfl
          refine pure_ (i := 6) (N := some 70) (v := ?_) (a' := ?_) #[true, true, true, true, true, true, true, false, false, false, false, false, false, false, false, false, false, false] rfl rfl (any_of HT_.out (by kernel_rfl)) (fun _ _ _ h => h) (Or.inl ⟨by rfl, ?_⟩) ?_ ?_
          rotate_left
          · intro w'
            go_simp
            with_reducible rfl
          rotate_left
          · simp only [Act.put, List.setIfInBounds_toArray, List.set_cons_zero, List.set_cons_succ, i64_w, i32_w]
            rfl
          refine pure_ (i := 7) (N := some 71) (v := ?_) (a' := ?_) #[true, true, true, true, true, true, true, true, false, false, false, false, false, false, false, false, false, false] rfl rfl (any_of HT_.out (by kernel_rfl)) (fun _ _ _ h => h) (Or.inl ⟨by rfl, ?_⟩) ?_ ?_
          rotate_left
          · intro w'
            go_simp
            with_reducible rfl
          rotate_left
          · simp only [Act.put, List.setIfInBounds_toArray, List.set_cons_zero, List.set_cons_succ, i64_w, i32_w]
            rfl
          refine pure_ (i := 8) (N := some 72) (v := ?_) (a' := ?_) #[true, true, true, true, true, true, true, true, true, false, false, false, false, false, false, false, false, false] rfl rfl (any_of HT_.out (by kernel_rfl)) (fun _ _ _ h => h) (Or.inl ⟨by rfl, ?_⟩) ?_ ?_
          rotate_left
          · intro w'
            go_simp
            with_reducible rfl
          rotate_left
          · simp only [Act.put, List.setIfInBounds_toArray, List.set_cons_zero, List.set_cons_succ, i64_w, i32_w]
            rfl
          refine pure_ (i := 9) (N := some 73) (v := ?_) (a' := ?_) #[true, true, true, true, true, true, true, true, true, true, false, false, false, false, false, false, false, false] rfl rfl (any_of HT_.out (by kernel_rfl)) (fun _ _ _ h => h) (Or.inl ⟨by rfl, ?_⟩) ?_ ?_
          rotate_left
          · intro w'
            go_simp
            with_reducible rfl
          rotate_left
          · simp only [Act.put, List.setIfInBounds_toArray, List.set_cons_zero, List.set_cons_succ, i64_w, i32_w]
            rfl
          refine pure_ (i := 10) (N := some 74) (v := ?_) (a' := ?_) #[true, true, true, true, true, true, true, true, true, true, true, false, false, false, false, false, false, false] rfl rfl (any_of HT_.out (by kernel_rfl)) (fun _ _ _ h => h) (Or.inl ⟨by rfl, ?_⟩) ?_ ?_
          rotate_left
          · intro w'
            go_simp
            with_reducible rfl
          rotate_left
          · simp only [Act.put, List.setIfInBounds_toArray, List.set_cons_zero, List.set_cons_succ, i64_w, i32_w]
            rfl
          refine pure_ (i := 12) (N := some 76) (v := ?_) (a' := ?_) #[true, true, true, true, true, true, true, true, true, true, true, false, true, false, false, false, false, false] rfl rfl (any_of HT_.out (by kernel_rfl)) (fun _ _ _ h => h) (Or.inl ⟨by rfl, ?_⟩) ?_ ?_
          rotate_left
          · intro w'
            go_simp
            with_reducible rfl
          rotate_left
          · simp only [Act.put, List.setIfInBounds_toArray, List.set_cons_zero, List.set_cons_succ, i64_w, i32_w]
            rfl
          refine pure_ (i := 14) (N := some 78) (v := ?_) (a' := ?_) #[true, true, true, true, true, true, true, true, true, true, true, false, true, false, true, false, false, false] rfl rfl (any_of HT_.out (by kernel_rfl)) (fun _ _ _ h => h) (Or.inl ⟨by rfl, ?_⟩) ?_ ?_
          rotate_left
          · intro w'
            go_simp
            with_reducible rfl
          rotate_left
          · simp only [Act.put, List.setIfInBounds_toArray, List.set_cons_zero, List.set_cons_succ, i64_w, i32_w]
            rfl
          refine pure_ (i := 15) (N := some 79) (v := ?_) (a' := ?_) #[true, true, true, true, true, true, true, true, true, true, true, false, true, false, true, true, false, false] rfl rfl (any_of HT_.out (by kernel_rfl)) (fun _ _ _ h => h) (Or.inl ⟨by rfl, ?_⟩) ?_ ?_
          rotate_left
          · intro w'
            go_simp
            with_reducible rfl
          rotate_left
          · simp only [Act.put, List.setIfInBounds_toArray, List.set_cons_zero, List.set_cons_succ, i64_w, i32_w]
            rfl
          refine inv_at [11, 13, 16, 17] (fun a0_ b a w' => ∃ (vv : Value), a = putSel a0_ b [(11, 75, .slice ak (fld p 3).length ck), (13, 77, vv), (16, 80, .pointer (some ⟨(ad.add (fr.length * 5)).block, (ad.add (fr.length * 5)).off + 2 + 2, none⟩))] ∧ (b 13 = false → w' = wd) ∧ (b 13 = true → b 17 = false → P1 wd (.slice ak (fld p 3).length ck) (fld p 3) x vv w') ∧ (b 17 = true → P2 wd (.slice ak (fld p 3).length ck) (fld p 3) x ⟨(ad.add (fr.length * 5)).block, (ad.add (fr.length * 5)).off + 2 + 2, none⟩ vv w')) HT_.out HW_.out (by kernel_rfl) (by kernel_rfl) ?_ ?_ ?_
          · exact ⟨.bool false, by simp only [putSel, Bool.false_eq_true, if_false], fun _ => rfl, fun h_ => absurd h_ (by decide), fun h_ => absurd h_ (by decide)⟩
          · skip
            clear E0
            refine steps_cons ?_ ?_
            · rintro b a w' ⟨vv, ha, Q_E0, Q_E1, Q_E2⟩ hb_ hon hoff
              refine ⟨_, rfl, fun K hK => ?_⟩
              have e74 : a.tmps[74]? = some (.pointer (some ⟨(ad.add (fr.length * 5)).block, (ad.add (fr.length * 5)).off + 2 + 2, none⟩)) := by rw [ha]; exact (putSel_off rfl).trans rfl
              replace ha := Aside0.mk ha
              have E0 := Aside0.mk (Q_E0 (hoff 13 (by kernel_rfl)))
              have hw_ := E0.out
              have hc_ := hcell
              rw [← hw_] at hc_
              refine value_ (w1 := w') (v := .slice ak (fld p 3).length ck) (by rfl) rfl ?_ ?_
              · go_simp
                (try simp only [i64_w])
                try rfl
              refine hK.out _ _ ⟨vv, (by rw [ha.out]; exact putSel_upk 0 hb_ rfl rfl rfl), Q_E0, fun h0_ _ => absurd ((hoff 13 (by kernel_rfl)).symm.trans h0_) (by decide), fun h0_ => absurd ((hoff 17 (by kernel_rfl)).symm.trans h0_) (by decide)⟩
            refine steps_cons ?_ ?_
            · rintro b a w' ⟨vv, ha, Q_E0, Q_E1, Q_E2⟩ hb_ hon hoff
              refine ⟨_, rfl, fun K hK => ?_⟩
              have e75 : a.tmps[75]? = some (.slice ak (fld p 3).length ck) := by rw [ha]; exact putSel_on (e := (11, 75, .slice ak (fld p 3).length ck)) 0 rfl rfl (hon 11 (by kernel_rfl)) rfl
              have e76 : a.tmps[76]? = some (.slice (some ax) x.length cX) := by rw [ha]; exact (putSel_off rfl).trans rfl
              replace ha := Aside0.mk ha
              have E0 := Aside0.mk (Q_E0 hb_)
              have hw_ := E0.out
              refine app_spread_step (by rfl) (.tmp 75) (.tmp 76) rfl Tryd.underlying22 inf5 (.slice ak (fld p 3).length ck) _ (us8 (fld p 3)) x ax cX (eval_of e75) (eval_of e76) (hw_ ▸ hown.out) (hw_ ▸ hXw.out) hln.out ?_
              intro v1 w1 ho hg hat
              have S3_ : P1 wd (.slice ak (fld p 3).length ck) (fld p 3) x v1 w1 := ⟨ho, hw_ ▸ hg, hw_ ▸ hat⟩
              refine hK.out _ _ ⟨v1, (by rw [ha.out]; exact putSel_upk 1 hb_ rfl rfl rfl), fun h0_ => absurd ((up_self b 13).symm.trans h0_) (by decide), fun _ _ => S3_, fun h0_ => absurd ((hoff 17 (by kernel_rfl)).symm.trans h0_) (by decide)⟩
            refine steps_cons ?_ ?_
            · rintro b a w' ⟨vv, ha, Q_E0, Q_E1, Q_E2⟩ hb_ hon hoff
              refine ⟨_, rfl, fun K hK => ?_⟩
              have e79 : a.tmps[79]? = some (.pointer (some ⟨(ad.add (fr.length * 5)).block, (ad.add (fr.length * 5)).off + 2, none⟩)) := by rw [ha]; exact (putSel_off rfl).trans rfl
              have e67 : a.tmps[67]? = some (.int .i64 (wrap64 2)) := by rw [ha]; exact (putSel_off rfl).trans rfl
              replace ha := Aside0.mk ha
              have E1 := Aside0.mk (Q_E1 (hon 13 (by kernel_rfl)) (hoff 17 (by kernel_rfl)))
              refine value_ (w1 := w') (v := .pointer (some ⟨(ad.add (fr.length * 5)).block, (ad.add (fr.length * 5)).off + 2 + 2, none⟩)) (by rfl) rfl ?_ ?_
              · go_simp
                (try simp only [i64_w])
                try rfl
              refine hK.out _ _ ⟨vv, (by rw [ha.out]; exact putSel_upk 2 hb_ rfl rfl rfl), fun h0_ => absurd ((hon 13 (by kernel_rfl)).symm.trans h0_) (by decide), Q_E1, fun h0_ => absurd ((hoff 17 (by kernel_rfl)).symm.trans h0_) (by decide)⟩
            refine steps_cons ?_ ?_
            · rintro b a w' ⟨vv, ha, Q_E0, Q_E1, Q_E2⟩ hb_ hon hoff
              refine ⟨_, rfl, fun K hK => ?_⟩
              have e80 : a.tmps[80]? = some (.pointer (some ⟨(ad.add (fr.length * 5)).block, (ad.add (fr.length * 5)).off + 2 + 2, none⟩)) := by rw [ha]; exact putSel_on (e := (16, 80, .pointer (some ⟨(ad.add (fr.length * 5)).block, (ad.add (fr.length * 5)).off + 2 + 2, none⟩))) 2 rfl rfl (hon 16 (by kernel_rfl)) rfl
              have e77 : a.tmps[77]? = some (vv) := by rw [ha]; exact putSel_on (e := (13, 77, vv)) 1 rfl rfl (hon 13 (by kernel_rfl)) rfl
              replace ha := Aside0.mk ha
              have E1 := Aside0.mk (Q_E1 (hon 13 (by kernel_rfl)) hb_)
              obtain ⟨A_, c_, en_⟩ := E1.out.form
              obtain ⟨hc_, hf_, _⟩ := hst_.out w' vv E1.out
              refine skip_ (w1 := w'.setCell ⟨(ad.add (fr.length * 5)).block, (ad.add (fr.length * 5)).off + 2 + 2, none⟩ vv) (by rfl) rfl ?_ ?_
              · rw [en_] at e77 ⊢
                go_simp
                try rfl
              have S3_ := E1.out
              refine hK.out _ _ ⟨vv, (by rw [ha.out]; exact putSel_none (v := undef) rfl), fun h0_ => absurd ((hon 13 (by kernel_rfl)).symm.trans h0_) (by decide), fun _ h1_ => absurd ((up_self b 17).symm.trans h1_) (by decide), fun _ => ⟨w', S3_, rfl⟩⟩
            exact steps_nil
          · rintro b a w' hall ⟨vv, ha, Q_E0, Q_E1, Q_E2⟩
            clear E0
            have hb11_ := hall 11 (by kernel_rfl)
            have hb13_ := hall 13 (by kernel_rfl)
            have hb16_ := hall 16 (by kernel_rfl)
            have hb17_ := hall 17 (by kernel_rfl)
            subst ha
            simp only [putSel, hb11_, hb13_, hb16_, hb17_, if_true, Act.put, List.setIfInBounds_toArray, List.set_cons_zero, List.set_cons_succ]
            clear Q_E0
            clear Q_E1
            have E2 := Aside0.mk (Q_E2 hb17_)
            clear Q_E2
            clear hall hb11_ hb13_ hb16_ hb17_
            obtain ⟨w1_, h1_, rfl⟩ := E2.out
            obtain ⟨_, _, hI5⟩ := hst_.out w1_ vv h1_
            go_wp2
            go_roundg (L.length - (i + 1))
            case rel => exact ⟨_, wrap64 (ii + 1), 3, i + 1, by first | rfl | (simp; done) | (simp [hw1]; done), ⟨by rw [hw1]; have := hii.out; omega⟩, by first | rfl | (simp; done), by simp, by have := hii.out; omega, rfl, Aside0.mk (hnext.out.trans hyes.out), ⟨sz_add hsz.out x HX.out.2.1.2.2 3⟩, ⟨hI5⟩⟩
            case measure => have := hii.out; have := HX.out.2.2.2.2.2; omega
      rcases hsg with rfl | hsg
      · rcases hst with rfl | rfl | rfl | rfl
        · skip
          have hyes : rdStep N (ps, 0) x = some (ps ++ [nwPt true], 1) := by simp [rdStep, hsgq.out]
          go_wp2_with (first | ((go_at_call 26; refine HMK.out.mono ?_; rintro e w3 ⟨rfl, hb3⟩); have hI3 := hI.out.keep hb3) | ((with_reducible refine gate_builtin (b := .append) (xs := #[.tmp 88, .tmp 90]) rfl ?_); at_builtin; refine app_push rfl (.tmp 88) (.tmp 90) 104 rfl Tryd.underlying23 inf50 (by decide) hI3 hps5.out _ hm.out.symm true rfl rfl ?_; intro Ao2 co2 w4 hI4))
          go_roundg (L.length - (i + 1))
          case rel => exact ⟨ps ++ [nwPt true], wrap64 (ii + 1), 1, i + 1, by first | rfl | (simp; done) | (simp [hw1]; done), ⟨by rw [hw1]; have := hii.out; omega⟩, by first | rfl | (simp; done), by simp, by have := hii.out; omega, rfl, Aside0.mk (hnext.out.trans hyes), ⟨sz_push hsz.out true⟩, ⟨hI4⟩⟩
          case measure => have := hii.out; have := HX.out.2.2.2.2.2; omega
        · skip
          have hno : rdStep N (ps, 1) x = none := by simp [rdStep, hsgq.out]
          have hR0 : R = ([], 5) := by
            rw [HRES.out, rdAll_none (hnext.out.trans hno)]
          go_wp2_with ((go_at_call 26; refine HMK.out.mono ?_; rintro e w3 ⟨rfl, hb3⟩))
          refine bodyPost_ret (results_tmp2 rfl _ _ _) rfl ?_
          rw [hR0]
          exact ⟨none, 0, rfl, Nat.zero_le _, Kd.C_nil kP _, hB2.out.trans (below_lo (hI.out.below.trans (below_lo hb3 hI.out.below.size)) hB2.out.size)⟩
        · skip
          have hno : rdStep N (ps, 2) x = none := by simp [rdStep, hsgq.out]
          have hR0 : R = ([], 5) := by
            rw [HRES.out, rdAll_none (hnext.out.trans hno)]
          go_wp2_with ((go_at_call 26; refine HMK.out.mono ?_; rintro e w3 ⟨rfl, hb3⟩))
          refine bodyPost_ret (results_tmp2 rfl _ _ _) rfl ?_
          rw [hR0]
          exact ⟨none, 0, rfl, Nat.zero_le _, Kd.C_nil kP _, hB2.out.trans (below_lo (hI.out.below.trans (below_lo hb3 hI.out.below.size)) hB2.out.size)⟩
        · skip
          have hno : rdStep N (ps, 3) x = none := by simp [rdStep, hsgq.out]
          have hR0 : R = ([], 5) := by
            rw [HRES.out, rdAll_none (hnext.out.trans hno)]
          go_wp2_with ((go_at_call 26; refine HMK.out.mono ?_; rintro e w3 ⟨rfl, hb3⟩))
          refine bodyPost_ret (results_tmp2 rfl _ _ _) rfl ?_
          rw [hR0]
          exact ⟨none, 0, rfl, Nat.zero_le _, Kd.C_nil kP _, hB2.out.trans (below_lo (hI.out.below.trans (below_lo hb3 hI.out.below.size)) hB2.out.size)⟩
      rcases hsg with rfl | hsg
      · rcases hst with rfl | rfl | rfl | rfl
        · skip
          have hno : rdStep N (ps, 0) x = none := by simp [rdStep, hsgq.out]
          have hR0 : R = ([], 5) := by
            rw [HRES.out, rdAll_none (hnext.out.trans hno)]
          go_wp2_with ((go_at_call 26; refine HMK.out.mono ?_; rintro e w3 ⟨rfl, hb3⟩))
          refine bodyPost_ret (results_tmp2 rfl _ _ _) rfl ?_
          rw [hR0]
          exact ⟨none, 0, rfl, Nat.zero_le _, Kd.C_nil kP _, hB2.out.trans (below_lo (hI.out.below.trans (below_lo hb3 hI.out.below.size)) hB2.out.size)⟩
        · skip
          have hyes : rdStep N (ps, 1) x = some (ps, 2) := by simp [rdStep, hsgq.out]
          go_wp2_with ((go_at_call 26; refine HMK.out.mono ?_; rintro e w3 ⟨rfl, hb3⟩); have hI3 := hI.out.keep hb3)
          go_roundg (L.length - (i + 1))
          case rel => exact ⟨ps, wrap64 (ii + 1), 2, i + 1, by first | rfl | (simp; done) | (simp [hw1]; done), ⟨by rw [hw1]; have := hii.out; omega⟩, by first | rfl | (simp; done), by simp, by have := hii.out; omega, rfl, Aside0.mk (hnext.out.trans hyes), ⟨sz_mono hsz.out⟩, ⟨hI3⟩⟩
          case measure => have := hii.out; have := HX.out.2.2.2.2.2; omega
        · skip
          have hno : rdStep N (ps, 2) x = none := by simp [rdStep, hsgq.out]
          have hR0 : R = ([], 5) := by
            rw [HRES.out, rdAll_none (hnext.out.trans hno)]
          go_wp2_with ((go_at_call 26; refine HMK.out.mono ?_; rintro e w3 ⟨rfl, hb3⟩))
          refine bodyPost_ret (results_tmp2 rfl _ _ _) rfl ?_
          rw [hR0]
          exact ⟨none, 0, rfl, Nat.zero_le _, Kd.C_nil kP _, hB2.out.trans (below_lo (hI.out.below.trans (below_lo hb3 hI.out.below.size)) hB2.out.size)⟩
        · skip
          have hno : rdStep N (ps, 3) x = none := by simp [rdStep, hsgq.out]
          have hR0 : R = ([], 5) := by
            rw [HRES.out, rdAll_none (hnext.out.trans hno)]
          go_wp2_with ((go_at_call 26; refine HMK.out.mono ?_; rintro e w3 ⟨rfl, hb3⟩))
          refine bodyPost_ret (results_tmp2 rfl _ _ _) rfl ?_
          rw [hR0]
          exact ⟨none, 0, rfl, Nat.zero_le _, Kd.C_nil kP _, hB2.out.trans (below_lo (hI.out.below.trans (below_lo hb3 hI.out.below.size)) hB2.out.size)⟩
      rcases hsg with rfl | hsg
      · rcases hst with rfl | rfl | rfl | rfl
        · skip
          have hno : rdStep N (ps, 0) x = none := by simp [rdStep, hsgq.out]
          have hR0 : R = ([], 5) := by
            rw [HRES.out, rdAll_none (hnext.out.trans hno)]
          go_wp2_with ((go_at_call 26; refine HMK.out.mono ?_; rintro e w3 ⟨rfl, hb3⟩))
          refine bodyPost_ret (results_tmp2 rfl _ _ _) rfl ?_
          rw [hR0]
          exact ⟨none, 0, rfl, Nat.zero_le _, Kd.C_nil kP _, hB2.out.trans (below_lo (hI.out.below.trans (below_lo hb3 hI.out.below.size)) hB2.out.size)⟩
        · skip
          have hno : rdStep N (ps, 1) x = none := by simp [rdStep, hsgq.out]
          have hR0 : R = ([], 5) := by
            rw [HRES.out, rdAll_none (hnext.out.trans hno)]
          go_wp2_with ((go_at_call 26; refine HMK.out.mono ?_; rintro e w3 ⟨rfl, hb3⟩))
          refine bodyPost_ret (results_tmp2 rfl _ _ _) rfl ?_
          rw [hR0]
          exact ⟨none, 0, rfl, Nat.zero_le _, Kd.C_nil kP _, hB2.out.trans (below_lo (hI.out.below.trans (below_lo hb3 hI.out.below.size)) hB2.out.size)⟩
        · skip
          have hyes : rdStep N (ps, 2) x = some (ps, 3) := by simp [rdStep, hsgq.out]
          go_wp2_with ((go_at_call 26; refine HMK.out.mono ?_; rintro e w3 ⟨rfl, hb3⟩); have hI3 := hI.out.keep hb3)
          go_roundg (L.length - (i + 1))
          case rel => exact ⟨ps, wrap64 (ii + 1), 3, i + 1, by first | rfl | (simp; done) | (simp [hw1]; done), ⟨by rw [hw1]; have := hii.out; omega⟩, by first | rfl | (simp; done), by simp, by have := hii.out; omega, rfl, Aside0.mk (hnext.out.trans hyes), ⟨sz_mono hsz.out⟩, ⟨hI3⟩⟩
          case measure => have := hii.out; have := HX.out.2.2.2.2.2; omega
        · skip
          have hno : rdStep N (ps, 3) x = none := by simp [rdStep, hsgq.out]
          have hR0 : R = ([], 5) := by
            rw [HRES.out, rdAll_none (hnext.out.trans hno)]
          go_wp2_with ((go_at_call 26; refine HMK.out.mono ?_; rintro e w3 ⟨rfl, hb3⟩))
          refine bodyPost_ret (results_tmp2 rfl _ _ _) rfl ?_
          rw [hR0]
          exact ⟨none, 0, rfl, Nat.zero_le _, Kd.C_nil kP _, hB2.out.trans (below_lo (hI.out.below.trans (below_lo hb3 hI.out.below.size)) hB2.out.size)⟩
      subst hsg
      rcases hst with rfl | rfl | rfl | rfl
      · skip
        have hno : rdStep N (ps, 0) x = none := by simp [rdStep, hsgq.out]
        have hR0 : R = ([], 5) := by
          rw [HRES.out, rdAll_none (hnext.out.trans hno)]
        go_wp2_with ((go_at_call 26; refine HMK.out.mono ?_; rintro e w3 ⟨rfl, hb3⟩))
        refine bodyPost_ret (results_tmp2 rfl _ _ _) rfl ?_
        rw [hR0]
        exact ⟨none, 0, rfl, Nat.zero_le _, Kd.C_nil kP _, hB2.out.trans (below_lo (hI.out.below.trans (below_lo hb3 hI.out.below.size)) hB2.out.size)⟩
      · skip
        have hno : rdStep N (ps, 1) x = none := by simp [rdStep, hsgq.out]
        have hR0 : R = ([], 5) := by
          rw [HRES.out, rdAll_none (hnext.out.trans hno)]
        go_wp2_with ((go_at_call 26; refine HMK.out.mono ?_; rintro e w3 ⟨rfl, hb3⟩))
        refine bodyPost_ret (results_tmp2 rfl _ _ _) rfl ?_
        rw [hR0]
        exact ⟨none, 0, rfl, Nat.zero_le _, Kd.C_nil kP _, hB2.out.trans (below_lo (hI.out.below.trans (below_lo hb3 hI.out.below.size)) hB2.out.size)⟩
      · skip
        have hno : rdStep N (ps, 2) x = none := by simp [rdStep, hsgq.out]
        have hR0 : R = ([], 5) := by
          rw [HRES.out, rdAll_none (hnext.out.trans hno)]
        go_wp2_with ((go_at_call 26; refine HMK.out.mono ?_; rintro e w3 ⟨rfl, hb3⟩))
        refine bodyPost_ret (results_tmp2 rfl _ _ _) rfl ?_
        rw [hR0]
        exact ⟨none, 0, rfl, Nat.zero_le _, Kd.C_nil kP _, hB2.out.trans (below_lo (hI.out.below.trans (below_lo hb3 hI.out.below.size)) hB2.out.size)⟩
      · skip
        have hyes : rdStep N (ps, 3) x = some (ps, 0) := by simp [rdStep, hsgq.out]
        go_wp2_with ((go_at_call 26; refine HMK.out.mono ?_; rintro e w3 ⟨rfl, hb3⟩); have hI3 := hI.out.keep hb3)
        go_roundg (L.length - (i + 1))
        case rel => exact ⟨ps, wrap64 (ii + 1), 0, i + 1, by first | rfl | (simp; done) | (simp [hw1]; done), ⟨by rw [hw1]; have := hii.out; omega⟩, by first | rfl | (simp; done), by simp, by have := hii.out; omega, rfl, Aside0.mk (hnext.out.trans hyes), ⟨sz_mono hsz.out⟩, ⟨hI3⟩⟩
        case measure => have := hii.out; have := HX.out.2.2.2.2.2; omega
    · have hi' : i = L.length := by have := hii.out; omega
      have hall2 : rdAll N L ([], 0) = some (ps, sti.toNat) := by have := hall.out; rwa [hi', List.take_length] at this
      rcases hst with rfl | rfl | rfl | rfl
      · obtain ⟨Ao, co, rfl, hoc, hC⟩ := hI.out.out
        replace hall2 := Aside0.mk hall2
        clear hi'
        go_wp2
        refine bodyPost_ret (results_tmp2 rfl _ _ _) rfl ?_
        have hR0 : R = (ps, 0) := by rw [HRES.out, hall2.out]; rfl
        rw [hR0]
        exact ⟨Ao, co, rfl, hoc, hC, hB2.out.trans (below_lo hI.out.below hB2.out.size)⟩
      all_goals
        replace hall2 := Aside0.mk hall2
        clear hi'
        go_wp2
        refine bodyPost_ret (results_tmp2 rfl _ _ _) rfl ?_
        have hR0 : R = ([], 5) := by rw [HRES.out, hall2.out]; rfl
        rw [hR0]
        exact ⟨none, 0, rfl, Nat.zero_le _, Kd.C_nil kP _, hB2.out.trans (below_lo hI.out.below hB2.out.size)⟩
 · have hright : mark_right.f n = some false := by
     unfold mark_right.f
     by_cases h : n ≥ 1
     · rw [if_pos h]; have : ¬ n ≤ 16777216 := fun h2 => hn ⟨h, h2⟩; simp [this]
     · rw [if_neg h]
   have hres : readOf n b = ([], 1) := by unfold readOf; rw [if_neg hn]
   rw [hres]
   clear hn hres
   go_enter Tryd.func9, Tryd.ntmps9
   go_wp2_with (go_at_call 24; refine (mark_right.calls _ false _ hright).mono ?_; rintro e w1 ⟨rfl, hb1⟩; replace hb1 := drawn_below hb1)
   refine bodyPost_ret (results_tmp2 rfl _ _ _) rfl ?_
   exact ⟨none, 0, rfl, Nat.zero_le _, Kd.C_nil kP _, hb1⟩
end Go.Proofs.YtnnnbeimehfiiaaDoor.Q

/-! The chapter's example in plain Lean. -/
set_option linter.unusedVariables false
namespace Go.Proofs.YtnnnbeimehfiiaaDoor.Q
open Go Go.RowKit Go.Proofs.YtnnnbeimehfiiaaDoorW.PrintWords Go.Proofs.YtnnnbeimehfiiaaDoorW.SL
def knP : Pt := ⟨true, [], [120], [121], [122]⟩
def knT : List Int := [60, 60, 60, 60, 60, 60, 60, 32, 97, 10, 120, 10, 124, 124, 124, 124, 124, 124, 124, 32, 98, 10, 121, 10, 61, 61, 61, 61, 61, 61, 61, 10, 122, 10, 62, 62, 62, 62, 62, 62, 62, 32, 99, 10]
def knQ : Pt := ⟨true, [], [120, 10], [121, 10], [122, 10]⟩
theorem kn_w : writeOf 7 ⟨#[97]⟩ ⟨#[98]⟩ ⟨#[99]⟩ [knP] = (knT, 0) := by kernel_rfl
theorem kn_r : readOf 7 knT = ([knQ], 0) := by kernel_rfl
theorem kn_e : readOf 7 [60, 60, 60, 60, 60, 60, 60, 10] = ([], 5) := by kernel_rfl
end Go.Proofs.YtnnnbeimehfiiaaDoor.Q

-- Written by a program of this session (wip/gen_kn.py) for this claim; Lean checks it.
/-! known, walked. -/
set_option linter.unusedVariables false
set_option linter.unusedSimpArgs false
namespace Go.Proofs.YtnnnbeimehfiiaaDoor.Q
open Go Go.RowKit Go.Proofs.YtnnnbeimehfiiaaDoorW.PrintWords Go.Proofs.YtnnnbeimehfiiaaDoorW.PrintLast Go.Proofs.YtnnnbeimehfiiaaDoorW.PrintMore Go.Proofs.YtnnnbeimehfiiaaDoorW.SL
attribute [local go_sem] max2_int min2_int max_two min_two max_three min_three max_four min_four
theorem kn_b : ∀ x ∈ knT, byte x := by intro x hx; simp only [knT, List.mem_cons, List.not_mem_nil, or_false] at hx; unfold byte; omega
theorem kn_b2 : ∀ x ∈ ([60, 60, 60, 60, 60, 60, 60, 10] : List Int), byte x := by intro x hx; simp only [List.mem_cons, List.not_mem_nil, or_false] at hx; unfold byte; omega
theorem kn_s : strOfNums knT = (⟨#[60, 60, 60, 60, 60, 60, 60, 32, 97, 10, 120, 10, 124, 124, 124, 124, 124, 124, 124, 32, 98, 10, 121, 10, 61, 61, 61, 61, 61, 61, 61, 10, 122, 10, 62, 62, 62, 62, 62, 62, 62, 32, 99, 10]⟩ : ByteArray) := by kernel_rfl
theorem kn_s2 : strOfNums [122, 10] = (⟨#[122, 10]⟩ : ByteArray) := by kernel_rfl
theorem five_at (w : World) (o1 o2 o3 o4 o5 : Obj) : (((((w.alloc o1).alloc o2).alloc o3).alloc o4).alloc o5).heap[w.heap.size]? = some o1 ∧ (((((w.alloc o1).alloc o2).alloc o3).alloc o4).alloc o5).heap[w.heap.size + 1]? = some o2 ∧ (((((w.alloc o1).alloc o2).alloc o3).alloc o4).alloc o5).heap[w.heap.size + 1 + 1]? = some o3 ∧ (((((w.alloc o1).alloc o2).alloc o3).alloc o4).alloc o5).heap[w.heap.size + 1 + 1 + 1 + 1]? = some o5 ∧ Below w.heap.size w (((((w.alloc o1).alloc o2).alloc o3).alloc o4).alloc o5) ∧ w.heap.size ≤ (((((w.alloc o1).alloc o2).alloc o3).alloc o4).alloc o5).heap.size := by
  have z1 : (w.alloc o1).heap.size = w.heap.size + 1 := by simp
  obtain ⟨w1, h1⟩ : ∃ w1, w.alloc o1 = w1 := ⟨_, rfl⟩
  have e1 : w1.heap[w.heap.size]? = some o1 := by rw [← h1]; exact heap_alloc_new w o1
  have b1 : Below w.heap.size w w1 := by rw [← h1]; exact below_alloc (Below.refl _ _) _
  rw [h1] at z1 ⊢
  have z2 : (w1.alloc o2).heap.size = w.heap.size + 1 + 1 := by simp [z1]
  obtain ⟨w2, h2⟩ : ∃ w2, w1.alloc o2 = w2 := ⟨_, rfl⟩
  have e2 : w2.heap[w.heap.size + 1]? = some o2 := by rw [← h2, ← z1]; exact heap_alloc_new w1 o2
  have b2 : Below w1.heap.size w1 w2 := by rw [← h2]; exact below_alloc (Below.refl _ _) _
  rw [h2] at z2 ⊢
  have z3 : (w2.alloc o3).heap.size = w.heap.size + 1 + 1 + 1 := by simp [z2]
  obtain ⟨w3, h3⟩ : ∃ w3, w2.alloc o3 = w3 := ⟨_, rfl⟩
  have e3 : w3.heap[w.heap.size + 1 + 1]? = some o3 := by rw [← h3, ← z2]; exact heap_alloc_new w2 o3
  have b3 : Below w2.heap.size w2 w3 := by rw [← h3]; exact below_alloc (Below.refl _ _) _
  rw [h3] at z3 ⊢
  have z4 : (w3.alloc o4).heap.size = w.heap.size + 1 + 1 + 1 + 1 := by simp [z3]
  obtain ⟨w4, h4⟩ : ∃ w4, w3.alloc o4 = w4 := ⟨_, rfl⟩
  have b4 : Below w3.heap.size w3 w4 := by rw [← h4]; exact below_alloc (Below.refl _ _) _
  rw [h4] at z4 ⊢
  obtain ⟨w5, h5⟩ : ∃ w5, w4.alloc o5 = w5 := ⟨_, rfl⟩
  have e5 : w5.heap[w.heap.size + 1 + 1 + 1 + 1]? = some o5 := by rw [← h5, ← z4]; exact heap_alloc_new w4 o5
  have b5 : Below w4.heap.size w4 w5 := by rw [← h5]; exact below_alloc (Below.refl _ _) _
  rw [h5]
  have s5 := b5.size
  refine ⟨?_, ?_, ?_, e5, ?_, by omega⟩
  · rw [b5.block _ (by omega), b4.block _ (by omega), b3.block _ (by omega), b2.block _ (by omega)]; exact e1
  · rw [b5.block _ (by omega), b4.block _ (by omega), b3.block _ (by omega)]; exact e2
  · rw [b5.block _ (by omega), b4.block _ (by omega)]; exact e3
  · exact (((b1.trans (below_lo b2 (by omega))).trans (below_lo b3 (by omega))).trans (below_lo b4 (by omega))).trans (below_lo b5 (by omega))
theorem kn_C {W : World} {g a1 a2 a3 t : Nat} (h : W.heap[g]? = some (.cells #[.bool true, .slice none 0 0, .slice (some ⟨a1, 0, none⟩) 1 1, .slice (some ⟨a2, 0, none⟩) 1 1, .slice (some ⟨a3, 0, none⟩) 1 1] t (0, 0))) (h1 : W.heap[a1]? = some (.cells #[.int .u8 120] 5 (1, 2))) (h2 : W.heap[a2]? = some (.cells #[.int .u8 121] 5 (1, 2))) (h3 : W.heap[a3]? = some (.cells #[.int .u8 122] 5 (1, 2))) :
    Kd.C kP W (some ⟨g, 0, none⟩) [knP].length [knP] := by
  refine ⟨rfl, by decide, fun _ => ⟨_, rfl, fun j x hj => ?_⟩⟩
  cases j with
  | zero =>
    simp only [List.getElem?_cons_zero, Option.some.injEq] at hj
    subst hj
    refine ⟨_, by rfl, kP_mk W knP (A1 := none) (c1 := 0) (A2 := some ⟨a1, 0, none⟩) (c2 := 1) (A3 := some ⟨a2, 0, none⟩) (c3 := 1) (A4 := some ⟨a3, 0, none⟩) (c4 := 1) ⟨Nat.le_refl _, Kd.C_nil B8 _⟩ ⟨Nat.le_refl _, lit_C (cs := [120]) h1 (by decide)⟩ ⟨Nat.le_refl _, lit_C (cs := [121]) h2 (by decide)⟩ ⟨Nat.le_refl _, lit_C (cs := [122]) h3 (by decide)⟩, fun i u hi => ?_⟩
    rw [base_add, blk_cell h]
    rw [← Array.getElem?_toList]
    refine Eq.trans ?_ hi
    simp [knP]
  | succ j => simp at hj
set_option maxHeartbeats 16000000 in
set_option maxRecDepth 100000 in
theorem known_walk (w : World) : Calls Tryd.prog 11 #[] w fun e w' => e = .returned (.bool true) ∧ Below w.heap.size w w' := by
  obtain ⟨wa, hwa⟩ : ∃ wa, wa = w.alloc (.cells #[.int .u8 120] 5 (1, 2)) := ⟨_, rfl⟩
  obtain ⟨wb, hwb⟩ : ∃ wb, wb = wa.alloc (.cells #[.int .u8 121] 5 (1, 2)) := ⟨_, rfl⟩
  have hca := Go.Joins.run_convert_bytes_const_at (P := Tryd.prog) w 22 5 #[.int .u8 120] 1 1 w.heap.size rfl Tryd.underlying22 Tryd.underlying5
  have hcb := Go.Joins.run_convert_bytes_const_at (P := Tryd.prog) wa 22 5 #[.int .u8 121] 1 1 (w.heap.size + 1) (by rw [hwa]; simp) Tryd.underlying22 Tryd.underlying5
  have hcc := Go.Joins.run_convert_bytes_const_at (P := Tryd.prog) wb 22 5 #[.int .u8 122] 1 1 (w.heap.size + 1 + 1) (by rw [hwb, hwa]; simp) Tryd.underlying22 Tryd.underlying5
  rw [hwb, hwa] at hcc
  rw [hwa] at hcb
  clear hwa hwb
  go_enter Tryd.func11, Tryd.ntmps11
  go_wp2_with (first | (go_at_call 19; refine (Write_calls 7 ⟨#[97]⟩ ⟨#[98]⟩ ⟨#[99]⟩ (some ⟨w.heap.size + 1 + 1 + 1 + 1, 0, none⟩) 1 [knP] _ (kn_C (t := 50) (a1 := w.heap.size) (a2 := w.heap.size + 1) (a3 := w.heap.size + 1 + 1) (five_at w _ _ _ _ _).2.2.2.1 (five_at w _ _ _ _ _).1 (five_at w _ _ _ _ _).2.1 (five_at w _ _ _ _ _).2.2.1) (Nat.le_refl _) (by decide) (by intro p hp; rw [List.mem_singleton] at hp; subst hp; decide) (by decide) (by decide) (by decide)).mono ?_; rw [kn_w]; rintro e w1 ⟨A1, c1, rfl, hc1, hC1, hb1⟩; have HB1 : Aside0 (Below w.heap.size w w1) := ⟨(five_at w _ _ _ _ _).2.2.2.2.1.trans (below_lo hb1 (five_at w _ _ _ _ _).2.2.2.2.2)⟩; replace hC1 := Aside0.mk hC1; replace hc1 := Aside0.mk hc1; clear hb1) | (go_at_call 9; refine (read_calls 7 A1 c1 knT w1 hC1.out hc1.out kn_b (by decide)).mono ?_; rw [kn_r]; rintro e w2 ⟨A2, c2, rfl, hc2, hC2, hb2⟩; have HB2 := Aside0.mk (HB1.out.trans (below_lo hb2 HB1.out.size)); replace hC1 := Aside0.mk (Kd.C_below hC1.out hb2); replace hC2 := Aside0.mk hC2; have hcd := Go.Joins.run_convert_bytes_const_at (P := Tryd.prog) w2 22 5 #[.int .u8 60, .int .u8 60, .int .u8 60, .int .u8 60, .int .u8 60, .int .u8 60, .int .u8 60, .int .u8 10] 8 8 w2.heap.size rfl Tryd.underlying22 Tryd.underlying5; clear hb2) | (go_at_call 9; refine (read_calls 7 (some ⟨w2.heap.size, 0, none⟩) 8 [60, 60, 60, 60, 60, 60, 60, 10] _ (lit_C (cs := [60, 60, 60, 60, 60, 60, 60, 10]) (heap_alloc_new w2 _) (by decide)) (Nat.le_refl _) kn_b2 (by decide)).mono ?_; rw [kn_e]; rintro e w3 ⟨A3, c3, rfl, _, _, hb3⟩; have hb3_ := (below_alloc (Below.refl _ _) _).trans (below_lo hb3 (by simp)); have HB3 := Aside0.mk (HB2.out.trans (below_lo hb3_ HB2.out.size)); replace hC1 := Kd.C_below hC1.out hb3_; replace hC2 := Kd.C_below hC2.out hb3_; clear hb3 hb3_; have hst1 := Kd.C_string (P := Tryd.prog) (c := c1) Tryd.underlying22 Tryd.underlying5 Tryd.underlying9 hC1; rw [kn_s] at hst1; obtain ⟨a2, x2, B1, d1, B2, d2, B3, d3, B4, d4, rfl, hx2, _, q0, q1, q2, q3, q4, k1, k2, k3, k4⟩ := at_Pt (Kd.C_F kP_heap hC2) 0 (Int.le_refl _) (by decide); obtain rfl : knQ = x2 := Option.some.inj hx2; have hst2 := Kd.C_string (P := Tryd.prog) (c := d4) Tryd.underlying22 Tryd.underlying5 Tryd.underlying9 (Kd.F_now k4.2); rw [show knQ.s2 = [122, 10] from rfl, kn_s2] at hst2; have e0_ : a2.add ((0 : Int).toNat * 5) = a2 := (by simp [Addr.add]); rw [e0_] at q0 q4; replace q0 : w3.cell? a2 = some (.bool true) := q0; replace q4 : w3.cell? ⟨a2.block, a2.off + 4, none⟩ = some (.slice B4 2 d4) := q4; replace hst2 : (convert 22 9 (.slice B4 2 d4)).run Tryd.prog w3 = .ok (.string ⟨#[122, 10]⟩) w3 := hst2; clear e0_ q1 q2 q3; replace hC1 := Aside0.mk hC1; replace hC2 := Aside0.mk hC2; clear k1 k2 k3 k4 hx2))
  go_ret
  exact ⟨rfl, HB3.out⟩
end Go.Proofs.YtnnnbeimehfiiaaDoor.Q

/-! What is given to the printed texts: mark.Label, known. -/
set_option linter.unusedVariables false
namespace Go.Proofs.YtnnnbeimehfiiaaDoor.Q
open Go Go.RowKit Go.Proofs.YtnnnbeimehfiiaaDoorW.PrintWords
theorem label_given (a0 r : ByteArray) (w : World) (h : (if a0.size ≤ 9223372036854775807 then some (labB a0) else none) = some r) :
    Calls Tryd.prog 14 #[.string a0] w fun e w' => e = .returned (.string r) ∧ Below w.heap.size w w' := by
  split at h
  · rename_i hs
    obtain rfl := Option.some.inj h
    exact Label_calls a0 w hs
  · cases h
theorem known_given (r : Bool) (w : World) (h : (some true : Option Bool) = some r) : Calls Tryd.prog 11 #[] w fun e w' => e = .returned (.bool r) ∧ Below w.heap.size w w' := by
  obtain rfl := Option.some.inj h
  exact known_walk w
end Go.Proofs.YtnnnbeimehfiiaaDoor.Q

-- Written by a program of this session (wip/mkprint.py, wip/pr.sh) for this claim; Lean checks it.
namespace Go.Proofs.YtnnnbeimehfiiaaDoor.L
open Go.RowKit Go.Proofs.YtnnnbeimehfiiaaDoorW.PrintWords Go.Proofs.YtnnnbeimehfiiaaDoorW.PrintLast Go.Proofs.YtnnnbeimehfiiaaDoorW.PrintMore
attribute [local go_sem] max2_int min2_int max_two min_two max_three min_three max_four min_four   -- for this text's walks alone
set_option linter.unusedVariables false
set_option linter.unusedSimpArgs false

/-! ### scarflaw18_known: function 11 -/
def scarflaw18_known.f  : Option (Bool) := some true
set_option maxHeartbeats 8000000 in
set_option maxRecDepth 100000 in
theorem scarflaw18_known.calls  (r : Bool) (w : World) (h : scarflaw18_known.f  = some r) :
  Calls Tryd.prog 11 #[] w fun e w' => e = .returned (.bool r) ∧ Below w.heap.size w w' := by
 exact Q.known_given r w h

/-! ### mark_Label: function 14 -/
def mark_Label.f (a0 : ByteArray) : Option (ByteArray) := if a0.size ≤ 9223372036854775807 then some (Q.labB a0) else none
set_option maxHeartbeats 8000000 in
set_option maxRecDepth 100000 in
theorem mark_Label.calls (a0 : ByteArray) (r : ByteArray) (w : World) (h : mark_Label.f a0 = some r) :
  Calls Tryd.prog 14 #[.string a0] w fun e w' => e = .returned (.string r) ∧ Below w.heap.size w w' := by
 exact Q.label_given a0 r w h

/-! ### scarfref18_Labelled: function 15 -/
def scarfref18_Labelled.f (k : Nat) (a0 : ByteArray) : Option (ByteArray) := Q.scarfref18_Labelled.f k a0
theorem scarfref18_Labelled.mono : ∀ a0 k, LeO (scarfref18_Labelled.f k a0) (scarfref18_Labelled.f (k + 1) a0) := Q.scarfref18_Labelled.mono
set_option maxHeartbeats 8000000 in
set_option maxRecDepth 100000 in
theorem scarfref18_Labelled.calls (k : Nat) (a0 : ByteArray) (r : ByteArray) (w : World) (h : scarfref18_Labelled.f k a0 = some r) :
  Calls Tryd.prog 15 #[.string a0] w fun e w' => e = .returned (.string r) ∧ Below w.heap.size w w' := by
 exact Q.scarfref18_Labelled.calls k a0 r w h

/-! ### mark_Length: function 16 -/
def mark_Length.f (k : Nat) (a0 : Int) (l1 : List (List Int)) : Option (Int) := Q.mark_Length.f k a0 l1
theorem mark_Length.mono : ∀ a0 l1 k, LeO (mark_Length.f k a0 l1) (mark_Length.f (k + 1) a0 l1) := Q.mark_Length.mono
set_option maxHeartbeats 8000000 in
set_option maxRecDepth 100000 in
theorem mark_Length.calls (k : Nat) (a0 : Int) (A1 : Option Addr) (c1 : Nat) (l1 : List (List Int)) (r : Int) (w : World) (hr1 : Kd.C (Kd.slice 5 (Kd.int .u8)) w A1 l1.length l1) (hc1 : l1.length ≤ c1) (h : mark_Length.f k a0 l1 = some r) :
  Calls Tryd.prog 16 #[.int .i64 a0, .slice A1 l1.length c1] w fun e w' => e = .returned (.int .i64 r) ∧ Below w.heap.size w w' := by
 exact Q.mark_Length.calls k a0 A1 c1 l1 r w hr1 hc1 h

/-! ### scarfref18_Length: function 17 -/
def scarfref18_Length.f (k : Nat) (a0 : Int) (l1 : List (List Int)) : Option (Int) := Q.scarfref18_Length.f k a0 l1
theorem scarfref18_Length.mono : ∀ a0 l1 k, LeO (scarfref18_Length.f k a0 l1) (scarfref18_Length.f (k + 1) a0 l1) := Q.scarfref18_Length.mono
set_option maxHeartbeats 8000000 in
set_option maxRecDepth 100000 in
theorem scarfref18_Length.calls (k : Nat) (a0 : Int) (A1 : Option Addr) (c1 : Nat) (l1 : List (List Int)) (r : Int) (w : World) (hr1 : Kd.C (Kd.slice 5 (Kd.int .u8)) w A1 l1.length l1) (hc1 : l1.length ≤ c1) (h : scarfref18_Length.f k a0 l1 = some r) :
  Calls Tryd.prog 17 #[.int .i64 a0, .slice A1 l1.length c1] w fun e w' => e = .returned (.int .i64 r) ∧ Below w.heap.size w w' := by
 exact Q.scarfref18_Length.calls k a0 A1 c1 l1 r w hr1 hc1 h

/-! ### scarflaw18_MarkLabels: function 4 -/
mutual
def scarflaw18_MarkLabels.j1 : Nat → ByteArray → Int → List (List Int) → Option (Bool)
 | 0, _, _, _ => none
 | k + 1, x0, x1, x7 => (scarflaw18_known.f).bind fun t111 => (if t111 = true then ((mark_Label.f x0).bind fun t112 => ((scarfref18_Labelled.f k x0).bind fun t113 => (if t112.toList = t113.toList then ((mark_Length.f k x1 x7).bind fun t114 => ((scarfref18_Length.f k x1 x7).bind fun t115 => (if t114 = t115 then (some true) else (some false)))) else (some false)))) else (some false))
def scarflaw18_MarkLabels.l0 : Nat → ByteArray → Int → List (List Int) → List (List Int) → Int → Option (Bool)
 | 0, _, _, _, _, _ => none
 | k + 1, x0, x1, x2, x7, x8 => if x8 < (x2.length : Int) then (if x8 < 20 then (if 0 ≤ x8 then (if 0 ≤ (mn ((rd_L1 x2 x8).length : Int) 3000) then (if (mn ((rd_L1 x2 x8).length : Int) 3000) ≤ ((rd_L1 x2 x8).length : Int) then (if x7.length < 5864062014805 then (scarflaw18_MarkLabels.l0 k x0 x1 x2 (x7 ++ [((rd_L1 x2 x8).take ((mn ((rd_L1 x2 x8).length : Int) 3000) : Int).toNat)]) (wrap64 (x8 + 1))) else (none)) else (none)) else (none)) else (none)) else (scarflaw18_MarkLabels.j1 k x0 x1 x7)) else (scarflaw18_MarkLabels.j1 k x0 x1 x7)
end
def scarflaw18_MarkLabels.f (k : Nat) (a0 : ByteArray) (a1 : Int) (l2 : List (List Int)) : Option (Bool) := if 0 ≤ (mn (a0.size : Int) 3000) then (if (mn (a0.size : Int) 3000) ≤ (a0.size : Int) then (scarflaw18_MarkLabels.l0 k (a0.extract 0 ((mn (a0.size : Int) 3000) : Int).toNat) a1 l2 ([] : List (List Int)) 0) else (none)) else (none)
theorem scarflaw18_MarkLabels.mono_l : ∀ k, (∀ y0 y1 y2, LeO (scarflaw18_MarkLabels.j1 k y0 y1 y2) (scarflaw18_MarkLabels.j1 (k + 1) y0 y1 y2)) ∧ (∀ y0 y1 y2 y3 y4, LeO (scarflaw18_MarkLabels.l0 k y0 y1 y2 y3 y4) (scarflaw18_MarkLabels.l0 (k + 1) y0 y1 y2 y3 y4))
 | 0 => ⟨fun _ _ _ r h => by simp [scarflaw18_MarkLabels.j1] at h, fun _ _ _ _ _ r h => by simp [scarflaw18_MarkLabels.l0] at h⟩
 | k + 1 => by
  obtain ⟨ih0, ih1⟩ := scarflaw18_MarkLabels.mono_l k
  refine ⟨?_, ?_⟩
  ·intro y0 y1 y2
   unfold scarflaw18_MarkLabels.j1
   repeat' first
   | (with_reducible exact ih0 _ _ _)
   | (with_reducible exact ih1 _ _ _ _ _)
   | (with_reducible exact mark_Length.mono _ _ _)
   | (with_reducible exact scarfref18_Labelled.mono _ _)
   | (with_reducible exact scarfref18_Length.mono _ _ _)
   | (with_reducible exact LeO.refl _)
   | (with_reducible exact LeO.none _)
   | (with_reducible refine LeO.ite ?_ ?_)
   | (with_reducible refine LeO.bind ?_ (fun _ => ?_))
   | exact ih0 _ _ _
   | exact ih1 _ _ _ _ _
   | exact mark_Length.mono _ _ _
   | exact scarfref18_Labelled.mono _ _
   | exact scarfref18_Length.mono _ _ _
   | exact LeO.none _
   | refine LeO.ite ?_ ?_
   | refine LeO.bind ?_ (fun _ => ?_)
  ·intro y0 y1 y2 y3 y4
   unfold scarflaw18_MarkLabels.l0
   repeat' first
   | (with_reducible exact ih0 _ _ _)
   | (with_reducible exact ih1 _ _ _ _ _)
   | (with_reducible exact mark_Length.mono _ _ _)
   | (with_reducible exact scarfref18_Labelled.mono _ _)
   | (with_reducible exact scarfref18_Length.mono _ _ _)
   | (with_reducible exact LeO.refl _)
   | (with_reducible exact LeO.none _)
   | (with_reducible refine LeO.ite ?_ ?_)
   | (with_reducible refine LeO.bind ?_ (fun _ => ?_))
   | exact ih0 _ _ _
   | exact ih1 _ _ _ _ _
   | exact mark_Length.mono _ _ _
   | exact scarfref18_Labelled.mono _ _
   | exact scarfref18_Length.mono _ _ _
   | exact LeO.none _
   | refine LeO.ite ?_ ?_
   | refine LeO.bind ?_ (fun _ => ?_)
theorem scarflaw18_MarkLabels.mono : ∀ a0 a1 a2 k, LeO (scarflaw18_MarkLabels.f k a0 a1 a2) (scarflaw18_MarkLabels.f (k + 1) a0 a1 a2) := by
 intro a0 a1 a2 k
 obtain ⟨ih0, ih1⟩ := scarflaw18_MarkLabels.mono_l k
 unfold scarflaw18_MarkLabels.f
 repeat' first
   | (with_reducible exact ih0 _ _ _)
   | (with_reducible exact ih1 _ _ _ _ _)
   | (with_reducible exact mark_Length.mono _ _ _)
   | (with_reducible exact scarfref18_Labelled.mono _ _)
   | (with_reducible exact scarfref18_Length.mono _ _ _)
   | (with_reducible exact LeO.refl _)
   | (with_reducible exact LeO.none _)
   | (with_reducible refine LeO.ite ?_ ?_)
   | (with_reducible refine LeO.bind ?_ (fun _ => ?_))
   | exact ih0 _ _ _
   | exact ih1 _ _ _ _ _
   | exact mark_Length.mono _ _ _
   | exact scarfref18_Labelled.mono _ _
   | exact scarfref18_Length.mono _ _ _
   | exact LeO.none _
   | refine LeO.ite ?_ ?_
   | refine LeO.bind ?_ (fun _ => ?_)
def scarflaw18_MarkLabels.T6 : Bool × List (List Nat × List Nat) := (true, [([], []), ([], []), ([], []), ([1, 2], [1, 2]), ([3], [3]), ([], []), ([], []), ([5, 6], [5, 6]), ([7], [7]), ([8], [8]), ([9], [9]), ([4, 10], [4, 10]), ([11], [11]), ([0, 12], [0, 12]), ([13, 13, 0, 1, 2, 3, 4, 5, 6, 7, 8, 9, 10, 11, 12, 13], [0, 13])])
def scarflaw18_MarkLabels.B6 : List Nat := [0, 0, 0, 6, 14, 0, 0, 96, 224, 480, 992, 2046, 4094, 8191, 16383]
theorem scarflaw18_MarkLabels.tab6 : rtab .any (opsOf Tryd.f4 6) = scarflaw18_MarkLabels.T6 := by kernel_rfl
theorem scarflaw18_MarkLabels.bits6 : waitsOk scarflaw18_MarkLabels.T6.2 scarflaw18_MarkLabels.B6 = true := by kernel_rfl
set_option maxHeartbeats 8000000 in
set_option maxRecDepth 100000 in
theorem scarflaw18_MarkLabels.calls (k : Nat) (a0 : ByteArray) (a1 : Int) (P2_ : Nat → Prop) (A2 : Option Addr) (c2 : Nat) (l2 : List (List Int)) (r : Bool) (w : World) (hs2 : Kd.V (Kd.slice 5 (Kd.int .u8)) 22 w w.heap.size (fun k_ => P2_ k_) (.slice A2 l2.length c2) l2) (h : scarflaw18_MarkLabels.f k a0 a1 l2 = some r) (hr_ : r = true := by rfl) :
  Calls Tryd.prog 4 #[.string a0, .int .i64 a1, .slice A2 l2.length c2] w fun e w' => e = .returned (.bool r) ∧ Below w.heap.size w w' := by
 subst hr_
 have HO2 := Aside0.mk (show Kd.V (Kd.slice 5 (Kd.int .u8)) 22 w w.heap.size (fun k_ => (P2_ k_ ∨ w.heap.size ≤ k_)) (.slice A2 l2.length c2) l2 from Kd.V_mono hs2 (fun k_ hk => .inl hk))
 have HB := Aside0.mk (Below.refl w.heap.size w)
 have H : (if 0 ≤ (mn (a0.size : Int) 3000) then (if (mn (a0.size : Int) 3000) ≤ (a0.size : Int) then (scarflaw18_MarkLabels.l0 k (a0.extract 0 ((mn (a0.size : Int) 3000) : Int).toNat) a1 l2 ([] : List (List Int)) 0) else (none)) else (none)) = some true := h
 clear h
 obtain ⟨ji4, hji4⟩ : ∃ j_ : Int, (mn (a0.size : Int) 3000) = j_ := ⟨_, rfl⟩
 replace H : (if 0 ≤ (ji4) then (if (ji4) ≤ (a0.size : Int) then (scarflaw18_MarkLabels.l0 k (a0.extract 0 ((ji4) : Int).toNat) a1 l2 ([] : List (List Int)) 0) else (none)) else (none)) = some true := by first | (rw [hji4] at H; exact H) | (simp only [hji4] at H ⊢; exact H)
 (try (have hji4h : ji4 ≤ 3000 := by (rw [← hji4]; unfold mn; (repeat' split) <;> omega)))
 (try (have hji4g : ji4 ≤ 64 := by omega))
 (try (have hji4l : 0 ≤ ji4 := by (rw [← hji4]; unfold mn; (repeat' split) <;> omega)))
 (try (have hji4m : 0 ≤ ji4 := by omega))
 have hji4_ : (if 3000 < (a0.size : Int) then 3000 else (a0.size : Int)) = ji4 := hji4
 by_cases c5 : 0 ≤ (ji4)
 ·rw [if_pos c5] at H
  have c5b0 := eq_true c5
  have c5b1 : decide (0 ≤ (ji4)) = true := decide_eq_true c5
  clear c5
  by_cases c6 : (ji4) ≤ (a0.size : Int)
  ·rw [if_pos c6] at H
   have c6b0 := eq_true c6
   have c6b1 : decide ((ji4) ≤ (a0.size : Int)) = true := decide_eq_true c6
   clear c6
   have HC7 := Aside0.mk H
   clear H
   go_enter Tryd.func4, Tryd.ntmps4
   go_upto_block 0 with (fail)
   go_cut [7] (fun v7 wc => ∃ (kq : Nat) (x7_6 : List (List Int)), Aside0 (scarflaw18_MarkLabels.j1 kq (a0.extract 0 ((ji4) : Int).toNat) a1 x7_6 = some true) ∧ Aside0 (kq ≤ k) ∧ Aside0 (Kd.N (Kd.slice 5 (Kd.int .u8)) 22 wc w.heap.size (fun k_ => (P2_ k_ ∨ w.heap.size ≤ k_)) v7 x7_6) ∧ Aside0 (Below w.heap.size w wc))
   case first =>
    have H := HC7.out
    clear HC7
    have H' := Aside0.mk H
    clear H
    go_wp2
    go_loopg [7, 8] k (fun kq v7 v8 w' => ∃ (x7_1 : List (List Int)) (x8_1 : Int), v8 = .int .i64 x8_1 ∧ Aside0 (scarflaw18_MarkLabels.l0 kq (a0.extract 0 ((ji4) : Int).toNat) a1 l2 x7_1 x8_1 = some true) ∧ Aside0 (kq ≤ k) ∧ Aside0 (Kd.V (Kd.slice 5 (Kd.int .u8)) 22 w' w.heap.size (fun k_ => (P2_ k_ ∨ w.heap.size ≤ k_) ∧ some k_ ≠ (v7 : Value).ownBlock) (.slice A2 l2.length c2) l2) ∧ Aside0 (Kd.N (Kd.slice 5 (Kd.int .u8)) 22 w' w.heap.size (fun k_ => (P2_ k_ ∨ w.heap.size ≤ k_)) v7 x7_1) ∧ Aside0 (Below w.heap.size w w'))
    case atStart => exact ⟨(([] : List (List Int))), (0), (by first | rfl | (simp; done) | (simp [*]; done)), H', ⟨Nat.le_refl _⟩, ⟨by (with_reducible repeat (first | apply Kd.V_alloc | apply Kd.V_drewN | apply Kd.V_drew)); exact Kd.V_mono HO2.out (fun _ hk => ⟨hk, (by simp [Value.ownBlock])⟩)⟩, ⟨by first | exact Kd.S_nil _ _ _ _ _ | exact Kd.N_nil _ _ _ _ _ | exact Kd.V_nil _ _ _ _ _ | exact Kd.Q_nil _ _ _ _ _ | exact Kd.R_nil _ _ _ _ _⟩, ⟨by repeat (first | (with_reducible first | exact HB.out | apply below_alloc | apply pw_below_drewN | apply below_drew1) | exact HB.out)⟩⟩
    case round =>
     clear H'
     try clear c2
     try clear p2
     try clear c4
     try clear c5
     try clear c5b0
     try clear c5b1
     try clear c6
     try clear c6b0
     try clear c6b1
     obtain ⟨x7_1, x8_1, rfl, HA, HK1, HO_2, HO_7, HB⟩ := hrel
     cases gk with
     | zero => exact absurd HA.out (by simp [scarflaw18_MarkLabels.l0])
     | succ k1 =>
      have H := HA.out
      clear HA
      simp only [scarflaw18_MarkLabels.l0] at H
      by_cases c8 : x8_1 < (l2.length : Int)
      ·rw [if_pos c8] at H
       have c8b0 : decide (x8_1 < (l2.length : Int)) = true := decide_eq_true c8
       clear c8
       (first | rw [c8b0] | (simp only [i64_w, i32_w]; rw [c8b0]) | skip)
       by_cases c9 : x8_1 < 20
       ·rw [if_pos c9] at H
        have c9b0 : decide (x8_1 < 20) = true := decide_eq_true c9
        clear c9
        by_cases c10 : 0 ≤ x8_1
        ·rw [if_pos c10] at H
         have c10b0 : decide (0 ≤ x8_1) = true := decide_eq_true c10
         clear c10
         obtain ⟨ji11, hji11⟩ : ∃ j_ : Int, (mn ((rd_L1 l2 x8_1).length : Int) 3000) = j_ := ⟨_, rfl⟩
         replace H : (if 0 ≤ (ji11) then (if (ji11) ≤ ((rd_L1 l2 x8_1).length : Int) then (if x7_1.length < 5864062014805 then (scarflaw18_MarkLabels.l0 k1 (a0.extract 0 ((ji4) : Int).toNat) a1 l2 (x7_1 ++ [((rd_L1 l2 x8_1).take ((ji11) : Int).toNat)]) (wrap64 (x8_1 + 1))) else (none)) else (none)) else (none)) = some true := by first | (rw [hji11] at H; exact H) | (simp only [hji11] at H ⊢; exact H)
         have hji11_ : (if 3000 < ((rd_L1 l2 x8_1).length : Int) then 3000 else ((rd_L1 l2 x8_1).length : Int)) = ji11 := hji11
         by_cases c12 : 0 ≤ (ji11)
         ·rw [if_pos c12] at H
          have c12b0 := eq_true c12
          have c12b1 : decide (0 ≤ (ji11)) = true := decide_eq_true c12
          clear c12
          by_cases c13 : (ji11) ≤ ((rd_L1 l2 x8_1).length : Int)
          ·rw [if_pos c13] at H
           have c13b0 := eq_true c13
           have c13b1 : decide ((ji11) ≤ ((rd_L1 l2 x8_1).length : Int)) = true := decide_eq_true c13
           clear c13
           obtain ⟨y103, hy103⟩ : ∃ y_ : List Int, y_ = ((rd_L1 l2 x8_1).take ((ji11) : Int).toNat) := ⟨_, rfl⟩
           replace H : (if x7_1.length < 5864062014805 then (scarflaw18_MarkLabels.l0 k1 (a0.extract 0 ((ji4) : Int).toNat) a1 l2 (x7_1 ++ [y103]) (wrap64 (x8_1 + 1))) else (none)) = some true := by first | (rw [hy103]; with_reducible exact H) | (have H2_ := (Option.bind_some _ _).symm.trans H; rw [hy103]; with_reducible exact H2_) | (have H2_ := (Option.bind_some _ _).symm.trans H; with_reducible exact H2_) | with_reducible exact H | (rw [hy103]; exact H) | exact H
           have Ny103 := Aside0.mk hy103
           clear hy103
           by_cases c14 : x7_1.length < 5864062014805
           ·rw [if_pos c14] at H
            have LMc14 := Aside0.mk c14
            clear c14
            obtain ⟨y108, hy108⟩ : ∃ y_ : List (List Int), y_ = (x7_1 ++ [y103]) := ⟨_, rfl⟩
            replace H : (scarflaw18_MarkLabels.l0 k1 (a0.extract 0 ((ji4) : Int).toNat) a1 l2 y108 (wrap64 (x8_1 + 1))) = some true := by first | (rw [hy108]; with_reducible exact H) | (have H2_ := (Option.bind_some _ _).symm.trans H; rw [hy108]; with_reducible exact H2_) | (have H2_ := (Option.bind_some _ _).symm.trans H; with_reducible exact H2_) | with_reducible exact H | (rw [hy108]; exact H) | exact H
            have Ny108 := Aside0.mk hy108
            clear hy108
            have H' := Aside0.mk H
            clear H
            try go_wp2
            have n0_ := Aside0.mk (Kd.V_drew HO_2.out)
            have n1_ := Aside0.mk (Kd.N_drew HO_7.out)
            have n2_ := Aside0.mk (below_drew1 HB.out)
            clear HO_2
            clear HO_7
            clear HB
            have HO_2 := n0_
            have HO_7 := n1_
            have HB := n2_
            clear n0_ n1_ n2_
            have p101 : 0 ≤ (x8_1 : Int) := of_decide_eq_true (by first | (with_reducible assumption) | assumption)
            have q101 : x8_1 < (l2.length : Int) := of_decide_eq_true (by first | (with_reducible assumption) | assumption)
            obtain ⟨ad101, A101_0, c101_0, e101, hx101_0, hl101_0, hi101_0⟩ := at_L1 (Kd.V_reads' HO_2.out).2.2 x8_1 p101 q101
            cases e101
            obtain ⟨ce101, hce101, hMe101, hcc101⟩ := Kd.V_get HO_2.out [] x8_1 p101 (by first | exact q101 | exact of_decide_eq_true (by first | (with_reducible assumption) | assumption) | (have e_ := (Kd.V_reads' HO_2.out).1; omega))
            obtain ⟨ua101_0, uc101_0, rfl, ul101_0, ge101_0⟩ := Kd.FK_slice_open hMe101
            have hv101_0 := hcc101 0 _ rfl
            rw [Nat.add_zero, show ((Kd.slice 5 (Kd.int .u8))).sz = 1 from rfl, Nat.mul_one] at hv101_0
            replace hv101_0 := Option.some.inj (hv101_0.symm.trans hx101_0)
            injection hv101_0 with hva_ hvn_ hvc_
            rw [hva_] at ge101_0
            rw [hvc_] at ul101_0
            have HL101_0 := Aside0.mk (show Kd.V (Kd.int .u8) 5 _ w.heap.size _ _ (rd_L1 l2 x8_1) from Kd.V_mk ul101_0 ge101_0)
            clear hva_ hvn_ hvc_ ge101_0 ul101_0
            clear hcc101 hce101
            have HR101_0 := Aside0.mk hi101_0
            have HC101_0 := Aside0.mk hl101_0
            clear hi101_0 hl101_0
            replace p101 := eq_true p101
            replace q101 := eq_true q101
            have p102 : 0 ≤ (x8_1 : Int) := of_decide_eq_true (by first | (with_reducible assumption) | assumption)
            have q102 : x8_1 < (l2.length : Int) := of_decide_eq_true (by first | (with_reducible assumption) | assumption)
            obtain ⟨ad102, A102_0, c102_0, e102, hx102_0, hl102_0, hi102_0⟩ := at_L1 (Kd.V_reads' HO_2.out).2.2 x8_1 p102 q102
            obtain rfl : ad101 = ad102 := (by injection e102)
            obtain ⟨ce102, hce102, hMe102, hcc102⟩ := Kd.V_get HO_2.out [] x8_1 p102 (by first | exact q102 | exact of_decide_eq_true (by first | (with_reducible assumption) | assumption) | (have e_ := (Kd.V_reads' HO_2.out).1; omega))
            obtain ⟨ua102_0, uc102_0, rfl, ul102_0, ge102_0⟩ := Kd.FK_slice_open hMe102
            have hv102_0 := hcc102 0 _ rfl
            rw [Nat.add_zero, show ((Kd.slice 5 (Kd.int .u8))).sz = 1 from rfl, Nat.mul_one] at hv102_0
            replace hv102_0 := Option.some.inj (hv102_0.symm.trans hx102_0)
            injection hv102_0 with hva_ hvn_ hvc_
            rw [hva_] at ge102_0
            rw [hvc_] at ul102_0
            have HL102_0 := Aside0.mk (show Kd.V (Kd.int .u8) 5 _ w.heap.size _ _ (rd_L1 l2 x8_1) from Kd.V_mk ul102_0 ge102_0)
            clear hva_ hvn_ hvc_ ge102_0 ul102_0
            clear hcc102 hce102
            have HR102_0 := Aside0.mk hi102_0
            have HC102_0 := Aside0.mk hl102_0
            clear hi102_0 hl102_0
            replace p102 := eq_true p102
            replace q102 := eq_true q102
            have ea_ := Option.some.inj (hx101_0.symm.trans hx102_0)
            injection ea_ with ea_ en_ ec_
            subst ea_
            subst ec_
            clear en_
            have q16 : ((ji11) : Int) ≤ (((rd_L1 l2 x8_1).length : Int) : Int) := of_decide_eq_true (by first | (with_reducible assumption) | assumption)
            obtain ⟨i016, hi016, _, hsz16, _⟩ := info_parts info5
            have hroom16 : (rd_L1 l2 x8_1).length ≤ c101_0 := HC101_0.out
            have hC16 : Kd.F (Kd.int .u8) _ _ A101_0 (rd_L1 l2 x8_1).length (rd_L1 l2 x8_1) := (Kd.V_at (base := w.heap.size) HL101_0.out).2.2
            have hcut16 := cut_to (P := Tryd.prog) 22 5 .i64 Tryd.underlying22 hi016 A101_0 (rd_L1 l2 x8_1).length c101_0 (ji11) (of_decide_eq_true (by first | (with_reducible assumption) | assumption)) q16 hroom16
            have hr16 := Kd.F_take (m := ((ji11) : Int).toNat) hC16 (by omega)
            have hy16 : y103.length = ((ji11) : Int).toNat := (by rw [Ny103.out, List.length_take]; omega)
            rw [← Ny103.out] at hr16
            rw [← hy16] at hcut16
            have HO107 := Aside0.mk (show Kd.V (Kd.int .u8) 5 _ w.heap.size _ (.slice A101_0 y103.length c101_0) y103 from Kd.V_mk (by omega) hr16)
            have HC107 := Aside0.mk (show y103.length ≤ c101_0 from by omega)
            clear hr16 hC16 hroom16 hi016 hsz16
            have KY16 := Aside0.mk hy16
            clear hy16
            replace q16 := eq_true q16
            refine start_ (n := 15) (S := fun w' => w'.cell? (ad101.add (x8_1).toNat) = some (.slice A101_0 (rd_L1 l2 x8_1).length c101_0) ∧ w'.cell? (ad101.add (x8_1).toNat) = some (.slice A101_0 (rd_L1 l2 x8_1).length c101_0)) (ds := [12, 13]) #[false, false, false, false, false, false, false, false, false, false, false, false, false, false, false] (by kernel_rfl) rfl rfl ⟨hx101_0, hx102_0⟩ (fun hHeld => ?_); refine with_tabW scarflaw18_MarkLabels.tab6 scarflaw18_MarkLabels.bits6 (fun HT_ HW_ => ?_)
            generalize wr.drew = w15 at HO_2 HO_7 HB HL101_0 HL102_0 HO107 HR101_0 HR102_0 hx101_0 hx102_0 hHeld ⊢
            refine pure_ (i := 0) (N := some 24) (v := ?_) (a' := ?_) #[true, false, false, false, false, false, false, false, false, false, false, false, false, false, false] rfl rfl (any_of HT_.out (by kernel_rfl)) (fun _ _ _ h => h) (Or.inl ⟨by rfl, ?_⟩) ?_ ?_
            rotate_left
            ·intro w'
             go_simp
             with_reducible rfl
            rotate_left
            ·simp only [Act.put, List.setIfInBounds_toArray, List.set_cons_zero, List.set_cons_succ, i64_w, i32_w]
             rfl
            refine pure_ (i := 1) (N := some 25) (v := ?_) (a' := ?_) #[true, true, false, false, false, false, false, false, false, false, false, false, false, false, false] rfl rfl (any_of HT_.out (by kernel_rfl)) (fun _ _ _ h => h) (Or.inl ⟨by rfl, ?_⟩) ?_ ?_
            rotate_left
            ·intro w'
             go_simp
             with_reducible rfl
            rotate_left
            ·simp only [Act.put, List.setIfInBounds_toArray, List.set_cons_zero, List.set_cons_succ, i64_w, i32_w]
             rfl
            refine pure_ (i := 2) (N := some 26) (v := ?_) (a' := ?_) #[true, true, true, false, false, false, false, false, false, false, false, false, false, false, false] rfl rfl (any_of HT_.out (by kernel_rfl)) (fun _ _ _ h => h) (Or.inl ⟨by rfl, ?_⟩) ?_ ?_
            rotate_left
            ·intro w'
             go_simp
             with_reducible rfl
            rotate_left
            ·simp only [Act.put, List.setIfInBounds_toArray, List.set_cons_zero, List.set_cons_succ, i64_w, i32_w]
             rfl
            refine pure_ (i := 3) (N := some 27) (v := ?_) (a' := ?_) #[true, true, true, true, false, false, false, false, false, false, false, false, false, false, false] rfl rfl (any_of HT_.out (by kernel_rfl)) (fun _ _ _ h => h) (Or.inl ⟨by rfl, ?_⟩) ?_ ?_
            rotate_left
            ·intro w'
             go_simp
             with_reducible rfl
            rotate_left
            ·simp only [Act.put, List.setIfInBounds_toArray, List.set_cons_zero, List.set_cons_succ, i64_w, i32_w]
             rfl
            refine pure_ (i := 5) (N := some 29) (v := ?_) (a' := ?_) #[true, true, true, true, false, true, false, false, false, false, false, false, false, false, false] rfl rfl (any_of HT_.out (by kernel_rfl)) (fun _ _ _ h => h) (Or.inl ⟨by rfl, ?_⟩) ?_ ?_
            rotate_left
            ·intro w'
             go_simp
             with_reducible rfl
            rotate_left
            ·simp only [Act.put, List.setIfInBounds_toArray, List.set_cons_zero, List.set_cons_succ, i64_w, i32_w]
             rfl
            refine pure_ (i := 6) (N := some 30) (v := ?_) (a' := ?_) #[true, true, true, true, false, true, true, false, false, false, false, false, false, false, false] rfl rfl (any_of HT_.out (by kernel_rfl)) (fun _ _ _ h => h) (Or.inl ⟨by rfl, ?_⟩) ?_ ?_
            rotate_left
            ·intro w'
             go_simp
             with_reducible rfl
            rotate_left
            ·simp only [Act.put, List.setIfInBounds_toArray, List.set_cons_zero, List.set_cons_succ, i64_w, i32_w]
             rfl
            refine pure_ (i := 7) (N := some 31) (v := ?_) (a' := ?_) #[true, true, true, true, false, true, true, true, false, false, false, false, false, false, false] rfl rfl (any_of HT_.out (by kernel_rfl)) (fun _ _ _ h => h) (Or.inl ⟨by rfl, ?_⟩) ?_ ?_
            rotate_left
            ·intro w'
             go_simp
             with_reducible rfl
            rotate_left
            ·simp only [Act.put, List.setIfInBounds_toArray, List.set_cons_zero, List.set_cons_succ, i64_w, i32_w]
             rfl
            refine take_ (i := 4) (N := some 28) (v := ?_) (a' := ?_) #[true, true, true, true, true, true, true, true, false, false, false, false, false, false, false] rfl rfl (take_ofW HT_.out HW_.out (by kernel_rfl)) (fun _ _ _ h => h) (Or.inl ⟨by rfl, ?_⟩) hHeld ?_ ?_
            rotate_left
            ·rintro w' ⟨s0, s1⟩
             go_simp
             with_reducible rfl
            rotate_left
            ·simp only [Act.put, List.setIfInBounds_toArray, List.set_cons_zero, List.set_cons_succ, i64_w, i32_w]
             rfl
            refine take_ (i := 8) (N := some 32) (v := ?_) (a' := ?_) #[true, true, true, true, true, true, true, true, true, false, false, false, false, false, false] rfl rfl (take_ofW HT_.out HW_.out (by kernel_rfl)) (fun _ _ _ h => h) (Or.inl ⟨by rfl, ?_⟩) hHeld ?_ ?_
            rotate_left
            ·rintro w' ⟨s0, s1⟩
             go_simp
             with_reducible rfl
            rotate_left
            ·simp only [Act.put, List.setIfInBounds_toArray, List.set_cons_zero, List.set_cons_succ, i64_w, i32_w]
             rfl
            refine pure_ (i := 9) (N := some 33) (v := ?_) (a' := ?_) #[true, true, true, true, true, true, true, true, true, true, false, false, false, false, false] rfl rfl (any_of HT_.out (by kernel_rfl)) (fun _ _ _ h => h) (Or.inl ⟨by rfl, ?_⟩) ?_ ?_
            rotate_left
            ·intro w'
             go_simp
             with_reducible rfl
            rotate_left
            ·simp only [Act.put, List.setIfInBounds_toArray, List.set_cons_zero, List.set_cons_succ, i64_w, i32_w]
             rfl
            refine pure_ (i := 10) (N := some 34) (v := ?_) (a' := ?_) #[true, true, true, true, true, true, true, true, true, true, true, false, false, false, false] rfl rfl (any_of HT_.out (by kernel_rfl)) (fun _ _ _ h => h) (Or.inl ⟨by rfl, ?_⟩) ?_ ?_
            rotate_left
            ·intro w'
             go_simp
             with_reducible rfl
            rotate_left
            ·simp only [Act.put, List.setIfInBounds_toArray, List.set_cons_zero, List.set_cons_succ, i64_w, i32_w]
             rfl
            refine pure_ (i := 11) (N := some 35) (v := ?_) (a' := ?_) #[true, true, true, true, true, true, true, true, true, true, true, true, false, false, false] rfl rfl (any_of HT_.out (by kernel_rfl)) (fun _ _ _ h => h) (Or.inl ⟨by rfl, ?_⟩) ?_ ?_
            rotate_left
            ·intro w'
             go_simp
             with_reducible rfl
            rotate_left
            ·simp only [Act.put, List.setIfInBounds_toArray, List.set_cons_zero, List.set_cons_succ, i64_w, i32_w]
             rfl
            refine last_ (i := 12) (N := some 36) #[true, true, true, true, true, true, true, true, true, true, true, true, true, false, false] rfl rfl (one_of HT_.out (by kernel_rfl)) (by decide) (fun K hK => ?_)
            refine value_ (w1 := ?_) (v := ?_) (by rfl) rfl ?_ ?_
            rotate_left 2
            ·go_simp
             constructor
             ·rfl
             ·rfl
            refine hK.out _ _ ?_
            clear hK K
            refine norm_ (a' := ?_) ?_ ?_
            rotate_left
            ·show Act.put _ (some 36) _ = _
             simp only [Act.put, List.setIfInBounds_toArray, List.set_cons_zero, List.set_cons_succ, i64_w, i32_w]
             rfl
            refine last_ (i := 13) (N := some 37) #[true, true, true, true, true, true, true, true, true, true, true, true, true, true, false] rfl rfl (one_of HT_.out (by kernel_rfl)) (by decide) (fun K hK => ?_)
            refine Kd.N_append_step (Kd.slice 5 (Kd.int .u8)) (w0 := w) w.heap.size (by rfl) (.tmp 24) (.tmp 36) 34 22 (.slice none 0 0) 24 rfl Tryd.underlying34 info22 rfl (by decide) (by omega) u7 x7_1 y103 [.slice A101_0 y103.length c101_0] (fun k_ => (P2_ k_ ∨ w.heap.size ≤ k_)) (fun k_ => ((fun k_ => (P2_ k_ ∨ w.heap.size ≤ k_))) k_ ∧ some k_ ≠ (u7 : Value).ownBlock) rfl rfl ?aP (fun _ hk => hk) ?aF ?aO ?aB ?aS ?aL ?_
            (case aP => exact (Kd.FK_slice_mk (Kd.V_reads' (Kd.V_mono (ok' := (fun k_ => ((fun k_ => (P2_ k_ ∨ w.heap.size ≤ k_))) k_ ∧ some k_ ≠ (u7 : Value).ownBlock)) (HO107.out) (fun k_ hk => ⟨hk.1, hk.2⟩))).2.1 (Kd.V_F (Kd.V_mono (ok' := (fun k_ => ((fun k_ => (P2_ k_ ∨ w.heap.size ≤ k_))) k_ ∧ some k_ ≠ (u7 : Value).ownBlock)) (HO107.out) (fun k_ hk => ⟨hk.1, hk.2⟩)))))
            (case aB => exact (by repeat (first | (with_reducible first | exact HB.out | apply below_alloc | apply pw_below_drewN | apply below_drew1) | exact HB.out)))
            (case aF => exact (fun k_ hk => (.inr (Nat.le_trans (below_size (by repeat (first | (with_reducible first | exact HB.out | apply below_alloc | apply pw_below_drewN | apply below_drew1) | exact HB.out))) hk))))
            (case aO => exact (by (with_reducible repeat (first | apply Kd.N_alloc | apply Kd.N_drewN | apply Kd.N_drew)); exact HO_7.out))
            (case aS => exact (below_size (by repeat (first | (with_reducible first | exact HB.out | apply below_alloc | apply pw_below_drewN | apply below_drew1) | exact HB.out))))
            (case aL => have := LMc14.out; omega)
            intro v109 w17 ho hb hg hat
            rw [← Ny108.out] at ho
            have n0_ := Aside0.mk (Kd.V_afterv (ok := (fun k_ => (P2_ k_ ∨ w.heap.size ≤ k_))) (by (with_reducible repeat (first | apply Kd.V_alloc | apply Kd.V_drewN | apply Kd.V_drew)); exact HO_2.out) hg hat)
            have n1_ := Aside0.mk (Kd.V_afterv (ok := (fun k_ => (P2_ k_ ∨ w.heap.size ≤ k_))) (by (with_reducible repeat (first | apply Kd.V_alloc | apply Kd.V_drewN | apply Kd.V_drew)); exact HL101_0.out) hg hat)
            have n2_ := Aside0.mk (Kd.V_afterv (ok := (fun k_ => (P2_ k_ ∨ w.heap.size ≤ k_))) (by (with_reducible repeat (first | apply Kd.V_alloc | apply Kd.V_drewN | apply Kd.V_drew)); exact HL102_0.out) hg hat)
            have n3_ := Aside0.mk (Kd.V_afterv (ok := (fun k_ => (P2_ k_ ∨ w.heap.size ≤ k_))) (by (with_reducible repeat (first | apply Kd.V_alloc | apply Kd.V_drewN | apply Kd.V_drew)); exact HO107.out) hg hat)
            have n4_ := Aside0.mk (hb)
            have n5_ := Aside0.mk (ho)
            clear HO_2
            clear HL101_0
            clear HL102_0
            clear HO107
            clear HB
            clear HO_7
            have HO_2 := n0_
            have HL101_0 := n1_
            have HL102_0 := n2_
            have HO107 := n3_
            have HB := n4_
            have HO110 := n5_
            clear n0_ n1_ n2_ n3_ n4_ n5_
            clear ho hb hg hat
            refine hK.out _ _ ?_
            clear hK K
            refine norm_ (a' := ?_) ?_ ?_
            rotate_left
            ·show Act.put _ (some 37) _ = _
             simp only [Act.put, List.setIfInBounds_toArray, List.set_cons_zero, List.set_cons_succ, i64_w, i32_w]
             rfl
            refine pure_ (i := 14) (N := some 7) (v := ?_) (a' := ?_) #[true, true, true, true, true, true, true, true, true, true, true, true, true, true, true] rfl rfl (any_of HT_.out (by kernel_rfl)) (fun _ _ _ h => h) (Or.inl ⟨by rfl, ?_⟩) ?_ ?_
            rotate_left
            ·intro w'
             go_simp
             with_reducible rfl
            rotate_left
            ·simp only [Act.put, List.setIfInBounds_toArray, List.set_cons_zero, List.set_cons_succ, i64_w, i32_w]
             rfl
            refine done_ (done_of HT_.out (by kernel_rfl)) ?_
            try go_wp2
            go_roundg k1
            case measure => have := HK1.out; omega
            case rel => exact ⟨(y108), (wrap64 (x8_1 + 1)), (by first | rfl | (simp; done) | (simp [*]; done)), H', ⟨by have := HK1.out; omega⟩, ⟨by (with_reducible repeat (first | apply Kd.V_alloc | apply Kd.V_drewN | apply Kd.V_drew)); exact HO_2.out⟩, ⟨by (with_reducible repeat (first | apply Kd.N_alloc | apply Kd.N_drewN | apply Kd.N_drew)); exact HO110.out⟩, ⟨by repeat (first | (with_reducible first | exact HB.out | apply below_alloc | apply pw_below_drewN | apply below_drew1) | exact HB.out)⟩⟩
           ·rw [if_neg c14] at H
            exact absurd H (by simp)
          ·rw [if_neg c13] at H
           exact absurd H (by simp)
         ·rw [if_neg c12] at H
          exact absurd H (by simp)
        ·rw [if_neg c10] at H
         exact absurd H (by simp)
       ·rw [if_neg c9] at H
        have c9b0 : decide (x8_1 < 20) = false := decide_eq_false c9
        clear c9
        have H' := Aside0.mk H
        clear H
        go_wp2
        go_meet
        case rel => exact ⟨_, (x7_1), H', ⟨by have := HK1.out; first | omega | exact Nat.le_refl _⟩, ⟨by (with_reducible repeat (first | apply Kd.N_alloc | apply Kd.N_drewN | apply Kd.N_drew)); exact HO_7.out⟩, ⟨by repeat (first | (with_reducible first | exact HB.out | apply below_alloc | apply pw_below_drewN | apply below_drew1) | exact HB.out)⟩⟩
      ·rw [if_neg c8] at H
       have c8b0 : decide (x8_1 < (l2.length : Int)) = false := decide_eq_false c8
       clear c8
       (first | rw [c8b0] | (simp only [i64_w, i32_w]; rw [c8b0]) | skip)
       have H' := Aside0.mk H
       clear H
       go_wp2
       go_meet
       case rel => exact ⟨_, (x7_1), H', ⟨by have := HK1.out; first | omega | exact Nat.le_refl _⟩, ⟨by (with_reducible repeat (first | apply Kd.N_alloc | apply Kd.N_drewN | apply Kd.N_drew)); exact HO_7.out⟩, ⟨by repeat (first | (with_reducible first | exact HB.out | apply below_alloc | apply pw_below_drewN | apply below_drew1) | exact HB.out)⟩⟩
   case rest =>
    clear HC7
    try clear c1
    try clear p1
    try clear q1
    try clear hx1
    try clear c2
    try clear p2
    try clear c4
    try clear c5
    try clear c5b0
    try clear c5b1
    try clear c6
    try clear c6b0
    try clear c6b1
    try clear p6
    try clear c8
    try clear c8b0
    try clear c9
    try clear c9b0
    try clear c10
    try clear c10b0
    try clear p10
    try clear q10
    try clear hx10
    try clear c12
    try clear c12b0
    try clear c12b1
    try clear c13
    try clear c13b0
    try clear c13b1
    try clear c14
    try clear q16
    try clear hx101_0
    try clear hx102_0
    try clear p101
    try clear p102
    try clear p2
    try clear q101
    try clear q102
    try clear q16
    obtain ⟨kq, x7_6, HA, HJ6, HO_7, HB⟩ := hcut
    cases kq with
    | zero => exact absurd HA.out (by simp [scarflaw18_MarkLabels.j1])
    | succ kj6 =>
     have H := HA.out
     clear HA
     simp only [scarflaw18_MarkLabels.j1] at H
     replace H := Option.bind_eq_some_iff.mp H
     obtain ⟨t111, A180, H⟩ := H
     replace H : (if t111 = true then ((mark_Label.f (a0.extract 0 ((ji4) : Int).toNat)).bind fun t112 => ((scarfref18_Labelled.f kj6 (a0.extract 0 ((ji4) : Int).toNat)).bind fun t113 => (if t112.toList = t113.toList then ((mark_Length.f kj6 a1 x7_6).bind fun t114 => ((scarfref18_Length.f kj6 a1 x7_6).bind fun t115 => (if t114 = t115 then (some true) else (some false)))) else (some false)))) else (some false)) = some true := H
     have A18 := Aside0.mk A180
     clear A180
     by_cases c19 : t111 = true
     ·subst c19
      have H1 : ((mark_Label.f (a0.extract 0 ((ji4) : Int).toNat)).bind fun t112 => ((scarfref18_Labelled.f kj6 (a0.extract 0 ((ji4) : Int).toNat)).bind fun t113 => (if t112.toList = t113.toList then ((mark_Length.f kj6 a1 x7_6).bind fun t114 => ((scarfref18_Length.f kj6 a1 x7_6).bind fun t115 => (if t114 = t115 then (some true) else (some false)))) else (some false)))) = some true := by first | with_reducible rfl | (rw [if_pos rfl] at H; exact H)
      clear H
      have H := H1
      clear H1
      replace H := Option.bind_eq_some_iff.mp H
      obtain ⟨t112, A200, H⟩ := H
      replace H : ((scarfref18_Labelled.f kj6 (a0.extract 0 ((ji4) : Int).toNat)).bind fun t113 => (if t112.toList = t113.toList then ((mark_Length.f kj6 a1 x7_6).bind fun t114 => ((scarfref18_Length.f kj6 a1 x7_6).bind fun t115 => (if t114 = t115 then (some true) else (some false)))) else (some false))) = some true := H
      have A20 := Aside0.mk A200
      clear A200
      replace H := Option.bind_eq_some_iff.mp H
      obtain ⟨t113, A210, H⟩ := H
      replace H : (if t112.toList = t113.toList then ((mark_Length.f kj6 a1 x7_6).bind fun t114 => ((scarfref18_Length.f kj6 a1 x7_6).bind fun t115 => (if t114 = t115 then (some true) else (some false)))) else (some false)) = some true := H
      have A21 := Aside0.mk A210
      clear A210
      by_cases c22 : t112.toList = t113.toList
      ·rw [if_pos c22] at H
       have c22b0 : (t112.toList == t113.toList) = true := beq_iff_eq.mpr c22
       have c22b1 : (t112.toList != t113.toList) = false := bne_eq_false_iff_eq.mpr c22
       clear c22
       replace H := Option.bind_eq_some_iff.mp H
       obtain ⟨t114, A230, H⟩ := H
       replace H : ((scarfref18_Length.f kj6 a1 x7_6).bind fun t115 => (if t114 = t115 then (some true) else (some false))) = some true := H
       have A23 := Aside0.mk A230
       clear A230
       replace H := Option.bind_eq_some_iff.mp H
       obtain ⟨t115, A240, H⟩ := H
       replace H : (if t114 = t115 then (some true) else (some false)) = some true := H
       have A24 := Aside0.mk A240
       clear A240
       by_cases c25 : t114 = t115
       ·rw [if_pos c25] at H
        have c25b0 : (t114 == t115) = true := beq_iff_eq.mpr c25
        have c25b1 : (t114 != t115) = false := bne_eq_false_iff_eq.mpr c25
        clear c25
        go_wp2_with (first | ((with_reducible refine gate_callee (f := 11) rfl ?_); refine goesL_ (some 38) rfl rfl Tryd.func11 (by kernel_rfl) rfl #[] rfl (by (try simp only [List.map_toArray, List.map_cons, List.map_nil]); first | done | rfl | (simp only [List.length_drop, List.length_take]; rfl)) ?_; (with_reducible refine (scarflaw18_known.calls  true _ A18.out).mono ?_); rintro e w26 ⟨rfl, hb⟩; refine ⟨_, rfl, ?_⟩; have n0_ := Aside0.mk (Kd.N_below (by (with_reducible repeat (first | apply Kd.N_alloc | apply Kd.N_drewN | apply Kd.N_drew)); exact HO_7.out) hb); have n1_ := Aside0.mk (below_step (by repeat (first | (with_reducible first | exact HB.out | apply below_alloc | apply pw_below_drewN | apply below_drew1) | exact HB.out)) hb); clear HO_7; clear HB; have HO_7 := n0_; have HB := n1_; clear n0_ n1_; (try clear hb); (try clear hb2); (try clear hk); (try clear hi)) | (go_at_call 14; (with_reducible refine (mark_Label.calls (a0.extract 0 ((ji4) : Int).toNat) t112 _ A20.out).mono ?_); rintro e w27 ⟨rfl, hb⟩; have n0_ := Aside0.mk (Kd.N_below (by (with_reducible repeat (first | apply Kd.N_alloc | apply Kd.N_drewN | apply Kd.N_drew)); exact HO_7.out) hb); have n1_ := Aside0.mk (below_step (by repeat (first | (with_reducible first | exact HB.out | apply below_alloc | apply pw_below_drewN | apply below_drew1) | exact HB.out)) hb); clear HO_7; clear HB; have HO_7 := n0_; have HB := n1_; clear n0_ n1_; (try clear hb); (try clear hb2); (try clear hk); (try clear hi)) | (go_at_call 15; (with_reducible refine (scarfref18_Labelled.calls kj6 (a0.extract 0 ((ji4) : Int).toNat) t113 _ A21.out).mono ?_); rintro e w28 ⟨rfl, hb⟩; have n0_ := Aside0.mk (Kd.N_below (by (with_reducible repeat (first | apply Kd.N_alloc | apply Kd.N_drewN | apply Kd.N_drew)); exact HO_7.out) hb); have n1_ := Aside0.mk (below_step (by repeat (first | (with_reducible first | exact HB.out | apply below_alloc | apply pw_below_drewN | apply below_drew1) | exact HB.out)) hb); clear HO_7; clear HB; have HO_7 := n0_; have HB := n1_; clear n0_ n1_; (try clear hb); (try clear hb2); (try clear hk); (try clear hi); obtain ⟨Ao29, co29, eo29⟩ := Kd.N_slice HO_7.out; subst eo29) | (go_at_call 16; (with_reducible refine (mark_Length.calls kj6 a1 _ _ x7_6 t114 _ ?side1 ?side2 A23.out).mono ?_); (case side1 => repeat (first | exact (Kd.N_reads' HO_7.out).2.2 | exact (Kd.V_reads' HO_7.out).2.2 | (with_reducible refine Kd.C_alloc ?_ _) | (with_reducible refine Kd.C_drewN ?_ _) | (with_reducible refine Kd.C_drew ?_))); (case side2 => first | exact (Kd.N_reads' HO_7.out).2.1 | exact (Kd.V_reads' HO_7.out).2.1); rintro e w30 ⟨rfl, hb⟩; have n0_ := Aside0.mk (Kd.N_below (by (with_reducible repeat (first | apply Kd.N_alloc | apply Kd.N_drewN | apply Kd.N_drew)); exact HO_7.out) hb); have n1_ := Aside0.mk (below_step (by repeat (first | (with_reducible first | exact HB.out | apply below_alloc | apply pw_below_drewN | apply below_drew1) | exact HB.out)) hb); clear HO_7; clear HB; have HO_7 := n0_; have HB := n1_; clear n0_ n1_; (try clear hb); (try clear hb2); (try clear hk); (try clear hi)) | (go_at_call 17; (with_reducible refine (scarfref18_Length.calls kj6 a1 _ _ x7_6 t115 _ ?side1 ?side2 A24.out).mono ?_); (case side1 => repeat (first | exact (Kd.N_reads' HO_7.out).2.2 | exact (Kd.V_reads' HO_7.out).2.2 | (with_reducible refine Kd.C_alloc ?_ _) | (with_reducible refine Kd.C_drewN ?_ _) | (with_reducible refine Kd.C_drew ?_))); (case side2 => first | exact (Kd.N_reads' HO_7.out).2.1 | exact (Kd.V_reads' HO_7.out).2.1); rintro e w31 ⟨rfl, hb⟩; have n0_ := Aside0.mk (Kd.N_below (by (with_reducible repeat (first | apply Kd.N_alloc | apply Kd.N_drewN | apply Kd.N_drew)); exact HO_7.out) hb); have n1_ := Aside0.mk (below_step (by repeat (first | (with_reducible first | exact HB.out | apply below_alloc | apply pw_below_drewN | apply below_drew1) | exact HB.out)) hb); clear HO_7; clear HB; have HO_7 := n0_; have HB := n1_; clear n0_ n1_; (try clear hb); (try clear hb2); (try clear hk); (try clear hi)))
        go_ret
        exact ⟨by first | rfl | (simp [errW_none, errW_some] <;> rfl) | (simp only [← hji4]; first | rfl | (simp [errW_none, errW_some] <;> rfl)) | (simp [*, errW_none, errW_some] <;> rfl), by repeat (first | (with_reducible first | exact HB.out | apply below_alloc | apply pw_below_drewN | apply below_drew1) | exact HB.out)⟩
       ·rw [if_neg c25] at H
        have c25b0 : (t114 == t115) = false := beq_eq_false_iff_ne.mpr c25
        have c25b1 : (t114 != t115) = true := bne_iff_ne.mpr c25
        exact absurd H (by simp)
      ·rw [if_neg c22] at H
       have c22b0 : (t112.toList == t113.toList) = false := beq_eq_false_iff_ne.mpr c22
       have c22b1 : (t112.toList != t113.toList) = true := bne_iff_ne.mpr c22
       exact absurd H (by simp)
     ·replace c19 := Bool.eq_false_iff.mpr c19
      subst c19
      have H1 : (some false) = some true := by first | with_reducible rfl | (rw [if_neg (show ¬ (false = true) by decide)] at H; exact H)
      clear H
      have H := H1
      clear H1
      exact absurd H (by simp)
  ·rw [if_neg c6] at H
   exact absurd H (by simp)
 ·rw [if_neg c5] at H
  exact absurd H (by simp)

end Go.Proofs.YtnnnbeimehfiiaaDoor.L

/-! MarkLabels' plain law: it answers true. -/
set_option linter.unusedVariables false
set_option linter.unusedSimpArgs false
namespace Go.Proofs.YtnnnbeimehfiiaaDoor.Q
open Go Go.RowKit Go.Proofs.YtnnnbeimehfiiaaDoorW.PrintWords Go.Proofs.YtnnnbeimehfiiaaDoorW.PrintLast Go.Proofs.YtnnnbeimehfiiaaDoorW.PrintMore
theorem mn_take (a : List Int) : a.take ((mn (a.length : Int) 3000) : Int).toNat = a.take 3000 := by
  unfold mn
  split
  · rfl
  · rw [List.take_of_length_le (by simp), List.take_of_length_le (by omega)]
theorem labels_end (s : ByteArray) (hs : s.size ≤ 100000) (a : Int) (m : List (List Int)) (hm : m.length ≤ 5000000000) (hr : ∀ l ∈ m, okRow l) : Ev (fun k => L.scarflaw18_MarkLabels.j1 k s a m) true := by
  have h1 := labelled_ev s hs
  have h2 := length_ev a m hm hr
  have h3 := rlength_ev a m hm hr
  refine Ev.step (Ev.congr (Ev.bind h1 (f := fun k t162 => if (labB s).toList = t162.toList then ((mark_Length.f k a m).bind fun t163 => ((scarfref18_Length.f k a m).bind fun t164 => (if t163 = t164 then (some true) else (some false)))) else (some false)) ?_) fun k => ?_)
  · refine Ev.congr (Ev.bind h2 (f := fun k t163 => ((scarfref18_Length.f k a m).bind fun t164 => (if t163 = t164 then (some true) else (some false)))) (Ev.congr (Ev.bind h3 (f := fun k t164 => (if _ = t164 then (some true) else (some false))) (Ev.of fun k => if_pos rfl)) fun k => rfl)) fun k => ?_
    rw [if_pos rfl]
  · rw [L.scarflaw18_MarkLabels.j1]
    have e1 : L.scarflaw18_known.f = some true := rfl
    have e2 : L.mark_Label.f s = some (labB s) := if_pos (by omega)
    rw [e1, e2]
    rfl
theorem labels_loop (s : ByteArray) (hs : s.size ≤ 100000) (a : Int) (l : List (List Int)) (hr : ∀ r ∈ l, ∀ x ∈ r, byte x) : ∀ (q i : Nat), min 20 l.length - i = q → i ≤ min 20 l.length →
    Ev (fun k => L.scarflaw18_MarkLabels.l0 k s a l ((l.take i).map (·.take 3000)) (i : Int)) true
  | 0, i, hq, hi => by
    have hlen : ((l.take i).map (·.take 3000)).length ≤ 5000000000 := by simp; omega
    have hok : ∀ r ∈ (l.take i).map (·.take 3000), okRow r := fun r hr2 => by
      obtain ⟨y, hy, rfl⟩ := List.mem_map.1 hr2
      exact ⟨by simp; omega, fun x hx => hr y (List.mem_of_mem_take hy) x (List.mem_of_mem_take hx)⟩
    have h := labels_end s hs a _ hlen hok
    refine Ev.step (Ev.congr h fun k => ?_)
    rw [L.scarflaw18_MarkLabels.l0]
    by_cases h1 : (i : Int) < (l.length : Int)
    · rw [if_pos h1, if_neg (by omega)]
    · rw [if_neg h1]
  | q + 1, i, hq, hi => by
    have hlt : i < l.length := by omega
    have ih := labels_loop s hs a l hr q (i + 1) (by omega) (by omega)
    have e : (l.take (i + 1)).map (·.take 3000) = (l.take i).map (·.take 3000) ++ [l[i].take 3000] := by
      rw [List.take_add_one, List.getElem?_eq_getElem hlt, List.map_append]; rfl
    rw [e] at ih
    refine Ev.step (Ev.congr ih fun k => ?_)
    have hmn : 0 ≤ mn ((l[i]).length : Int) 3000 ∧ mn ((l[i]).length : Int) 3000 ≤ ((l[i]).length : Int) := by unfold mn; split <;> omega
    rw [L.scarflaw18_MarkLabels.l0, if_pos (by omega), if_pos (by omega), if_pos (by omega)]
    have hrd : L.rd_L1 l (i : Int) = l[i] := rdL_get hlt
    rw [hrd, if_pos hmn.1, if_pos hmn.2, if_pos (by simp; omega), w64n (by omega), mn_take]
theorem labels_law (s : ByteArray) (a : Int) (l : List (List Int)) (hr : ∀ r ∈ l, ∀ x ∈ r, byte x) : Ev (fun k => L.scarflaw18_MarkLabels.f k s a l) true := by
  have hmn : 0 ≤ mn (s.size : Int) 3000 ∧ mn (s.size : Int) 3000 ≤ (s.size : Int) ∧ mn (s.size : Int) 3000 ≤ 3000 := by unfold mn; split <;> omega
  have h := labels_loop (s.extract 0 ((mn (s.size : Int) 3000) : Int).toNat) (by simp; omega) a l hr _ 0 rfl (Nat.zero_le _)
  refine Ev.congr h fun k => ?_
  unfold L.scarflaw18_MarkLabels.f
  rw [if_pos hmn.1, if_pos hmn.2.1]
  rfl
end Go.Proofs.YtnnnbeimehfiiaaDoor.Q

/-! Arguments as they are handed in: strings, numbers, bytes, rows of bytes. -/
set_option linter.unusedVariables false
set_option linter.unusedSimpArgs false
namespace Go.Proofs.YtnnnbeimehfiiaaDoor.Q
open Go Go.RowKit Go.Proofs.YtnnnbeimehfiiaaDoorW.PrintWords
theorem list_of {α : Type} {P : Nat → α → Prop} (n : Nat) (h : ∀ i, i < n → ∃ x, P i x) : ∃ l : List α, l.length = n ∧ ∀ i x, l[i]? = some x → P i x := by
  refine ⟨List.ofFn fun i : Fin n => Classical.choose (h i.1 i.2), by simp, fun i x hx => ?_⟩
  rw [List.getElem?_ofFn] at hx
  split at hx
  · rename_i hi
    injection hx with hx
    rw [← hx]
    exact Classical.choose_spec (h i hi)
  · cases hx
theorem cells5 : Tryd.prog.cellsOf 5 = 1 := by kernel_rfl
theorem cells22 : Tryd.prog.cellsOf 22 = 1 := by kernel_rfl
theorem wf_in {n : Int} (h : (Lit.int .i64 n).wf = true) : -9223372036854775808 ≤ n ∧ n ≤ 9223372036854775807 := by
  have h1 : (decide (IntKind.i64.min ≤ n) && decide (n ≤ IntKind.i64.max)) = true := h
  rw [Bool.and_eq_true, decide_eq_true_eq, decide_eq_true_eq] at h1
  have e1 : IntKind.i64.min = -9223372036854775808 := by decide
  have e2 : IntKind.i64.max = 9223372036854775807 := by decide
  rw [e1, e2] at h1
  exact h1
theorem wf_b {n : Int} (h : (Lit.int .u8 n).wf = true) : byte n := by
  have h1 : (decide (IntKind.u8.min ≤ n) && decide (n ≤ IntKind.u8.max)) = true := h
  rw [Bool.and_eq_true, decide_eq_true_eq, decide_eq_true_eq] at h1
  have e1 : IntKind.u8.min = 0 := by decide
  have e2 : IntKind.u8.max = 255 := by decide
  rw [e1, e2] at h1
  unfold byte; omega
/-- A slice whose elements read in some kind. -/
theorem slice_read {α : Type} {d : Kd α} {H : Type} {enc : TypeId × Value → H} {W : World} {sp : Nat → Bool} {hd : Bool} {t e : TypeId} {Q : α → Prop} (ht : Tryd.prog.underlying t = some (.slice e)) (hce : Tryd.prog.cellsOf e = d.sz) {fuel : Nat} {cs : List Value} {x : DataW H × List MemPlace}
    (h : DataW.trod enc Tryd.prog W 0 sp hd fuel t cs = some x) (hel : ∀ m c y, DataW.trod enc Tryd.prog W 0 sp hd m e c = some y → ∃ s : α, d.K W s c ∧ Q s) :
    ∃ (l : List α) (A : Option Addr) (c : Nat), cs = [.slice A l.length c] ∧ l.length ≤ c ∧ Kd.C d W A l.length l ∧ ∀ s ∈ l, Q s := by
  rcases DataW.trod_slice ht h with ⟨e3, _⟩ | ⟨a, len, cap, elems, rest, m, hm, e3, _, hba, hlc, hcm, hel2, hget, _, _⟩
  · exact ⟨[], none, 0, e3, Nat.le_refl _, Kd.C_nil d W, by simp⟩
  · have hex : ∀ i, i < len → ∃ s : α, ∃ c, W.cells? 0 (a.add (i * d.sz)) d.sz = some c ∧ d.K W s c ∧ Q s := by
      intro i hi
      have hg := hget i hi
      rw [hce, List.getElem?_eq_getElem (by omega), Option.bind_eq_some_iff] at hg
      obtain ⟨c, hc, ht⟩ := hg
      obtain ⟨s, hs, hp⟩ := hel m c _ ht
      exact ⟨s, c, hc, hs, hp⟩
    obtain ⟨l, hll, hl⟩ := list_of len hex
    subst hll
    refine ⟨l, some a, cap, e3, hlc, ⟨rfl, by unfold maxLen at hcm; omega, fun _ => ⟨a, rfl, fun j p hj => ?_⟩⟩, fun s hs => ?_⟩
    · obtain ⟨c, hc, hk, _⟩ := hl j p hj
      obtain ⟨_, hcl, hcell⟩ := World.cells?_some hc
      refine ⟨c, hcl, hk, fun i u hu => ?_⟩
      have hi : i < d.sz := by have := (List.getElem?_eq_some_iff.1 hu).1; omega
      have hq := hcell i hi
      rw [add_add] at hq
      exact hq.trans hu
    · obtain ⟨j, hj⟩ := List.getElem?_of_mem hs
      obtain ⟨_, _, _, hp⟩ := hl j s hj
      exact hp
theorem u8_read {H : Type} {enc : TypeId × Value → H} {W : World} {sp : Nat → Bool} {hd : Bool} (m : Nat) (c : List Value) (y : DataW H × List MemPlace) (h : DataW.trod enc Tryd.prog W 0 sp hd m 5 c = some y) : ∃ s : Int, B8.K W s c ∧ byte s := by
  obtain ⟨n, rfl, _, hw⟩ := DataW.trod_int Tryd.underlying5 h
  exact ⟨n, rfl, wf_b hw⟩
theorem bs_read {H : Type} {enc : TypeId × Value → H} {W : World} {sp : Nat → Bool} {hd : Bool} (m : Nat) (c : List Value) (y : DataW H × List MemPlace) (h : DataW.trod enc Tryd.prog W 0 sp hd m 22 c = some y) : ∃ s : List Int, kB.K W s c ∧ ∀ x ∈ s, byte x := by
  obtain ⟨l, A, cp, rfl, h1, h2, h3⟩ := slice_read (d := B8) (Q := byte) Tryd.underlying22 cells5 h u8_read
  exact ⟨l, ⟨A, cp, rfl, h1, h2⟩, h3⟩
set_option maxRecDepth 100000
section
variable {H : Type} {enc : TypeId × Value → H} {W : World} {sp : Nat → Bool} {hd : Bool} {r : Reach} {b0 : Nat} {v : Value} {d : DataW H} {ps : List MemPlace}
theorem arg9 (hv : Value.okWide Tryd.prog W r b0 9 v) (h : DataW.Trod enc Tryd.prog W 0 sp hd 9 v d ps) : ∃ s : ByteArray, v = .string s ∧ s.size ≤ maxLen := by
  obtain ⟨s, rfl⟩ := WideShapes.okWide_string Tryd.underlying9 hv
  obtain ⟨fuel, hf⟩ := h
  obtain ⟨s', h, _, hs⟩ := DataW.trod_string Tryd.underlying9 hf
  simp [Value.cells] at h
  subst h
  exact ⟨s, rfl, hs⟩
theorem arg3 (hv : Value.okWide Tryd.prog W r b0 3 v) (h : DataW.Trod enc Tryd.prog W 0 sp hd 3 v d ps) : ∃ n : Int, v = .int .i64 n ∧ -9223372036854775808 ≤ n ∧ n ≤ 9223372036854775807 := by
  obtain ⟨n, rfl⟩ := WideShapes.okWide_int Tryd.underlying3 hv
  obtain ⟨fuel, hf⟩ := h
  obtain ⟨n', h, _, hw⟩ := DataW.trod_int Tryd.underlying3 hf
  simp [Value.cells] at h
  subst h
  exact ⟨n, rfl, wf_in hw⟩
theorem arg22 (hv : Value.okWide Tryd.prog W r b0 22 v) (h : DataW.Trod enc Tryd.prog W 0 sp hd 22 v d ps) : ∃ (x : List Int) (A : Option Addr) (c : Nat), v = .slice A x.length c ∧ x.length ≤ c ∧ Kd.C B8 W A x.length x ∧ ∀ y ∈ x, byte y := by
  obtain ⟨a, l, c, rfl⟩ := WideShapes.okWide_slice Tryd.underlying22 hv
  obtain ⟨fuel, hf⟩ := h
  obtain ⟨x, A, c', e, h1, h2, h3⟩ := slice_read (d := B8) (Q := byte) Tryd.underlying22 cells5 hf u8_read
  simp [Value.cells] at e
  obtain ⟨rfl, rfl, rfl⟩ := e
  exact ⟨x, _, _, rfl, h1, h2, h3⟩
theorem arg34 (hv : Value.okWide Tryd.prog W r b0 34 v) (h : DataW.Trod enc Tryd.prog W 0 sp hd 34 v d ps) : ∃ (x : List (List Int)) (A : Option Addr) (c : Nat), v = .slice A x.length c ∧ x.length ≤ c ∧ Kd.C kB W A x.length x ∧ ∀ r ∈ x, ∀ y ∈ r, byte y := by
  obtain ⟨a, l, c, rfl⟩ := WideShapes.okWide_slice Tryd.underlying34 hv
  obtain ⟨fuel, hf⟩ := h
  obtain ⟨x, A, c', e, h1, h2, h3⟩ := slice_read (d := kB) (Q := fun r => ∀ y ∈ r, byte y) Tryd.underlying34 cells22 hf bs_read
  simp [Value.cells] at e
  obtain ⟨rfl, rfl, rfl⟩ := e
  exact ⟨x, _, _, rfl, h1, h2, h3⟩
end
end Go.Proofs.YtnnnbeimehfiiaaDoor.Q
