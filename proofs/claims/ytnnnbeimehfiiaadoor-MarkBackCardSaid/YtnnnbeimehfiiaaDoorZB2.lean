/- The texts of this claim that lie below its row, in their order: KMovW MShelf KLabel KPg KPgM KWr0 Qx4 KEv Qx5 KWs KPk. -/
import Derived.Shelf.Strings.Trim
import Derived.Shelf.Strings.Repeat
import Derived.Shelf.Bytes.WriteAt
import Derived.Shelf.Bytes.WriteByteAt
import Derived.Shelf.Bytes.WriteStringAt
import Derived.Shelf.Bytes.LenAt
import Derived.Shelf.Bytes.Bytes
import Derived.Test.YtnnnbeimehfiiaaDoorProg
import Derived.Lib.ConvBytes
import Derived.Laws.BytesArg
import Derived.Test.YtnnnbeimehfiiaaDoorZB1
/-! Rows that a call gathers: bytes, the program's parts. -/
set_option linter.unusedVariables false
set_option linter.unusedSimpArgs false
namespace Go.Proofs.YtnnnbeimehfiiaaDoor.Q
open Go Go.RowKit Go.Proofs.YtnnnbeimehfiiaaDoorW.PrintWords Go.Proofs.YtnnnbeimehfiiaaDoorW.SL
theorem own_base' {w : World} {base e size n k : Nat} {v : Value} {xs : List Value} (h : w.ownsRow base e size v n xs) (hk : v.ownBlock = some k) : base ≤ k := (h.lt k hk).1
/-- Bytes being gathered, in blocks from B on. -/
def Rw (B : Nat) (W : World) (v : Value) (l : List Int) : Prop := W.ownsRow B 5 1 v l.length (us8 l)
theorem Rw.below {B : Nat} {W W' : World} {v : Value} {l : List Int} (h : Rw B W v l) (hb : Below W.heap.size W W') : Rw B W' v l := own_move h (fun k hk => hb.block k (own_lt h k hk))
theorem Rw.new {B : Nat} {W : World} (hB : B ≤ W.heap.size) : Rw B (W.alloc (.cells #[] 5)) (.slice (some ⟨W.heap.size, 0, none⟩) 0 0) [] := World.ownsRow_made W #[] 0 hB (Nat.zero_le _) rfl
theorem Rw.form {B : Nat} {W : World} {v : Value} {l : List Int} (h : Rw B W v l) : ∃ A c, v = .slice A l.length c ∧ l.length ≤ c := own_form h
theorem Rw.out {B : Nat} {W : World} {v : Value} {l : List Int} (h : Rw B W v l) : ∃ A c, v = .slice A l.length c ∧ l.length ≤ c ∧ Kd.C B8 W A l.length l := by
  obtain ⟨A, c, e, h1, h2⟩ := ownF_F (w := W) (Z := fun _ => True) (v := v) (xs := l) ⟨fun _ _ => trivial, own_weaken h (Nat.zero_le _)⟩
  exact ⟨A, c, e, h1, Kd.F_now h2⟩
theorem app_none {P : Program} {w : World} (base : Nat) (t ty e : TypeId) (i : TypeInfo) (size c : Nat) (ht : P.underlying t = some (.slice e)) (hi : P.info? e = some i)
    (v : Value) (n : Nat) (xs : List Value) (hown : w.ownsRow base e size v n xs) :
    (Builtin.append_ #[t, t] ty #[v, .slice none 0 c]).run P w = .ok v w := by
  rcases hown.2 with ⟨rfl, rfl⟩ | ⟨g, cap, cur, rfl, _, _, hnc, _⟩
  · simp [Builtin.append_, run_underlying ht, sizeOf, typeInfo, hi, Builtin.lenOf, Builtin.firstCells]
  · simp [Builtin.append_, run_underlying ht, sizeOf, typeInfo, hi, Builtin.lenOf, Builtin.firstCells, hnc, storeCells]
theorem ys_none {W : World} {ys : List Int} (h : Kd.C B8 W none ys.length ys) : ys = [] := by
  cases ys with
  | nil => rfl
  | cons y r => obtain ⟨a, ha, _⟩ := h.2.2 (by simp); cases ha
/-- What an append does to the row and to the heap: the new world keeps what is no row of the same type's own. -/
structure Grew (B : Nat) (W W' : World) (v : Value) : Prop where
  below : ∀ w0 : World, Below B w0 W → B ≤ W.heap.size → Below B w0 W' ∧ B ≤ W'.heap.size
  keep : ∀ k, k < W.heap.size → v.ownBlock ≠ some k → W'.heap[k]? = W.heap[k]?
theorem Grew.refl (B : Nat) (W : World) (v : Value) : Grew B W W v := ⟨fun w0 h hB => ⟨h, hB⟩, fun _ _ _ => rfl⟩
theorem Grew.of {B : Nat} {W W' : World} {v : Value} (hg : W.grownBy W' v.ownBlock) (hr : ∀ k, v.ownBlock = some k → B ≤ k) : Grew B W W' v :=
  ⟨fun w0 h hB => ⟨h.grown hg hB hr, Nat.le_trans hB hg.size⟩, fun k hk hn => hg.block k hk (fun e => hn e.symm)⟩
section
variable {P : Program} {ops : Array Oper} {o : Oper} {a : Act} {Q : Exit → Act → World → Prop} {K : Act → World → Prop} {W : World} {B : Nat}
/-- append(s, x...), bytes. -/
theorem rw_app (hw : Region.wanted o (yielded ops a.tmps) = true) (s x : Operand)
    (ho : o.op = .call { callee := .builtin .append, args := #[s, x], argTypes := #[22, 22] })
    (ht : P.underlying 22 = some (.slice 5)) (hinfo : (P.info? 5).map (fun i => (i.zero, i.size, i.bytes)) = some (some (.int .u8 0), 1, 1))
    {v : Value} {l ys : List Int} {A : Option Addr} {c : Nat} (hs : a.eval s = v) (hx : a.eval x = .slice A ys.length c)
    (HO : Rw B W v l) (HX : Kd.C B8 W A ys.length ys) (hB : B ≤ W.heap.size) (hl : l.length + ys.length ≤ 140737488355328)
    (h : ∀ v1 w1, Rw B w1 v1 (l ++ ys) → Grew B W w1 v → K (a.put o.dst v1) w1) :
    if Region.wanted o (yielded ops a.tmps) = true then Oper.wp P o a W K Q else K (a.put o.dst undef) W := by
  obtain ⟨i0, hi, hzz⟩ := Option.map_eq_some_iff.1 hinfo
  simp only [Prod.mk.injEq] at hzz
  obtain ⟨hz0, hz1, hz2⟩ := hzz
  rw [if_pos hw]
  cases A with
  | none =>
    obtain rfl := ys_none HX
    have hr := app_none (P := P) (w := W) B 22 o.type 5 i0 1 c ht hi v l.length (us8 l) HO
    unfold Oper.wp execOp
    simp only [List.length_nil] at hx
    simp only [ho, resolve, invoke, builtin, Sem.run_bind, Sem.run_pure, Result.andThen_ok, List.map_toArray, List.map_cons, List.map_nil, hs, hx, hr]
    exact h v W (by rw [List.append_nil]; exact HO) (Grew.refl _ _ _)
  | some ad =>
    obtain ⟨v1, w1, hr, hown, hgr, _, hat⟩ := run_append_own_at (P := P) W B 22 o.type 5 i0 (.int .u8 0) 1 1 ht hi hz0 hz1 hz2 rfl (by decide) v l.length (us8 l) HO ad ys.length c (us8 ys) (by simp)
      (fun j u hj => by
        have hjl : j < ys.length := by have := (List.getElem?_eq_some_iff.1 hj).1; simpa using this
        obtain ⟨ad', he, hc⟩ := Kd.at_int HX (j : Int) (by omega) (by omega)
        injection he with he
        subst he
        simp only [Int.toNat_natCast] at hc
        rw [hc, ← hj, rd_get hjl]
        simp [us8, List.getElem?_eq_getElem hjl]) (fun u hu => by obtain ⟨q, _, rfl⟩ := List.mem_map.1 hu; rfl) (by simp only [maxLen]; omega) (by omega) hB
    unfold Oper.wp execOp
    simp only [ho, resolve, invoke, builtin, Sem.run_bind, Sem.run_pure, Result.andThen_ok, List.map_toArray, List.map_cons, List.map_nil, hs, hx, hr]
    refine h v1 w1 ?_ (Grew.of hgr (fun k hk => own_base' HO hk))
    unfold Rw
    rw [List.length_append, show us8 (l ++ ys) = us8 l ++ us8 ys from List.map_append]
    exact hown
/-- append(s, c): one byte, its literal's row just made. -/
theorem rw_one (hw : Region.wanted o (yielded ops a.tmps) = true) (s x : Operand)
    (ho : o.op = .call { callee := .builtin .append, args := #[s, x], argTypes := #[22, 22] })
    (ht : P.underlying 22 = some (.slice 5)) (hinfo : (P.info? 5).map (fun i => (i.zero, i.size, i.bytes)) = some (some (.int .u8 0), 1, 1))
    {v : Value} {l : List Int} {y : Int} {g : Nat} {cs : Array Value} (hg : W.heap[g]? = some (.cells cs 5 (0, 0))) (hcs : cs = #[.int .u8 y]) (hs : a.eval s = v) (hx : a.eval x = .slice (some ⟨g, 0, none⟩) 1 1)
    (HO : Rw B W v l) (hB : B ≤ W.heap.size) (hl : l.length + 1 ≤ 140737488355328)
    (h : ∀ v1 w1, Rw B w1 v1 (l ++ [y]) → Grew B W w1 v → K (a.put o.dst v1) w1) :
    if Region.wanted o (yielded ops a.tmps) = true then Oper.wp P o a W K Q else K (a.put o.dst undef) W := by
  subst hcs
  refine rw_app hw s x ho ht hinfo (ys := [y]) (A := some ⟨g, 0, none⟩) (c := 1) hs hx HO ?_ hB (by simpa using hl) h
  refine ⟨rfl, by simp, fun _ => ⟨_, rfl, fun j p hj => ?_⟩⟩
  cases j with
  | zero =>
    simp only [List.getElem?_cons_zero, Option.some.injEq] at hj
    subst hj
    refine ⟨_, by rfl, rfl, fun i u hi => ?_⟩
    cases i with
    | zero => rw [base_add, blk_cell hg]; simpa using hi
    | succ i => simp at hi
  | succ j => simp at hj
end
/-- Parts being gathered; what they lead to is kept in blocks that Z tells. -/
def Rp (B : Nat) (Z : Nat → Prop) (W : World) (v : Value) (ps : List Pt) : Prop := ∃ cells, W.ownsRow B 50 5 v ps.length cells ∧ (kpF ps cells).P W Z
theorem Rp.new {B : Nat} {Z : Nat → Prop} {W : World} (hB : B ≤ W.heap.size) : Rp B Z (W.alloc (.cells #[] 50)) (.slice (some ⟨W.heap.size, 0, none⟩) 0 0) [] :=
  ⟨[], World.ownsRow_made W #[] 0 hB (Nat.zero_le _) rfl, rfl, fun j p h => by simp at h⟩
theorem Rp.below {B : Nat} {Z : Nat → Prop} {W W' : World} {v : Value} {ps : List Pt} (h : Rp B Z W v ps) (hb : Below W.heap.size W W') : Rp B Z W' v ps := by
  obtain ⟨cells, h1, h2⟩ := h
  exact ⟨cells, own_move h1 (fun k hk => hb.block k (own_lt h1 k hk)), (kpF ps cells).step h2 (fun k _ hl => hb.block k hl) (fun _ h => h)⟩
theorem Rp.form {B : Nat} {Z : Nat → Prop} {W : World} {v : Value} {ps : List Pt} (h : Rp B Z W v ps) : ∃ A c, v = .slice A ps.length c ∧ ps.length ≤ c := by
  obtain ⟨cells, h1, h2⟩ := h
  exact own_form h1
theorem Rp.out {B : Nat} {Z : Nat → Prop} {W : World} {v : Value} {ps : List Pt} (h : Rp B Z W v ps) : ∃ A c, v = .slice A ps.length c ∧ ps.length ≤ c ∧ Kd.C kP W A ps.length ps := by
  obtain ⟨cells, h1, h2⟩ := h
  exact rowP_C (own_weaken h1 (Nat.zero_le _)) h2
section
variable {P : Program} {ops : Array Oper} {o : Oper} {a : Act} {Q : Exit → Act → World → Prop} {K : Act → World → Prop} {W : World} {B : Nat}
end
theorem wpl {P : Program} {ops : Array Oper} {o : Oper} {rest : List Oper} {a : Act} {Q : Exit → Act → World → Prop} {W : World} (hgd : o.guard = none)
    (h : ∀ K : Act → World → Prop, (∀ a' w', wpList P ops Q rest a' w' → K a' w') → (if Region.wanted o (yielded ops a.tmps) = true then Oper.wp P o a W K Q else K (a.put o.dst undef) W)) : wpList P ops Q (o :: rest) a W := by
  refine wpList_plain hgd fun K hK => ?_
  have hw : Region.wanted o (yielded ops a.tmps) = true := by simp [Region.wanted, hgd]
  have := h K hK
  rwa [if_pos hw] at this
end Go.Proofs.YtnnnbeimehfiiaaDoor.Q
/-
  DERIVED: THE SHELF's CONTRACTS AT THIS DUMP, IN PLAIN WORDS (tools/lay-plain.mjs out of 'YtnnnbeimehfiiaaDoorXShelf.lean', which tools/lay-shelf.mjs wrote): THE SAME DECLARATIONS UNDER THE SAME NAMES: 'import', 'namespace', 'open', 'def', 'theorem' AND NOTHING ELSE: no command of the shelf's: FOR A HAND-IN. Each laying: the table of numbers ('.._ren') and one theorem, a field a fact of the dump's own or the kernel's comparison; each contract: ONE APPLICATION.
-/
namespace Go.Proofs
open Go.Shelf
def Tryd.lays162_ren : Go.Shelf.Ren := ⟨fun | 162 => 30 | 232 => 44 | 227 => 45 | 234 => 46 | 236 => 47 | 228 => 60 | 271 => 61 | 151 => 62 | 120 => 74 | 197 => 75 | 152 => 76 | 260 => 84 | 137 => 48 | 119 => 85 | 224 => 86 | 225 => 87 | 217 => 63 | 266 => 77 | n => n, fun | 9 => 9 | 4 => 4 | 3 => 3 | 5 => 5 | 117 => 89 | 116 => 88 | 0 => 0 | 124 => 92 | 21 => 21 | 105 => 107 | 46 => 111 | 119 => 132 | 139 => 135 | 138 => 134 | n => n, fun | 3 => 2 | 4 => 3 | n => n⟩
theorem Tryd.lays162 : Go.Proofs.Lays.n162 Tryd.prog Tryd.lays162_ren := {
  mixed := by kernel_rfl
  f119 := Tryd.func85.trans (congrArg some (by kernel_rfl))
  f120 := Tryd.func74.trans (congrArg some (by kernel_rfl))
  f137 := Tryd.func48.trans (congrArg some (by kernel_rfl))
  f151 := Tryd.func62.trans (congrArg some (by kernel_rfl))
  f152 := Tryd.func76.trans (congrArg some (by kernel_rfl))
  f162 := Tryd.func30.trans (congrArg some (by kernel_rfl))
  f197 := Tryd.func75.trans (congrArg some (by kernel_rfl))
  f217 := Tryd.func63.trans (congrArg some (by kernel_rfl))
  f224 := Tryd.func86.trans (congrArg some (by kernel_rfl))
  f225 := Tryd.func87.trans (congrArg some (by kernel_rfl))
  f227 := Tryd.func45.trans (congrArg some (by kernel_rfl))
  f228 := Tryd.func60.trans (congrArg some (by kernel_rfl))
  f232 := Tryd.func44.trans (congrArg some (by kernel_rfl))
  f234 := Tryd.func46.trans (congrArg some (by kernel_rfl))
  f236 := Tryd.func47.trans (congrArg some (by kernel_rfl))
  f260 := Tryd.func84.trans (congrArg some (by kernel_rfl))
  f266 := Tryd.func77.trans (congrArg some (by kernel_rfl))
  f271 := Tryd.func61.trans (congrArg some (by kernel_rfl))
  t0 := Tryd.underlying0
  a0 := Tryd.isAgg0
  z0 := Tryd.sizeOf0
  v0 := Tryd.zeroValue0
  t3 := Tryd.underlying3
  a3 := Tryd.isAgg3
  z3 := Tryd.sizeOf3
  v3 := Tryd.zeroValue3
  t4 := Tryd.underlying4
  a4 := Tryd.isAgg4
  z4 := Tryd.sizeOf4
  v4 := Tryd.zeroValue4
  t5 := Tryd.underlying5
  a5 := Tryd.isAgg5
  z5 := Tryd.sizeOf5
  v5 := Tryd.zeroValue5
  t9 := Tryd.underlying9
  a9 := Tryd.isAgg9
  z9 := Tryd.sizeOf9
  v9 := Tryd.zeroValue9
  t21 := Tryd.underlying21
  a21 := Tryd.isAgg21
  z21 := Tryd.sizeOf21
  v21 := Tryd.zeroValue21
  t46 := Tryd.underlying111
  a46 := Tryd.isAgg111
  z46 := Tryd.sizeOf111
  v46 := Tryd.zeroValue111
  t105 := Tryd.underlying107
  a105 := Tryd.isAgg107
  z105 := Tryd.sizeOf107
  v105 := Tryd.zeroValue107
  t116 := Tryd.underlying88
  a116 := Tryd.isAgg88
  z116 := Tryd.sizeOf88
  t117 := Tryd.underlying89
  a117 := Tryd.isAgg89
  z117 := Tryd.sizeOf89
  v117 := Tryd.zeroValue89
  t119 := Tryd.underlying132
  a119 := Tryd.isAgg132
  z119 := Tryd.sizeOf132
  t124 := Tryd.underlying92
  a124 := Tryd.isAgg92
  z124 := Tryd.sizeOf92
  v124 := Tryd.zeroValue92
  t138 := Tryd.underlying134
  a138 := Tryd.isAgg134
  z138 := Tryd.sizeOf134
  v138 := Tryd.zeroValue134
  t139 := Tryd.underlying135
  a139 := Tryd.isAgg135
  z139 := Tryd.sizeOf135
  v139 := Tryd.zeroValue135
  g3 := by kernel_rfl
  g4 := by kernel_rfl }
def Tryd.lays105_ren : Go.Shelf.Ren := ⟨fun | 105 => 55 | 212 => 66 | 99 => 67 | 165 => 68 | 166 => 69 | 170 => 70 | 169 => 71 | 263 => 79 | 264 => 80 | 206 => 81 | 240 => 82 | 241 => 83 | 276 => 88 | 277 => 89 | n => n, fun | 9 => 9 | 3 => 3 | 4 => 4 | 20 => 20 | 0 => 0 | 46 => 111 | 109 => 112 | 5 => 5 | 72 => 117 | 76 => 76 | 51 => 121 | 146 => 122 | 53 => 49 | 148 => 124 | 70 => 115 | 37 => 22 | 75 => 75 | 127 => 126 | 164 => 129 | 80 => 119 | n => n, fun | n => n⟩
theorem Tryd.lays105 : Go.Proofs.Lays.n105 Tryd.prog Tryd.lays105_ren := {
  mixed := by kernel_rfl
  f99 := Tryd.func67.trans (congrArg some (by kernel_rfl))
  f105 := Tryd.func55.trans (congrArg some (by kernel_rfl))
  f165 := Tryd.func68.trans (congrArg some (by kernel_rfl))
  f166 := Tryd.func69.trans (congrArg some (by kernel_rfl))
  f169 := Tryd.func71.trans (congrArg some (by kernel_rfl))
  f170 := Tryd.func70.trans (congrArg some (by kernel_rfl))
  f206 := Tryd.func81.trans (congrArg some (by kernel_rfl))
  f212 := Tryd.func66.trans (congrArg some (by kernel_rfl))
  f240 := Tryd.func82.trans (congrArg some (by kernel_rfl))
  f241 := Tryd.func83.trans (congrArg some (by kernel_rfl))
  f263 := Tryd.func79.trans (congrArg some (by kernel_rfl))
  f264 := Tryd.func80.trans (congrArg some (by kernel_rfl))
  f276 := Tryd.func88.trans (congrArg some (by kernel_rfl))
  f277 := Tryd.func89.trans (congrArg some (by kernel_rfl))
  t0 := Tryd.underlying0
  a0 := Tryd.isAgg0
  z0 := Tryd.sizeOf0
  v0 := Tryd.zeroValue0
  t3 := Tryd.underlying3
  a3 := Tryd.isAgg3
  z3 := Tryd.sizeOf3
  v3 := Tryd.zeroValue3
  t4 := Tryd.underlying4
  a4 := Tryd.isAgg4
  z4 := Tryd.sizeOf4
  v4 := Tryd.zeroValue4
  t5 := Tryd.underlying5
  a5 := Tryd.isAgg5
  z5 := Tryd.sizeOf5
  v5 := Tryd.zeroValue5
  t9 := Tryd.underlying9
  a9 := Tryd.isAgg9
  z9 := Tryd.sizeOf9
  v9 := Tryd.zeroValue9
  t20 := Tryd.underlying20
  a20 := Tryd.isAgg20
  z20 := Tryd.sizeOf20
  v20 := Tryd.zeroValue20
  t37 := Tryd.underlying22
  a37 := Tryd.isAgg22
  z37 := Tryd.sizeOf22
  v37 := Tryd.zeroValue22
  t46 := Tryd.underlying111
  a46 := Tryd.isAgg111
  z46 := Tryd.sizeOf111
  v46 := Tryd.zeroValue111
  t51 := Tryd.underlying121
  a51 := Tryd.isAgg121
  z51 := Tryd.sizeOf121
  v51 := Tryd.zeroValue121
  t53 := Tryd.underlying49
  a53 := Tryd.isAgg49
  z53 := Tryd.sizeOf49
  v53 := Tryd.zeroValue49
  t70 := Tryd.underlying115
  a70 := Tryd.isAgg115
  z70 := Tryd.sizeOf115
  v70 := Tryd.zeroValue115
  t72 := Tryd.underlying117
  a72 := Tryd.isAgg117
  z72 := Tryd.sizeOf117
  v72 := Tryd.zeroValue117
  t75 := Tryd.underlying75
  a75 := Tryd.isAgg75
  z75 := Tryd.sizeOf75
  v75 := Tryd.zeroValue75
  t76 := Tryd.underlying76
  a76 := Tryd.isAgg76
  z76 := Tryd.sizeOf76
  v76 := Tryd.zeroValue76
  t109 := Tryd.underlying112
  a109 := Tryd.isAgg112
  z109 := Tryd.sizeOf112
  v109 := Tryd.zeroValue112
  t127 := Tryd.underlying126
  a127 := Tryd.isAgg126
  z127 := Tryd.sizeOf126
  v127 := Tryd.zeroValue126
  t146 := Tryd.underlying122
  a146 := Tryd.isAgg122
  z146 := Tryd.sizeOf122
  v146 := Tryd.zeroValue122
  t148 := Tryd.underlying124
  a148 := Tryd.isAgg124
  z148 := Tryd.sizeOf124
  v148 := Tryd.zeroValue124
  t164 := Tryd.underlying129
  a164 := Tryd.isAgg129
  z164 := Tryd.sizeOf129
  v164 := Tryd.zeroValue129 }
def Tryd.lays178_ren : Go.Shelf.Ren := ⟨fun | 178 => 54 | 251 => 49 | 252 => 50 | 181 => 51 | 184 => 64 | 290 => 65 | 324 => 78 | n => n, fun | 130 => 94 | 9 => 9 | 3 => 3 | 75 => 75 | 0 => 0 | 93 => 71 | 91 => 69 | 131 => 95 | 4 => 4 | 37 => 22 | 20 => 20 | 80 => 119 | 5 => 5 | n => n, fun | 14 => 0 | n => n⟩
theorem Tryd.lays178 : Go.Proofs.LaysM.n178 Tryd.prog Tryd.lays178_ren := {
  mixed := by kernel_rfl
  f178 := Tryd.func54.trans (congrArg some (by kernel_rfl))
  f181 := Tryd.func51.trans (congrArg some (by kernel_rfl))
  f184 := Tryd.func64.trans (congrArg some (by kernel_rfl))
  f251 := Tryd.func49.trans (congrArg some (by kernel_rfl))
  f252 := Tryd.func50.trans (congrArg some (by kernel_rfl))
  f290 := Tryd.func65.trans (congrArg some (by kernel_rfl))
  f324 := Tryd.func78.trans (congrArg some (by kernel_rfl))
  t0 := Tryd.underlying0
  a0 := Tryd.isAgg0
  z0 := Tryd.sizeOf0
  v0 := Tryd.zeroValue0
  t3 := Tryd.underlying3
  a3 := Tryd.isAgg3
  z3 := Tryd.sizeOf3
  v3 := Tryd.zeroValue3
  t4 := Tryd.underlying4
  a4 := Tryd.isAgg4
  z4 := Tryd.sizeOf4
  v4 := Tryd.zeroValue4
  t9 := Tryd.underlying9
  a9 := Tryd.isAgg9
  z9 := Tryd.sizeOf9
  v9 := Tryd.zeroValue9
  t20 := Tryd.underlying20
  a20 := Tryd.isAgg20
  z20 := Tryd.sizeOf20
  v20 := Tryd.zeroValue20
  t37 := Tryd.underlying22
  a37 := Tryd.isAgg22
  z37 := Tryd.sizeOf22
  v37 := Tryd.zeroValue22
  t75 := Tryd.underlying75
  a75 := Tryd.isAgg75
  z75 := Tryd.sizeOf75
  v75 := Tryd.zeroValue75
  t91 := Tryd.underlying69
  a91 := Tryd.isAgg69
  z91 := Tryd.sizeOf69
  v91 := Tryd.zeroValue69
  t93 := Tryd.underlying71
  a93 := Tryd.isAgg71
  z93 := Tryd.sizeOf71
  v93 := Tryd.zeroValue71
  t130 := Tryd.underlying94
  a130 := Tryd.isAgg94
  z130 := Tryd.sizeOf94
  v130 := Tryd.zeroValue94
  t131 := Tryd.underlying95
  a131 := Tryd.isAgg95
  z131 := Tryd.sizeOf95
  v131 := Tryd.zeroValue95
  g14 := by kernel_rfl
  t5 := Tryd.underlying5
  a5 := Tryd.isAgg5
  z5 := Tryd.sizeOf5
  v5 := Tryd.zeroValue5
  t80 := Tryd.underlying119
  a80 := Tryd.isAgg119
  z80 := Tryd.sizeOf119
  v80 := Tryd.zeroValue119
  i0 := by kernel_rfl
  i3 := by kernel_rfl
  i4 := by kernel_rfl
  i5 := by kernel_rfl
  i9 := by kernel_rfl
  i20 := by kernel_rfl
  i37 := by kernel_rfl
  i75 := by kernel_rfl
  i80 := by kernel_rfl
  i91 := by kernel_rfl
  i93 := by kernel_rfl
  i130 := by kernel_rfl
  i131 := by kernel_rfl
  m14 := by kernel_rfl }
def Tryd.lays179_ren : Go.Shelf.Ren := ⟨fun | 179 => 53 | 251 => 49 | 252 => 50 | 181 => 51 | 184 => 64 | 290 => 65 | 324 => 78 | n => n, fun | 130 => 94 | 5 => 5 | 75 => 75 | 0 => 0 | 93 => 71 | 91 => 69 | 3 => 3 | 131 => 95 | 4 => 4 | 37 => 22 | 20 => 20 | 80 => 119 | 9 => 9 | n => n, fun | 14 => 0 | n => n⟩
theorem Tryd.lays179 : Go.Proofs.LaysM.n179 Tryd.prog Tryd.lays179_ren := {
  mixed := by kernel_rfl
  f179 := Tryd.func53.trans (congrArg some (by kernel_rfl))
  f181 := Tryd.func51.trans (congrArg some (by kernel_rfl))
  f184 := Tryd.func64.trans (congrArg some (by kernel_rfl))
  f251 := Tryd.func49.trans (congrArg some (by kernel_rfl))
  f252 := Tryd.func50.trans (congrArg some (by kernel_rfl))
  f290 := Tryd.func65.trans (congrArg some (by kernel_rfl))
  f324 := Tryd.func78.trans (congrArg some (by kernel_rfl))
  t0 := Tryd.underlying0
  a0 := Tryd.isAgg0
  z0 := Tryd.sizeOf0
  v0 := Tryd.zeroValue0
  t3 := Tryd.underlying3
  a3 := Tryd.isAgg3
  z3 := Tryd.sizeOf3
  v3 := Tryd.zeroValue3
  t4 := Tryd.underlying4
  a4 := Tryd.isAgg4
  z4 := Tryd.sizeOf4
  v4 := Tryd.zeroValue4
  t5 := Tryd.underlying5
  a5 := Tryd.isAgg5
  z5 := Tryd.sizeOf5
  v5 := Tryd.zeroValue5
  t20 := Tryd.underlying20
  a20 := Tryd.isAgg20
  z20 := Tryd.sizeOf20
  v20 := Tryd.zeroValue20
  t37 := Tryd.underlying22
  a37 := Tryd.isAgg22
  z37 := Tryd.sizeOf22
  v37 := Tryd.zeroValue22
  t75 := Tryd.underlying75
  a75 := Tryd.isAgg75
  z75 := Tryd.sizeOf75
  v75 := Tryd.zeroValue75
  t91 := Tryd.underlying69
  a91 := Tryd.isAgg69
  z91 := Tryd.sizeOf69
  v91 := Tryd.zeroValue69
  t93 := Tryd.underlying71
  a93 := Tryd.isAgg71
  z93 := Tryd.sizeOf71
  v93 := Tryd.zeroValue71
  t130 := Tryd.underlying94
  a130 := Tryd.isAgg94
  z130 := Tryd.sizeOf94
  v130 := Tryd.zeroValue94
  t131 := Tryd.underlying95
  a131 := Tryd.isAgg95
  z131 := Tryd.sizeOf95
  v131 := Tryd.zeroValue95
  g14 := by kernel_rfl
  t9 := Tryd.underlying9
  a9 := Tryd.isAgg9
  z9 := Tryd.sizeOf9
  v9 := Tryd.zeroValue9
  t80 := Tryd.underlying119
  a80 := Tryd.isAgg119
  z80 := Tryd.sizeOf119
  v80 := Tryd.zeroValue119
  i0 := by kernel_rfl
  i3 := by kernel_rfl
  i4 := by kernel_rfl
  i5 := by kernel_rfl
  i9 := by kernel_rfl
  i20 := by kernel_rfl
  i37 := by kernel_rfl
  i75 := by kernel_rfl
  i80 := by kernel_rfl
  i91 := by kernel_rfl
  i93 := by kernel_rfl
  i130 := by kernel_rfl
  i131 := by kernel_rfl
  m14 := by kernel_rfl }
def Tryd.lays180_ren : Go.Shelf.Ren := ⟨fun | 180 => 34 | 251 => 49 | 252 => 50 | 181 => 51 | 184 => 64 | 290 => 65 | 324 => 78 | n => n, fun | 130 => 94 | 37 => 22 | 3 => 3 | 75 => 75 | 0 => 0 | 93 => 71 | 91 => 69 | 131 => 95 | 4 => 4 | 20 => 20 | 5 => 5 | 80 => 119 | 9 => 9 | n => n, fun | 14 => 0 | n => n⟩
theorem Tryd.lays180 : Go.Proofs.LaysM.n180 Tryd.prog Tryd.lays180_ren := {
  mixed := by kernel_rfl
  f180 := Tryd.func34.trans (congrArg some (by kernel_rfl))
  f181 := Tryd.func51.trans (congrArg some (by kernel_rfl))
  f184 := Tryd.func64.trans (congrArg some (by kernel_rfl))
  f251 := Tryd.func49.trans (congrArg some (by kernel_rfl))
  f252 := Tryd.func50.trans (congrArg some (by kernel_rfl))
  f290 := Tryd.func65.trans (congrArg some (by kernel_rfl))
  f324 := Tryd.func78.trans (congrArg some (by kernel_rfl))
  t0 := Tryd.underlying0
  a0 := Tryd.isAgg0
  z0 := Tryd.sizeOf0
  v0 := Tryd.zeroValue0
  t3 := Tryd.underlying3
  a3 := Tryd.isAgg3
  z3 := Tryd.sizeOf3
  v3 := Tryd.zeroValue3
  t4 := Tryd.underlying4
  a4 := Tryd.isAgg4
  z4 := Tryd.sizeOf4
  v4 := Tryd.zeroValue4
  t20 := Tryd.underlying20
  a20 := Tryd.isAgg20
  z20 := Tryd.sizeOf20
  v20 := Tryd.zeroValue20
  t37 := Tryd.underlying22
  a37 := Tryd.isAgg22
  z37 := Tryd.sizeOf22
  v37 := Tryd.zeroValue22
  t75 := Tryd.underlying75
  a75 := Tryd.isAgg75
  z75 := Tryd.sizeOf75
  v75 := Tryd.zeroValue75
  t91 := Tryd.underlying69
  a91 := Tryd.isAgg69
  z91 := Tryd.sizeOf69
  v91 := Tryd.zeroValue69
  t93 := Tryd.underlying71
  a93 := Tryd.isAgg71
  z93 := Tryd.sizeOf71
  v93 := Tryd.zeroValue71
  t130 := Tryd.underlying94
  a130 := Tryd.isAgg94
  z130 := Tryd.sizeOf94
  v130 := Tryd.zeroValue94
  t131 := Tryd.underlying95
  a131 := Tryd.isAgg95
  z131 := Tryd.sizeOf95
  v131 := Tryd.zeroValue95
  g14 := by kernel_rfl
  t5 := Tryd.underlying5
  a5 := Tryd.isAgg5
  z5 := Tryd.sizeOf5
  v5 := Tryd.zeroValue5
  t9 := Tryd.underlying9
  a9 := Tryd.isAgg9
  z9 := Tryd.sizeOf9
  v9 := Tryd.zeroValue9
  t80 := Tryd.underlying119
  a80 := Tryd.isAgg119
  z80 := Tryd.sizeOf119
  v80 := Tryd.zeroValue119
  i0 := by kernel_rfl
  i3 := by kernel_rfl
  i4 := by kernel_rfl
  i5 := by kernel_rfl
  i9 := by kernel_rfl
  i20 := by kernel_rfl
  i37 := by kernel_rfl
  i75 := by kernel_rfl
  i80 := by kernel_rfl
  i91 := by kernel_rfl
  i93 := by kernel_rfl
  i130 := by kernel_rfl
  i131 := by kernel_rfl
  m14 := by kernel_rfl }
def Tryd.lays181_ren : Go.Shelf.Ren := ⟨fun | 181 => 51 | n => n, fun | 130 => 94 | 3 => 3 | 0 => 0 | 93 => 71 | 37 => 22 | 91 => 69 | 5 => 5 | n => n, fun | n => n⟩
theorem Tryd.lays181 : Go.Proofs.LaysM.n181 Tryd.prog Tryd.lays181_ren := {
  mixed := by kernel_rfl
  f181 := Tryd.func51.trans (congrArg some (by kernel_rfl))
  t0 := Tryd.underlying0
  a0 := Tryd.isAgg0
  z0 := Tryd.sizeOf0
  v0 := Tryd.zeroValue0
  t3 := Tryd.underlying3
  a3 := Tryd.isAgg3
  z3 := Tryd.sizeOf3
  v3 := Tryd.zeroValue3
  t37 := Tryd.underlying22
  a37 := Tryd.isAgg22
  z37 := Tryd.sizeOf22
  v37 := Tryd.zeroValue22
  t93 := Tryd.underlying71
  a93 := Tryd.isAgg71
  z93 := Tryd.sizeOf71
  v93 := Tryd.zeroValue71
  t130 := Tryd.underlying94
  a130 := Tryd.isAgg94
  z130 := Tryd.sizeOf94
  v130 := Tryd.zeroValue94
  t5 := Tryd.underlying5
  a5 := Tryd.isAgg5
  z5 := Tryd.sizeOf5
  v5 := Tryd.zeroValue5
  t91 := Tryd.underlying69
  a91 := Tryd.isAgg69
  z91 := Tryd.sizeOf69
  v91 := Tryd.zeroValue69
  i0 := by kernel_rfl
  i3 := by kernel_rfl
  i5 := by kernel_rfl
  i37 := by kernel_rfl
  i91 := by kernel_rfl
  i93 := by kernel_rfl
  i130 := by kernel_rfl }
def Tryd.lays183_ren : Go.Shelf.Ren := ⟨fun | 183 => 52 | n => n, fun | 130 => 94 | 37 => 22 | 0 => 0 | 93 => 71 | 3 => 3 | 5 => 5 | 91 => 69 | n => n, fun | n => n⟩
theorem Tryd.lays183 : Go.Proofs.LaysM.n183 Tryd.prog Tryd.lays183_ren := {
  mixed := by kernel_rfl
  f183 := Tryd.func52.trans (congrArg some (by kernel_rfl))
  t0 := Tryd.underlying0
  a0 := Tryd.isAgg0
  z0 := Tryd.sizeOf0
  v0 := Tryd.zeroValue0
  t3 := Tryd.underlying3
  a3 := Tryd.isAgg3
  z3 := Tryd.sizeOf3
  v3 := Tryd.zeroValue3
  t37 := Tryd.underlying22
  a37 := Tryd.isAgg22
  z37 := Tryd.sizeOf22
  v37 := Tryd.zeroValue22
  t93 := Tryd.underlying71
  a93 := Tryd.isAgg71
  z93 := Tryd.sizeOf71
  v93 := Tryd.zeroValue71
  t130 := Tryd.underlying94
  a130 := Tryd.isAgg94
  z130 := Tryd.sizeOf94
  v130 := Tryd.zeroValue94
  t5 := Tryd.underlying5
  a5 := Tryd.isAgg5
  z5 := Tryd.sizeOf5
  v5 := Tryd.zeroValue5
  t91 := Tryd.underlying69
  a91 := Tryd.isAgg69
  z91 := Tryd.sizeOf69
  v91 := Tryd.zeroValue69
  i0 := by kernel_rfl
  i3 := by kernel_rfl
  i5 := by kernel_rfl
  i37 := by kernel_rfl
  i91 := by kernel_rfl
  i93 := by kernel_rfl
  i130 := by kernel_rfl }
end Go.Proofs
/-! mark.Label, walked. -/
set_option linter.unusedVariables false
set_option linter.unusedSimpArgs false
namespace Go.Proofs.YtnnnbeimehfiiaaDoor.Q
open Go Go.RowKit Go.Proofs.YtnnnbeimehfiiaaDoorW.PrintWords Go.Proofs.YtnnnbeimehfiiaaDoorW.PrintLast Go.Proofs.YtnnnbeimehfiiaaDoorW.PrintMore Go.Proofs.YtnnnbeimehfiiaaDoorW.SL
attribute [local go_sem] max2_int min2_int max_two min_two max_three min_three max_four min_four
def fixC (c : UInt8) : UInt8 := if c < 32 ∨ c > 126 then 63 else c
def labB (s : ByteArray) : ByteArray := ⟨(Lib.trimRightB ((s.data.toList.take 200).map fixC) 32).toArray⟩
def bnum (c : UInt8) : Int := (c.toNat : Int)
/-- The row that is being changed. -/
def LabI (w : World) (g m : Nat) (t : List UInt8) (i : Nat) (W : World) : Prop :=
  ∃ cur : Array Value, W.heap[g]? = some (.cells cur 5 (m, m + 1)) ∧ cur.size = m ∧ (∀ j c, t[j]? = some c → cur[j]? = some (Value.int .u8 (bnum (if j < i then fixC c else c)))) ∧ Below w.heap.size w W
theorem LabI.cell {w : World} {g m : Nat} {t : List UInt8} {i : Nat} {W : World} (h : LabI w g m t i W) {c : UInt8} (hc : t[i]? = some c) : W.cell? ⟨g, i, none⟩ = some (.int .u8 (bnum c)) := by
  obtain ⟨cur, h1, h2, h3, _⟩ := h
  have := h3 i c hc
  rw [if_neg (Nat.lt_irrefl _)] at this
  unfold World.cell?
  rw [h1]
  exact this
theorem LabI.frozen {w : World} {g m : Nat} {t : List UInt8} {i : Nat} {W : World} (h : LabI w g m t i W) {c : UInt8} (hc : t[i]? = some c) : W.frozen? ⟨g, i, none⟩ = false := by
  obtain ⟨cur, h1, h2, h3, _⟩ := h
  have hlt : i < m := by rw [← h2]; exact (Array.getElem?_eq_some_iff.1 (h3 i c hc)).1
  simp [World.frozen?, h1]
  omega
theorem LabI.keep {w : World} {g m : Nat} {t : List UInt8} {i : Nat} {W : World} (h : LabI w g m t i W) {c : UInt8} (hc : t[i]? = some c) (hf : fixC c = c) : LabI w g m t (i + 1) W := by
  obtain ⟨cur, h1, h2, h3, h4⟩ := h
  refine ⟨cur, h1, h2, fun j d hd => ?_, h4⟩
  rw [h3 j d hd]
  by_cases hj : j < i
  · rw [if_pos hj, if_pos (by omega)]
  · by_cases hj2 : j = i
    · subst hj2; rw [hc] at hd; injection hd with hd; subst hd; rw [if_neg hj, if_pos (by omega), hf]
    · rw [if_neg hj, if_neg (by omega)]
theorem LabI.set {w : World} {g m : Nat} {t : List UInt8} {i : Nat} {W : World} (h : LabI w g m t i W) {c : UInt8} (hc : t[i]? = some c) (hf : fixC c = 63) (hg : w.heap.size ≤ g) : LabI w g m t (i + 1) (W.setCell ⟨g, i, none⟩ (.int .u8 63)) := by
  obtain ⟨cur, h1, h2, h3, h4⟩ := h
  have hlt : i < cur.size := (Array.getElem?_eq_some_iff.1 (h3 i c hc)).1
  refine ⟨cur.setIfInBounds i (.int .u8 63), ?_, by simpa using h2, fun j d hd => ?_, h4.setCell (p := ⟨g, i, none⟩) hg _⟩
  · exact Lib.heap_setCell_same (i := i) h1 _
  · by_cases hj : j = i
    · subst hj
      rw [hc] at hd; injection hd with hd; subst hd
      rw [if_pos (by omega), hf]
      simp [hlt]; rfl
    · rw [Array.getElem?_setIfInBounds_ne (by omega), h3 j d hd]
      by_cases hj2 : j < i
      · rw [if_pos hj2, if_pos (by omega)]
      · rw [if_neg hj2, if_neg (by omega)]
theorem bytesWorld_LabI (w : World) (s : ByteArray) : LabI w w.heap.size (Lib.bytesCells w 5 s).size s.data.toList 0 (Lib.bytesWorld w 5 s) := by
  refine ⟨_, Lib.bytesWorld_at_new w 5 s, rfl, fun j c hc => ?_, ⟨rfl, rfl, rfl, by rw [Lib.bytesWorld_size]; omega, fun k hk => Lib.bytesWorld_at_old w 5 s k hk⟩⟩
  have hlt : j < s.data.size := by have := (List.getElem?_eq_some_iff.1 hc).1; simpa using this
  rw [if_neg (by omega)]
  have : s.data[j]? = some c := by simpa using hc
  rw [Lib.bytesCells, Array.getElem?_append_left (by simpa using hlt), Array.getElem?_map, this]
  rfl
theorem LabI.text {w : World} {g m : Nat} {t : List UInt8} {W : World} (h : LabI w g m t t.length W) (i : Nat) (hi : i < t.length) : W.cell? ⟨g, 0 + i, none⟩ = some (.int .u8 (((t.map fixC).map bnum).getD i 0)) := by
  obtain ⟨cur, h1, h2, h3, _⟩ := h
  have := h3 i t[i] (List.getElem?_eq_getElem hi)
  rw [if_pos hi] at this
  unfold World.cell?
  rw [h1, Nat.zero_add]
  refine this.trans ?_
  simp [List.getD_eq_getElem?_getD, List.getElem?_eq_getElem hi]
theorem strOf_fix (t : List UInt8) : strOfNums (t.map bnum) = ⟨t.toArray⟩ := by
  unfold strOfNums
  congr 1
  rw [List.map_map]
  congr 1
  refine (List.map_congr_left fun c _ => ?_).trans (List.map_id t)
  simp [bnum]
theorem fix_lo {c : UInt8} (h : bnum c < 32) : fixC c = 63 := by
  unfold fixC bnum at *
  rw [if_pos (.inl (UInt8.lt_iff_toNat_lt.2 (by have : (32 : UInt8).toNat = 32 := rfl; omega)))]
theorem fix_hi {c : UInt8} (h : bnum c > 126) : fixC c = 63 := by
  unfold fixC bnum at *
  rw [if_pos (.inr (UInt8.lt_iff_toNat_lt.2 (by have : (126 : UInt8).toNat = 126 := rfl; omega)))]
theorem fix_mid {c : UInt8} (h : ¬ bnum c < 32) (h2 : ¬ bnum c > 126) : fixC c = c := by
  unfold fixC bnum at *
  rw [if_neg]
  rintro (h3 | h3)
  · have := UInt8.lt_iff_toNat_lt.1 h3; have : (32 : UInt8).toNat = 32 := rfl; omega
  · have := UInt8.lt_iff_toNat_lt.1 h3; have : (126 : UInt8).toNat = 126 := rfl; omega
set_option maxHeartbeats 16000000 in
set_option maxRecDepth 100000 in
theorem Label_calls (s : ByteArray) (w : World) (hs : s.size ≤ 9223372036854775807) :
    Calls Tryd.prog 14 #[.string s] w fun e w' => e = .returned (.string (labB s)) ∧ Below w.heap.size w w' := by
  have hcv : ∀ (W : World) (x : ByteArray), (convert 9 22 (.string x)).run Tryd.prog W = .ok (.slice (some ⟨W.heap.size, 0, none⟩) x.size (grownCap W x.size 0 5)) (Lib.bytesWorld W 5 x) := fun W x => Lib.run_convert_string_bytes W 9 22 5 x Tryd.underlying9 Tryd.underlying22 Tryd.underlying5
  have HS := Aside0.mk hs
  clear hs
  by_cases hcase : (s.size : Int) ≤ 200
  · have hcase2 := eq_true hcase
    have hres : labB s = ⟨(Lib.trimRightB (s.data.toList.map fixC) 32).toArray⟩ := by unfold labB; rw [List.take_of_length_le]; rw [Array.length_toList]; have : s.data.size = s.size := rfl; omega
    obtain ⟨R, hR⟩ : ∃ R, labB s = R := ⟨_, rfl⟩
    rw [hR] at hres ⊢
    replace hres := Aside0.mk hres
    clear hR
    obtain ⟨t, ht⟩ : ∃ t, t = s.data.toList := ⟨_, rfl⟩
    rw [← ht] at hres
    have htl : t.length = s.size := by rw [ht, Array.length_toList]; rfl
    have HI := Aside0.mk (bytesWorld_LabI w s)
    rw [← ht] at HI
    replace ht := Aside0.mk ht
    replace htl := Aside0.mk htl
    obtain ⟨m, hm⟩ : ∃ m, (Lib.bytesCells w 5 s).size = m := ⟨_, rfl⟩
    rw [hm] at HI
    clear hm
    go_enter Tryd.func14, Tryd.ntmps14
    go_wp2
    generalize Lib.bytesWorld w 5 s = w1 at HI ⊢
    go_loopg [14] s.size (fun kq v14 W => ∃ (ii : Int) (i : Nat), v14 = .int .i64 ii ∧ Aside0 (ii = (i : Int)) ∧ i ≤ s.size ∧ kq = s.size - i ∧ Aside0 (LabI w w.heap.size m t i W))
    case atStart => exact ⟨0, 0, rfl, ⟨rfl⟩, Nat.zero_le _, rfl, HI⟩
    case round =>
      obtain ⟨ii, i, rfl, hii, hi, hgk, hI⟩ := hrel
      obtain ⟨wb, rfl⟩ : ∃ q, q = wr := ⟨_, rfl⟩
      by_cases hin : ii < (s.size : Int)
      · have p0 : 0 ≤ ii := by have := hii.out; omega
        have e0 : ii.toNat = i := by have := hii.out; omega
        have hit : i < t.length := by rw [htl.out]; have := hii.out; omega
        obtain ⟨c, hc⟩ : ∃ c, t[i]? = some c := ⟨_, List.getElem?_eq_getElem hit⟩
        have hx0 : wb.cell? ⟨w.heap.size, ii.toNat, none⟩ = some (.int .u8 (bnum c)) := by rw [e0]; exact hI.out.cell hc
        have hf0 : wb.frozen? ⟨w.heap.size, ii.toNat, none⟩ = false := by rw [e0]; exact hI.out.frozen hc
        have hw1 : wrap64 (ii + 1) = ii + 1 := by have := HS.out; have := hii.out; unfold wrap64; omega
        replace e0 := Aside0.mk e0
        replace hc := Aside0.mk hc
        have hinb := eq_true hin
        have p0b := eq_true p0
        clear hit
        by_cases hlo : bnum c < 32
        · have hlo2 := eq_true hlo
          go_wp2
          go_roundg (s.size - (i + 1))
          case rel => exact ⟨wrap64 (ii + 1), i + 1, by first | rfl | (simp; done) | (simp [hw1]; done), ⟨by rw [hw1]; have := hii.out; omega⟩, by have := hii.out; omega, rfl, ⟨by have := hI.out.set hc.out (fix_lo hlo) (Nat.le_refl _); rwa [← e0.out] at this ⊢⟩⟩
          case measure => have := hii.out; omega
        · by_cases hhi : bnum c > 126
          · have hhi2 := eq_true hhi
            go_wp2
            go_roundg (s.size - (i + 1))
            case rel => exact ⟨wrap64 (ii + 1), i + 1, by first | rfl | (simp; done) | (simp [hw1]; done), ⟨by rw [hw1]; have := hii.out; omega⟩, by have := hii.out; omega, rfl, ⟨by have := hI.out.set hc.out (fix_hi hhi) (Nat.le_refl _); rwa [← e0.out] at this ⊢⟩⟩
            case measure => have := hii.out; omega
          · go_wp2
            go_roundg (s.size - (i + 1))
            case rel => exact ⟨wrap64 (ii + 1), i + 1, by first | rfl | (simp; done) | (simp [hw1]; done), ⟨by rw [hw1]; have := hii.out; omega⟩, by have := hii.out; omega, rfl, ⟨hI.out.keep hc.out (fix_mid (by omega) (by omega))⟩⟩
            case measure => have := hii.out; omega
      · have hi' : i = t.length := by rw [htl.out]; have := hii.out; omega
        have hI2 := hI.out
        rw [hi'] at hI2
        have hcv2 := run_convert_bytes_arg (P := Tryd.prog) wb 22 5 Tryd.underlying22 Tryd.underlying5 w.heap.size 0 s.size (grownCap w s.size 0 5) ((t.map fixC).map bnum) (by simp [htl.out]) (fun j hj => hI2.text j (by rw [htl.out]; exact hj)) 9 Tryd.underlying9
        rw [strOf_fix] at hcv2
        have hbl := Aside0.mk hI2.choose_spec.2.2.2
        clear hi' hI2
        go_wp2_with (go_at_call 30; refine (Any.strings_TrimRight_one Tryd.lays162 _ 32 (by decide) wb (by show (t.map fixC).toArray.size ≤ _; simp; rw [htl.out]; exact HS.out)).mono ?_; rintro e w3 ⟨rfl, rfl⟩)
        go_ret
        exact ⟨by rw [hres.out]; rfl, hbl.out⟩
  · have hcase1 : (200 : Int) < (s.size : Int) := by omega
    have hcase2 := eq_true hcase1
    have hm200 : min 200 s.size = 200 := by omega
    have hres : labB s = ⟨(Lib.trimRightB ((s.extract 0 200).data.toList.map fixC) 32).toArray⟩ := by unfold labB; simp
    obtain ⟨R, hR⟩ : ∃ R, labB s = R := ⟨_, rfl⟩
    rw [hR] at hres ⊢
    replace hres := Aside0.mk hres
    clear hR
    obtain ⟨t, ht⟩ : ∃ t, t = (s.extract 0 200).data.toList := ⟨_, rfl⟩
    rw [← ht] at hres
    have htl : t.length = 200 := by rw [ht, Array.length_toList]; show (s.extract 0 200).size = 200; simp; omega
    have HI := Aside0.mk (bytesWorld_LabI w (s.extract 0 200))
    rw [← ht] at HI
    replace ht := Aside0.mk ht
    replace htl := Aside0.mk htl
    obtain ⟨m, hm⟩ : ∃ m, (Lib.bytesCells w 5 (s.extract 0 200)).size = m := ⟨_, rfl⟩
    rw [hm] at HI
    clear hm
    go_enter Tryd.func14, Tryd.ntmps14
    go_wp2
    generalize Lib.bytesWorld w 5 (s.extract 0 200) = w1 at HI ⊢
    go_loopg [14] 200 (fun kq v14 W => ∃ (ii : Int) (i : Nat), v14 = .int .i64 ii ∧ Aside0 (ii = (i : Int)) ∧ i ≤ 200 ∧ kq = 200 - i ∧ Aside0 (LabI w w.heap.size m t i W))
    case atStart => exact ⟨0, 0, rfl, ⟨rfl⟩, Nat.zero_le _, rfl, HI⟩
    case round =>
      obtain ⟨ii, i, rfl, hii, hi, hgk, hI⟩ := hrel
      obtain ⟨wb, rfl⟩ : ∃ q, q = wr := ⟨_, rfl⟩
      by_cases hin : ii < (200 : Int)
      · have p0 : 0 ≤ ii := by have := hii.out; omega
        have e0 : ii.toNat = i := by have := hii.out; omega
        have hit : i < t.length := by rw [htl.out]; have := hii.out; omega
        obtain ⟨c, hc⟩ : ∃ c, t[i]? = some c := ⟨_, List.getElem?_eq_getElem hit⟩
        have hx0 : wb.cell? ⟨w.heap.size, ii.toNat, none⟩ = some (.int .u8 (bnum c)) := by rw [e0]; exact hI.out.cell hc
        have hf0 : wb.frozen? ⟨w.heap.size, ii.toNat, none⟩ = false := by rw [e0]; exact hI.out.frozen hc
        have hw1 : wrap64 (ii + 1) = ii + 1 := by have := HS.out; have := hii.out; unfold wrap64; omega
        replace e0 := Aside0.mk e0
        replace hc := Aside0.mk hc
        have hinb := eq_true hin
        have p0b := eq_true p0
        clear hit
        by_cases hlo : bnum c < 32
        · have hlo2 := eq_true hlo
          go_wp2
          go_roundg (200 - (i + 1))
          case rel => exact ⟨wrap64 (ii + 1), i + 1, by first | rfl | (simp; done) | (simp [hw1]; done), ⟨by rw [hw1]; have := hii.out; omega⟩, by have := hii.out; omega, rfl, ⟨by have := hI.out.set hc.out (fix_lo hlo) (Nat.le_refl _); rwa [← e0.out] at this ⊢⟩⟩
          case measure => have := hii.out; omega
        · by_cases hhi : bnum c > 126
          · have hhi2 := eq_true hhi
            go_wp2
            go_roundg (200 - (i + 1))
            case rel => exact ⟨wrap64 (ii + 1), i + 1, by first | rfl | (simp; done) | (simp [hw1]; done), ⟨by rw [hw1]; have := hii.out; omega⟩, by have := hii.out; omega, rfl, ⟨by have := hI.out.set hc.out (fix_hi hhi) (Nat.le_refl _); rwa [← e0.out] at this ⊢⟩⟩
            case measure => have := hii.out; omega
          · go_wp2
            go_roundg (200 - (i + 1))
            case rel => exact ⟨wrap64 (ii + 1), i + 1, by first | rfl | (simp; done) | (simp [hw1]; done), ⟨by rw [hw1]; have := hii.out; omega⟩, by have := hii.out; omega, rfl, ⟨hI.out.keep hc.out (fix_mid (by omega) (by omega))⟩⟩
            case measure => have := hii.out; omega
      · have hi' : i = t.length := by rw [htl.out]; have := hii.out; omega
        have hI2 := hI.out
        rw [hi'] at hI2
        have hcv2 := run_convert_bytes_arg (P := Tryd.prog) wb 22 5 Tryd.underlying22 Tryd.underlying5 w.heap.size 0 200 (grownCap w 200 0 5) ((t.map fixC).map bnum) (by simp [htl.out]) (fun j hj => hI2.text j (by rw [htl.out]; exact hj)) 9 Tryd.underlying9
        rw [strOf_fix] at hcv2
        have hbl := Aside0.mk hI2.choose_spec.2.2.2
        clear hi' hI2
        go_wp2_with (go_at_call 30; refine (Any.strings_TrimRight_one Tryd.lays162 _ 32 (by decide) wb (by show (t.map fixC).toArray.size ≤ _; simp; rw [htl.out]; decide)).mono ?_; rintro e w3 ⟨rfl, rfl⟩)
        go_ret
        exact ⟨by rw [hres.out]; rfl, hbl.out⟩
end Go.Proofs.YtnnnbeimehfiiaaDoor.Q
/-! mark's page: what lies in it; its methods. -/
set_option linter.unusedVariables false
set_option linter.unusedSimpArgs false
namespace Go.Proofs.YtnnnbeimehfiiaaDoor.Q
open Go Go.RowKit Go.Proofs.YtnnnbeimehfiiaaDoorW.PrintWords Go.Proofs.YtnnnbeimehfiiaaDoorW.PrintLast Go.Proofs.YtnnnbeimehfiiaaDoorW.PrintMore Go.Proofs.YtnnnbeimehfiiaaDoorW.SL
attribute [local go_sem] max2_int min2_int max_two min_two max_three min_three max_four min_four
/-- A page in block b (of the call's own, from B on) that holds the bytes l. -/
def Pg (B b : Nat) (l : List Int) (w : World) : Prop := LibA.IsBuffer 73 (fun _ => none) 5 B b 0 (l.map (Value.int .u8)) w
theorem us_one (l : List Int) : ∀ v ∈ l.map (Value.int .u8), v.oneCell' = true := fun v hv => by obtain ⟨_, _, rfl⟩ := List.mem_map.1 hv; rfl
/-- What a page's method leaves as it was. -/
def Pk (B b : Nat) (w w' : World) : Prop := Below B w w' ∧ Lib.OthersKept 5 (some b) w w'
theorem Pk.refl (B b : Nat) (w : World) : Pk B b w w := ⟨Below.refl _ _, Lib.OthersKept.refl _ _ _⟩
theorem Pk.trans {B b : Nat} {w w1 w2 : World} (h : Pk B b w w1) (k : Pk B b w1 w2) : Pk B b w w2 := ⟨h.1.trans k.1, h.2.trans k.2⟩
theorem Pg.below {B b : Nat} {l : List Int} {w w' : World} (h : Pg B b l w) (hb : Below w.heap.size w w') : Pg B b l w' := by
  obtain ⟨hB, v, lr, h3, ho, hn⟩ := h
  have hlt := h3.lt
  exact ⟨hB, v, lr, h3.of_heap (hb.block b hlt), own_move ho (fun k hk => hb.block k (own_lt ho k hk)), hn⟩
theorem Pk.below {B b : Nat} {w w1 w2 : World} (h : Pk B b w w1) (hB : B ≤ w1.heap.size) (hb : Below w1.heap.size w1 w2) : Pk B b w w2 :=
  ⟨h.1.trans (below_lo hb hB), fun k o hk hb2 ho => by
    have h1 := h.2 k o hk hb2 ho
    rw [hb.block k (Array.getElem?_eq_some_iff.1 h1).1]; exact h1⟩
theorem drewN_below {w w' : World} (h : ∃ n, w' = w.drewN n) : Below w.heap.size w w' := by obtain ⟨n, rfl⟩ := h; exact pw_below_drewN (Below.refl _ _) n
set_option maxHeartbeats 4000000 in
set_option maxRecDepth 100000 in
/-- (*bytes.Buffer).Write at a page. -/
theorem pg_write (B b : Nat) (l x : List Int) (A : Option Addr) (c : Nat) (w : World) (h : Pg B b l w) (hBw : B ≤ w.heap.size) (hx : Kd.C B8 w A x.length x) (hA : x ≠ [] → ∀ a, A = some a → a.block ≠ b) (hlim : l.length + x.length ≤ 140737488355328) :
    Calls Tryd.prog 34 #[.pointer (some ⟨b, 0, none⟩), .slice A x.length c] w fun e w' => e = .returned (.tuple #[.int .i64 (x.length : Int), .nilIface]) ∧ Pg B b (l ++ x) w' ∧ Pk B b w w' := by
  by_cases hx0 : x ≠ []
  · obtain ⟨a, rfl, _⟩ := hx.2.2 (by cases x with | nil => exact absurd rfl hx0 | cons _ _ => simp)
    replace hA := hA hx0
    refine (Any.Buffer_Write_at Tryd.lays180 73 (fun _ => none) B b 0 (l.map (Value.int .u8)) (x.map (Value.int .u8)) a x.length c w h hBw (us_one l) (by simp) (hA a rfl) (fun j v hj => ?_) (us_one x) (by simpa using hlim)).mono ?_
    · have hjl : j < x.length := by have := (List.getElem?_eq_some_iff.1 hj).1; simpa using this
      obtain ⟨ad', he, hc⟩ := Kd.at_int hx (j : Int) (by omega) (by omega)
      injection he with he
      subst he
      simp only [Int.toNat_natCast] at hc
      rw [hc, ← hj, rd_get hjl]
      simp [List.getElem?_eq_getElem hjl]
    · rintro e w' ⟨rfl, h1, h2, h3⟩
      exact ⟨rfl, by unfold Pg; rw [List.map_append]; exact h1, h2, h3⟩
  · have hx0 : x = [] := Classical.not_not.1 hx0
    subst hx0
    obtain ⟨hB, v0, lr, hbk, -, -⟩ := id h
    have c2 : w.cell? ⟨b, 0 + 2, none⟩ = some (.int .i8 lr) := hbk.c2
    have f2 : w.frozen? ⟨b, 0 + 2, none⟩ = false := hbk.f (0 + 2)
    have h' := LibA.IsBuffer.setLast h 0
    have hbel0 : Below B w (w.setCell ⟨b, 0 + 2, none⟩ (.int .i8 0)) := (Below.refl B w).setCell (p := ⟨b, 0 + 2, none⟩) hB _
    have hk0 : Lib.OthersKept 5 (some b) w (w.setCell ⟨b, 0 + 2, none⟩ (.int .i8 0)) := (Lib.OthersKept.refl _ _ w).setCell ⟨b, 0 + 2, none⟩ rfl _
    clear hbk v0
    have hinfo : (Tryd.prog.info? 5).map (·.size) = some 1 := by kernel_rfl
    have hce : ∀ d dLen dCap W c, (Builtin.copy_ #[22, 22] 3 #[.slice d dLen dCap, .slice A 0 c]).run Tryd.prog W = .ok (goInt 0) W := fun d dLen dCap W c => run_copy_none W 22 22 3 5 d A dLen dCap 0 c Tryd.underlying22 hinfo (by simp)
    replace hlim := Aside0.mk hlim
    replace hA := Aside0.mk hA
    replace hx := Aside0.mk hx
    simp only [Nat.zero_add] at *
    go_enter Tryd.func34, Tryd.ntmps34
    go_wp2_with (go_at_call 49; refine (Any.Buffer_tryGrow_at { Tryd.lays180 with } 73 (fun _ => none) B b 0 0 (l.map (Value.int .u8)) _ ?_).mono ?_)
    · exact h'
    rintro e W1 (⟨rfl, xs, hxl, hI, hbel, hk, hg⟩ | ⟨rfl, rfl, hnr⟩)
    · clear h' c2 f2
      have hx0 : xs = [] := List.eq_nil_of_length_eq_zero hxl
      subst hx0
      rw [List.append_nil] at hI
      have hI2 : Pg B b l W1 := hI
      replace hI2 := Aside0.mk hI2
      have hk2 : Pk B b w W1 := ⟨hbel0.trans hbel, hk0.trans hk⟩
      replace hk2 := Aside0.mk hk2
      obtain ⟨-, lr2, hc⟩ := hI.cases
      clear hI hk hbel hg
      rcases hc with ⟨hb0, hbk2⟩ | ⟨g, cap, cur, hbk2, -, -, hnc, hcm, -, -, -⟩
      · have hl0 : l = [] := by simpa using hb0
        subst hl0
        have d0 : W1.cell? ⟨b, 0, none⟩ = some (.slice none 0 0) := hbk2.c0
        go_wp2
        go_ret2
        exact ⟨by first | rfl | simp, by simpa using hI2.out, hk2.out⟩
      · rw [List.length_map] at hbk2 hnc
        have d0 : W1.cell? ⟨b, 0, none⟩ = some (.slice (some ⟨g, 0, none⟩) l.length cap) := hbk2.c0
        unfold maxLen at hcm
        go_wp2
        all_goals (go_ret2; exact ⟨by first | rfl | simp, by simpa using hI2.out, hk2.out⟩)
    · obtain ⟨_, _, _, _, hlt⟩ := hnr
      omega
/-- A string's bytes. -/
def sb (s : ByteArray) : List Int := s.data.toList.map bnum
theorem sb_cells (s : ByteArray) : Lib.byteCells s.data.toList = (sb s).map (Value.int .u8) := by simp [Lib.byteCells, sb, bnum]
theorem sb_len (s : ByteArray) : (sb s).length = s.size := by simp [sb]
theorem pg_str (B b : Nat) (l : List Int) (s : ByteArray) (w : World) (h : Pg B b l w) (hBw : B ≤ w.heap.size) (hlim : l.length + s.size ≤ 140737488355328) :
    Calls Tryd.prog 54 #[.pointer (some ⟨b, 0, none⟩), .string s] w fun e w' => e = .returned (.tuple #[.int .i64 (s.size : Int), .nilIface]) ∧ Pg B b (l ++ sb s) w' ∧ Pk B b w w' := by
  refine (Any.Buffer_WriteString_at Tryd.lays178 73 (fun _ => none) B b 0 (l.map (Value.int .u8)) s w h hBw (us_one l) (by simpa using hlim)).mono ?_
  rintro e w' ⟨rfl, h1, h2, h3⟩
  exact ⟨rfl, by unfold Pg; rw [List.map_append, ← sb_cells]; exact h1, h2, h3⟩
theorem pg_byte (B b : Nat) (l : List Int) (x : Int) (w : World) (h : Pg B b l w) (hBw : B ≤ w.heap.size) (hlim : l.length + 1 ≤ 140737488355328) :
    Calls Tryd.prog 53 #[.pointer (some ⟨b, 0, none⟩), .int .u8 x] w fun e w' => e = .returned .nilIface ∧ Pg B b (l ++ [x]) w' ∧ Pk B b w w' := by
  refine (Any.Buffer_WriteByte_at Tryd.lays179 73 (fun _ => none) B b 0 (l.map (Value.int .u8)) x w h hBw (us_one l) (by simpa using hlim)).mono ?_
  rintro e w' ⟨rfl, h1, h2, h3⟩
  exact ⟨rfl, by unfold Pg; rw [List.map_append]; exact h1, h2, h3⟩
theorem pg_len (B b : Nat) (l : List Int) (w : World) (h : Pg B b l w) :
    Calls Tryd.prog 51 #[.pointer (some ⟨b, 0, none⟩)] w fun e w' => e = .returned (.int .i64 (l.length : Int)) ∧ Below w.heap.size w w' := by
  refine (Any.Buffer_Len_at Tryd.lays181 73 (fun _ => none) B b 0 (l.map (Value.int .u8)) w h).mono ?_
  rintro e w' ⟨rfl, h1⟩
  exact ⟨by rw [List.length_map], drewN_below h1⟩
set_option maxHeartbeats 4000000 in
set_option maxRecDepth 100000 in
theorem pg_bytes (B b : Nat) (l : List Int) (w : World) (h : Pg B b l w) :
    Calls Tryd.prog 52 #[.pointer (some ⟨b, 0, none⟩)] w fun e w' => ∃ A c, e = .returned (.slice A l.length c) ∧ l.length ≤ c ∧ Kd.C B8 w' A l.length l ∧ Below w.heap.size w w' := by
  obtain ⟨hB, v, lr, h3, ho, hn⟩ := h
  obtain ⟨A, c, rfl, hc, hF⟩ := ownF_F (w := w) (Z := fun _ => True) (v := v) (xs := l) ⟨fun _ _ => trivial, by have := own_weaken ho (Nat.zero_le _); simpa [us8] using this⟩
  have hC : ∀ n, Kd.C B8 (w.drewN n) A l.length l := fun n => Kd.C_below (Kd.F_now hF) (pw_below_drewN (Below.refl _ _) n)
  have hC1 : Kd.C B8 w.drew A l.length l := Kd.C_below (Kd.F_now hF) (below_drew1 (Below.refl _ _))
  have hmx : c ≤ 9223372036854775807 := by
    rcases ho.2 with ⟨h1, _⟩ | ⟨g, cap, cur, h1, _, _, _, hcm, _⟩
    · injection h1 with _ _ h1; omega
    · injection h1 with _ _ h1; simp only [maxLen] at hcm; omega
  have c0 : w.cell? ⟨b, 0, none⟩ = some (.slice A l.length c) := h3.c0
  have c1 : w.cell? ⟨b, 1, none⟩ = some (.int .i64 0) := h3.c1
  have mixed := Tryd.lays183.mixed
  have HC := Aside0.mk (⟨hc, hC, hC1⟩ : _ ∧ _ ∧ _)
  have hcl : (l.length : Int) ≤ (c : Int) := by omega
  clear hF ho h3 hn hC hC1 hc
  cases A with
  | none =>
    go_enter Tryd.func52, Tryd.ntmps52
    go_wp2
    go_region_o
    all_goals (go_wp2; go_ret; first | exact ⟨_, _, rfl, HC.out.1, HC.out.2.2, below_drew1 (Below.refl _ _)⟩ | exact ⟨_, _, rfl, HC.out.1, by have := HC.out.2.2; simpa using this, below_drew1 (Below.refl _ _)⟩)
  | some a =>
    go_enter Tryd.func52, Tryd.ntmps52
    go_wp2
    go_region_o
    all_goals (go_wp2; go_ret; first | exact ⟨_, _, rfl, HC.out.1, HC.out.2.2, below_drew1 (Below.refl _ _)⟩ | exact ⟨_, _, rfl, HC.out.1, by have := HC.out.2.2; simpa using this, below_drew1 (Below.refl _ _)⟩)
theorem Tryd.Builder_Extra_105 : Builder.Extra Tryd.prog Tryd.lays105_ren := {
  sizeBuilder := by kernel_rfl
  liesBuilder := by kernel_rfl
  t5 := Tryd.underlying5
  a5 := Tryd.isAgg5
  z5 := Tryd.sizeOf5
  v5 := Tryd.zeroValue5
  infoByte := by kernel_rfl
  cellsByte := by kernel_rfl
  sizeByte := by kernel_rfl
  neB5 := by decide }
/-- strings.Repeat of one byte. -/
theorem rep_calls (x : UInt8) (n : Nat) (w : World) (hn : n ≤ 16777216) : Calls Tryd.prog 55 #[.string ⟨#[x]⟩, .int .i64 (n : Int)] w fun e w' => e = .returned (.string ⟨(List.replicate n x).toArray⟩) ∧ Below w.heap.size w w' := by
  refine (Any.strings_Repeat Tryd.lays105 Tryd.Builder_Extra_105 ⟨#[x]⟩ n w (by omega) (by show 1 * n ≤ _; omega)).mono ?_
  rintro e w' ⟨rfl, h⟩
  refine ⟨?_, h⟩
  have : ∀ k, Lib.repeatL [x] k = List.replicate k x := fun k => by
    induction k with
    | zero => rfl
    | succ k ih => show [x] ++ Lib.repeatL [x] k = _; rw [ih]; rfl
  rw [← this]
end Go.Proofs.YtnnnbeimehfiiaaDoor.Q
-- Written by a program of this session (wip/gen_pg.py) for this claim; Lean checks it.
/-! mark's page: shut, lines, marker, out, walked. -/
set_option linter.unusedVariables false
set_option linter.unusedSimpArgs false
namespace Go.Proofs.YtnnnbeimehfiiaaDoor.Q
open Go Go.RowKit Go.Proofs.YtnnnbeimehfiiaaDoorW.PrintWords Go.Proofs.YtnnnbeimehfiiaaDoorW.PrintLast Go.Proofs.YtnnnbeimehfiiaaDoorW.PrintMore Go.Proofs.YtnnnbeimehfiiaaDoorW.SL
attribute [local go_sem] max2_int min2_int max_two min_two max_three min_three max_four min_four
def mmark.T0 : Bool × List (List Nat × List Nat) := (true, [([], []), ([0], [0]), ([1], [1]), ([], []), ([], []), ([3, 4], [3, 4]), ([2, 5, 5], [2, 5])])
def mmark.B0 : List Nat := [0, 1, 3, 0, 0, 24, 63]
theorem mmark.tab0 : rtab .any (opsOf Tryd.f36 0) = mmark.T0 := by kernel_rfl
theorem mmark.bits0 : waitsOk mmark.T0.2 mmark.B0 = true := by kernel_rfl
/-- A newline behind the last line, if it lacks one. -/
def endNl (l : List Int) : List Int := match l.getLast? with | some x => if x = 10 then l else l ++ [10] | none => []
theorem endNl_nil : endNl [] = [] := rfl
theorem endNl_snoc (r : List Int) (x : Int) : endNl (r ++ [x]) = if x = 10 then r ++ [x] else r ++ [x] ++ [10] := by simp [endNl]
theorem last_C {w : World} {A : Option Addr} {r : List Int} {x : Int} (h : Kd.C B8 w A (r ++ [x]).length (r ++ [x])) : ∃ ad, A = some ad ∧ w.cell? (ad.add r.length) = some (.int .u8 x) := by
  obtain ⟨ad, hA, hc⟩ := Kd.at_int h (r.length : Int) (by omega) (by simp; omega)
  refine ⟨ad, hA, ?_⟩
  simp only [Int.toNat_natCast] at hc
  rw [hc, rd_get (by simp)]
  simp
theorem Pk.of_below {B b : Nat} {w w' : World} (hB : B ≤ w.heap.size) (h : Below w.heap.size w w') : Pk B b w w' := (Pk.refl B b w).below hB h
theorem Pg.lt {B b : Nat} {l : List Int} {w : World} (h : Pg B b l w) : b < w.heap.size := LibA.IsBuffer.lt h
theorem Pk.size {B b : Nat} {w w' : World} (h : Pk B b w w') : w.heap.size ≤ w'.heap.size := h.1.size
set_option maxHeartbeats 8000000 in
set_option maxRecDepth 100000 in
theorem shut_calls (B b : Nat) (l : List Int) (w : World) (h : Pg B b l w) (hBw : B ≤ w.heap.size) (hlim : l.length + 1 ≤ 140737488355328) :
    Calls Tryd.prog 35 #[.pointer (some ⟨b, 0, none⟩)] w fun e w' => e = .returned (.tuple #[]) ∧ Pg B b (endNl l) w' ∧ Pk B b w w' := by
  rcases List.eq_nil_or_concat l with rfl | ⟨r, x, hl⟩
  · have H := Aside0.mk h; have HB := Aside0.mk hBw
    clear h hBw hlim
    rw [endNl_nil]
    go_enter Tryd.func35, Tryd.ntmps35
    go_wp2_with (go_at_call 51; refine (pg_len B b [] w H.out).mono ?_; rintro e w1 ⟨rfl, hb1⟩)
    (try simp only [Exit.inBlock, Exit.then])
    refine bodyPost_end (results_none rfl _ _ _) rfl ?_
    exact ⟨rfl, H.out.below hb1, Pk.of_below HB.out hb1⟩
  · have hl2 : l = r ++ [x] := by simpa using hl
    subst hl2
    clear hl
    have hln : (r ++ [x]).length = r.length + 1 := by simp
    have hpos := eq_true (show (0 : Int) < (r.length : Int) + 1 by omega)
    have hw0 : wrap64 (r.length : Int) = (r.length : Int) := by rw [hln] at hlim; unfold wrap64; omega
    have hlt := eq_true (show (r.length : Int) < (r.length : Int) + 1 by omega)
    have LEN : ∀ W, Pg B b (r ++ [x]) W → Calls Tryd.prog 51 #[.pointer (some ⟨b, 0, none⟩)] W fun e w' => e = .returned (.int .i64 ((r.length + 1 : Nat) : Int)) ∧ Below W.heap.size W w' := fun W hW => by
      have := pg_len B b (r ++ [x]) W hW; rwa [hln] at this
    have BYT : ∀ W, Pg B b (r ++ [x]) W → Calls Tryd.prog 52 #[.pointer (some ⟨b, 0, none⟩)] W fun e w' => ∃ ad c, e = .returned (.slice (some ad) (r.length + 1) c) ∧ w'.cell? (ad.add r.length) = some (.int .u8 x) ∧ Below W.heap.size W w' := fun W hW => by
      refine (pg_bytes B b (r ++ [x]) W hW).mono ?_
      rintro e w' ⟨A, c, rfl, hc, hC, hb⟩
      obtain ⟨ad, rfl, hx⟩ := last_C hC
      exact ⟨ad, c, by rw [hln], hx, hb⟩
    have H := Aside0.mk h; have HB := Aside0.mk hBw; have HL := Aside0.mk hlim
    replace LEN := Aside0.mk LEN; replace BYT := Aside0.mk BYT
    clear h hBw hlim hln
    rw [endNl_snoc]
    by_cases hx10 : x = 10
    · subst hx10
      rw [if_pos rfl]
      go_enter Tryd.func35, Tryd.ntmps35
      go_wp2_with (first | (go_at_call 51; refine (LEN.out w H.out).mono ?_; rintro e w1 ⟨rfl, hb1⟩; have H1 := H.out.below hb1) | (go_at_call 52; refine (BYT.out w1 H1).mono ?_; rintro e w2 ⟨ad, c, rfl, hx, hb2⟩; have hb := hb1.trans (below_lo hb2 hb1.size)))
      (try simp only [Exit.inBlock, Exit.then])
      refine bodyPost_end (results_none rfl _ _ _) rfl ?_
      exact ⟨rfl, H.out.below hb, Pk.of_below HB.out hb⟩
    · rw [if_neg hx10]
      have hne := eq_false hx10
      have hbf : (x == 10) = false := by rw [beq_eq_false_iff_ne]; exact hx10
      go_enter Tryd.func35, Tryd.ntmps35
      go_wp2_with (first | (go_at_call 51; refine (LEN.out w H.out).mono ?_; rintro e w1 ⟨rfl, hb1⟩; have H1 := H.out.below hb1) | (go_at_call 52; refine (BYT.out w1 H1).mono ?_; rintro e w2 ⟨ad, c, rfl, hx, hb2⟩; have hb := hb1.trans (below_lo hb2 hb1.size)) | (go_at_call 53; refine (pg_byte B b (r ++ [x]) 10 w2 (H.out.below hb) (Nat.le_trans HB.out hb.size) HL.out).mono ?_; rintro e w3 ⟨rfl, hp3, hk3⟩))
      (try simp only [Exit.inBlock, Exit.then])
      refine bodyPost_end (results_none rfl _ _ _) rfl ?_
      exact ⟨rfl, hp3, (Pk.of_below HB.out hb).trans hk3⟩
set_option maxHeartbeats 8000000 in
set_option maxRecDepth 100000 in
theorem lines_calls (B b : Nat) (l x : List Int) (A : Option Addr) (c : Nat) (w : World) (h : Pg B b l w) (hBw : B ≤ w.heap.size) (hx : Kd.C B8 w A x.length x) (hA : x ≠ [] → ∀ a, A = some a → a.block ≠ b) (hlim : l.length + x.length + 1 ≤ 140737488355328) :
    Calls Tryd.prog 37 #[.pointer (some ⟨b, 0, none⟩), .slice A x.length c] w fun e w' => e = .returned (.tuple #[]) ∧ Pg B b (endNl (l ++ x)) w' ∧ Pk B b w w' := by
  have H := Aside0.mk h; have HB := Aside0.mk hBw; have HL := Aside0.mk hlim; have HX := Aside0.mk hx; have HA := Aside0.mk hA
  clear h hBw hlim hx hA
  go_enter Tryd.func37, Tryd.ntmps37
  go_wp2_with (first | (go_at_call 34; refine (pg_write B b l x A c w H.out HB.out HX.out HA.out (by have := HL.out; omega)).mono ?_; rintro e w1 ⟨rfl, hp1, hk1⟩) | (go_at_call 35; refine (shut_calls B b (l ++ x) w1 hp1 (Nat.le_trans HB.out hk1.size) (by have := HL.out; simp; omega)).mono ?_; rintro e w2 ⟨rfl, hp2, hk2⟩))
  (try simp only [Exit.inBlock, Exit.then])
  refine bodyPost_end (results_none rfl _ _ _) rfl ?_
  exact ⟨rfl, hp2, hk1.trans hk2⟩
set_option maxHeartbeats 8000000 in
set_option maxRecDepth 100000 in
/-- bytes.Clone. -/
theorem bclone_calls (A : Option Addr) (c : Nat) (xs : List Int) (w : World) (hl : xs.length ≤ 140737488355328) (hr : Kd.C B8 w A xs.length xs) :
    Calls Tryd.prog 56 #[.slice A xs.length c] w fun e w' => ∃ A' c', e = .returned (.slice A' xs.length c') ∧ xs.length ≤ c' ∧ Kd.C B8 w' A' xs.length xs ∧ Below w.heap.size w w' := by
  obtain ⟨i0, hi, hz0, hz1, hz2⟩ := info_parts inf5
  have q22 : ∀ (w : World) (a : Option Addr) (n c n' c' : Nat), (binOp .eql 22 (.slice a n c) (.slice none n' c')).run Tryd.prog w = .ok (.bool a.isNone) w := fun w a n c n' c' => Lib.run_eql_slice_nil w _ _ a n c n' c' Tryd.underlying22
  have HR := Aside0.mk hr
  have HL := Aside0.mk hl
  clear hr hl
  cases A with
  | none =>
    have hx0 : xs = [] := by
      cases xs with
      | nil => rfl
      | cons y r => obtain ⟨a, ha, _⟩ := HR.out.2.2 (by simp); cases ha
    subst hx0
    go_enter Tryd.func56, Tryd.ntmps56
    go_wp2
    go_ret
    exact ⟨none, 0, rfl, Nat.le_refl _, HR.out, Below.refl _ _⟩
  | some ad =>
    go_enter Tryd.func56, Tryd.ntmps56
    go_wp2_with (at_builtin; refine wpList_append_own _ rfl _ _ 22 rfl w.heap.size 5 i0 (.int .u8 0) 1 1 Tryd.underlying22 hi hz0 hz1 hz2 rfl (by decide) _ _ _ rfl (World.ownsRow_made w #[] 0 (Nat.le_refl _) (Nat.zero_le _) rfl) ad xs.length c (xs.map (Value.int .u8)) rfl ?qc1 ?qc2 ?qc3 ?qc4 ?qc5 ?qc6 ?_)
    case qc1 => simp
    case qc2 =>
      intro j u hj
      have hjl : j < xs.length := by
        have := (List.getElem?_eq_some_iff.1 hj).1
        simpa using this
      refine Lib.cell?_alloc_some _ ?_
      obtain ⟨ad', he, hc⟩ := Kd.at_int HR.out (j : Int) (by omega) (by omega)
      injection he with he
      subst he
      simp only [Int.toNat_natCast] at hc
      rw [hc, ← hj]
      simp [rd, List.getD_eq_getElem?_getD, List.getElem?_eq_getElem hjl]
    case qc3 => intro u hu; obtain ⟨x, _, rfl⟩ := List.mem_map.1 hu; rfl
    case qc4 => have := HL.out; unfold maxLen; omega
    case qc5 => have := HL.out; omega
    case qc6 => simp
    intro v' w1 hown hgrow hnil
    have hB := Aside0.mk (((Below.refl _ w).alloc (Nat.le_refl _) _).grown hgrow (by simp) (by intro k hk; simp [Value.ownBlock] at hk; omega))
    obtain ⟨A', c', rfl, hc', hF⟩ := ownF_F (w := w1) (Z := fun _ => True) (v := v') (xs := xs) ⟨fun _ _ => trivial, by have := own_weaken hown (Nat.zero_le _); simpa [us8] using this⟩
    replace hF := Aside0.mk hF
    clear hown hgrow hnil
    go_wp2
    go_ret
    exact ⟨A', c', rfl, hc', Kd.F_now hF.out, hB.out⟩
set_option maxHeartbeats 8000000 in
set_option maxRecDepth 100000 in
theorem out_calls (B b : Nat) (l : List Int) (w : World) (h : Pg B b l w) (hlim : l.length ≤ 140737488355328) :
    Calls Tryd.prog 38 #[.pointer (some ⟨b, 0, none⟩)] w fun e w' => ∃ A' c', e = .returned (.slice A' l.length c') ∧ l.length ≤ c' ∧ Kd.C B8 w' A' l.length l ∧ Below w.heap.size w w' := by
  have H := Aside0.mk h; have HL := Aside0.mk hlim
  clear h hlim
  go_enter Tryd.func38, Tryd.ntmps38
  go_wp2_with (first | (go_at_call 52; refine (pg_bytes B b l w H.out).mono ?_; rintro e w1 ⟨A, c, rfl, hc, hC, hb1⟩; replace hC := Aside0.mk hC) | (go_at_call 56; refine (bclone_calls A c l w1 HL.out hC.out).mono ?_; rintro e w2 ⟨A2, c2, rfl, hc2, hC2, hb2⟩; have HH := Aside0.mk (⟨hc2, hC2, hb1.trans (below_lo hb2 hb1.size)⟩ : _ ∧ _ ∧ _); clear hc2 hC2 hc))
  go_ret
  exact ⟨A2, c2, rfl, HH.out.1, HH.out.2.1, HH.out.2.2⟩
def repB (x : UInt8) (n : Nat) : ByteArray := ⟨(List.replicate n x).toArray⟩
theorem sb_rep (x : UInt8) (n : Nat) : sb (repB x n) = List.replicate n (bnum x) := by simp [sb, repB]
theorem sb_app (a b : ByteArray) : sb (a ++ b) = sb a ++ sb b := by simp [sb]
/-- A marker's line. -/
def mkLine (x : UInt8) (n : Nat) (s : ByteArray) : List Int := List.replicate n (bnum x) ++ (if labB s = ⟨#[]⟩ then [] else 32 :: sb (labB s)) ++ [10]
theorem labB_size (s : ByteArray) : (labB s).size ≤ 200 := by
  show (Lib.trimRightB ((s.data.toList.take 200).map fixC) 32).toArray.size ≤ 200
  have h1 : ∀ (l : List UInt8) (c : UInt8), (Lib.trimRightB l c).length ≤ l.length := fun l c => by
    unfold Lib.trimRightB
    rw [List.length_reverse]
    exact Nat.le_trans (List.dropWhile_sublist _).length_le (by simp)
  rw [List.size_toArray]
  refine Nat.le_trans (h1 _ _) ?_
  rw [List.length_map, List.length_take]
  omega
set_option maxHeartbeats 8000000 in
set_option maxRecDepth 100000 in
theorem marker_calls (B pb : Nat) (l : List Int) (x : UInt8) (n : Nat) (s : ByteArray) (w : World) (h : Pg B pb l w) (hBw : B ≤ w.heap.size) (hn : n ≤ 16777216) (hs : s.size ≤ 9223372036854775807) (hlim : l.length + n + 300 ≤ 140737488355328) :
    Calls Tryd.prog 36 #[.pointer (some ⟨pb, 0, none⟩), .string ⟨#[x]⟩, .int .i64 (n : Int), .string s] w fun e w' => e = .returned (.tuple #[]) ∧ Pg B pb (l ++ mkLine x n s) w' ∧ Pk B pb w w' := by
  have hln : (sb (repB x n)).length = n := by rw [sb_rep, List.length_replicate]
  have hsz := labB_size s
  obtain ⟨t, ht⟩ : ∃ t, labB s = t := ⟨_, rfl⟩
  rw [ht] at hsz
  have hml : mkLine x n s = sb (repB x n) ++ (if t = ⟨#[]⟩ then [] else 32 :: sb t) ++ [10] := by unfold mkLine; rw [sb_rep, ht]
  rw [hml]
  have hrs : (repB x n).size = n := by rw [← sb_len]; exact hln
  have H := Aside0.mk h; have HB := Aside0.mk hBw; have HL := Aside0.mk hlim; have HN := Aside0.mk hn; have HS := Aside0.mk hs; have HT := Aside0.mk ht; have HLN := Aside0.mk hln; have HSZ := Aside0.mk hsz; have HRS := Aside0.mk hrs
  clear h hBw hlim hn hs ht hml hln hrs
  obtain ⟨RB, hRB⟩ : ∃ RB, RB = repB x n := ⟨_, rfl⟩
  rw [← hRB] at HLN HRS ⊢
  replace hRB := Aside0.mk hRB
  by_cases ht0 : t = ⟨#[]⟩
  · rw [if_pos ht0]
    subst ht0
    go_enter Tryd.func36, Tryd.ntmps36
    go_wp2
    have E := trivial
    refine start_ (n := 7) (S := fun w' => True) (ds := []) #[false, false, false, false, false, false, false] (by kernel_rfl) rfl rfl trivial (fun hHeld => ?_)
    refine with_tabW mmark.tab0 mmark.bits0 (fun HT_ HW_ => ?_)
    have H1 : Aside0 (Pg B pb l w.drew) := ⟨H.out.below (below_drew1 (Below.refl _ _))⟩
    have HB1 : Aside0 (B ≤ w.drew.heap.size) := ⟨HB.out⟩
    have HK1 : Aside0 (Pk B pb w w.drew) := ⟨Pk.of_below HB.out (below_drew1 (Below.refl _ _))⟩
    generalize w.drew = wd at H1 HB1 HK1 hHeld ⊢
    refine pure_ (i := 0) (N := some 9) (v := ?_) (a' := ?_) #[true, false, false, false, false, false, false] rfl rfl (any_of HT_.out (by kernel_rfl)) (fun _ _ _ h => h) (Or.inl ⟨by rfl, ?_⟩) ?_ ?_
    rotate_left
    · intro w'
      go_simp
      with_reducible rfl
    rotate_left
    · simp only [Act.put, List.setIfInBounds_toArray, List.set_cons_zero, List.set_cons_succ, i64_w, i32_w]
      rfl
    refine pure_ (i := 1) (N := some 10) (v := ?_) (a' := ?_) #[true, true, false, false, false, false, false] rfl rfl (any_of HT_.out (by kernel_rfl)) (fun _ _ _ h => h) (Or.inl ⟨by rfl, ?_⟩) ?_ ?_
    rotate_left
    · intro w'
      go_simp
      with_reducible rfl
    rotate_left
    · simp only [Act.put, List.setIfInBounds_toArray, List.set_cons_zero, List.set_cons_succ, i64_w, i32_w]
      rfl
    refine pure_ (i := 2) (N := some 11) (v := ?_) (a' := ?_) #[true, true, true, false, false, false, false] rfl rfl (any_of HT_.out (by kernel_rfl)) (fun _ _ _ h => h) (Or.inl ⟨by rfl, ?_⟩) ?_ ?_
    rotate_left
    · intro w'
      go_simp
      with_reducible rfl
    rotate_left
    · simp only [Act.put, List.setIfInBounds_toArray, List.set_cons_zero, List.set_cons_succ, i64_w, i32_w]
      rfl
    refine pure_ (i := 3) (N := some 12) (v := ?_) (a' := ?_) #[true, true, true, true, false, false, false] rfl rfl (any_of HT_.out (by kernel_rfl)) (fun _ _ _ h => h) (Or.inl ⟨by rfl, ?_⟩) ?_ ?_
    rotate_left
    · intro w'
      go_simp
      with_reducible rfl
    rotate_left
    · simp only [Act.put, List.setIfInBounds_toArray, List.set_cons_zero, List.set_cons_succ, i64_w, i32_w]
      rfl
    refine pure_ (i := 4) (N := some 13) (v := ?_) (a' := ?_) #[true, true, true, true, true, false, false] rfl rfl (any_of HT_.out (by kernel_rfl)) (fun _ _ _ h => h) (Or.inl ⟨by rfl, ?_⟩) ?_ ?_
    rotate_left
    · intro w'
      go_simp
      with_reducible rfl
    rotate_left
    · simp only [Act.put, List.setIfInBounds_toArray, List.set_cons_zero, List.set_cons_succ, i64_w, i32_w]
      rfl
    refine inv_at [5, 6] (fun a0_ b a w' => a = putSel a0_ b [(5, 14, .string RB), (6, 15, .tuple #[.int .i64 (RB.size : Int), .nilIface])] ∧ (b 6 = false → Below wd.heap.size wd w') ∧ (b 6 = true → Pg B pb (l ++ sb RB) w' ∧ Pk B pb w w')) HT_.out HW_.out (by kernel_rfl) (by kernel_rfl) ?_ ?_ ?_
    · exact ⟨by simp only [putSel, Bool.false_eq_true, if_false], fun _ => Below.refl _ _, fun h_ => absurd h_ (by decide)⟩
    · skip
      clear E
      refine steps_cons ?_ ?_
      · rintro b a w' ⟨ha, Q_E, Q_F⟩ hb_ hon hoff
        refine ⟨_, rfl, fun K hK => ?_⟩
        have e12 : a.tmps[12]? = some (.string ⟨#[x]⟩) := by rw [ha]; exact (putSel_off rfl).trans rfl
        have e13 : a.tmps[13]? = some (.int .i64 (n : Int)) := by rw [ha]; exact (putSel_off rfl).trans rfl
        replace ha := Aside0.mk ha
        have E := Aside0.mk (Q_E (hoff 6 (by kernel_rfl)))
        refine goes_ Tryd.func55 (by kernel_rfl) rfl #[.string ⟨#[x]⟩, .int .i64 (n : Int)] (by rfl) rfl rfl (by first | (simp only [List.map_toArray, List.map_cons, List.map_nil, Act.eval, Array.getD_eq_getD_getElem?, Option.getD_some, e12, e13]; done) | (simp only [List.map_toArray, List.map_cons, List.map_nil, Act.eval, Array.getD_eq_getD_getElem?, Option.getD_some, e12, e13]; rfl)) ?_
        refine (rep_calls x n _ HN.out).mono ?_
        rw [show (⟨(List.replicate n x).toArray⟩ : ByteArray) = RB from hRB.out.symm]
        rintro e w24 ⟨rfl, hb⟩
        refine ⟨_, rfl, ?_⟩
        have E3_ := E.out.trans (below_lo hb E.out.size)
        refine hK.out _ _ ⟨(by rw [ha.out]; exact putSel_upk 0 hb_ rfl rfl rfl), fun _ => E3_, fun h0_ => absurd ((hoff 6 (by kernel_rfl)).symm.trans h0_) (by decide)⟩
      refine steps_cons ?_ ?_
      · rintro b a w' ⟨ha, Q_E, Q_F⟩ hb_ hon hoff
        refine ⟨_, rfl, fun K hK => ?_⟩
        have e11 : a.tmps[11]? = some (.pointer (some ⟨pb, 0, none⟩)) := by rw [ha]; exact (putSel_off rfl).trans rfl
        have e14 : a.tmps[14]? = some (.string RB) := by rw [ha]; exact putSel_on (e := (5, 14, .string RB)) 0 rfl rfl (hon 5 (by kernel_rfl)) rfl
        replace ha := Aside0.mk ha
        have E := Aside0.mk (Q_E hb_)
        refine goes_ Tryd.func54 (by kernel_rfl) rfl #[.pointer (some ⟨pb, 0, none⟩), .string RB] (by rfl) rfl rfl (by first | (simp only [List.map_toArray, List.map_cons, List.map_nil, Act.eval, Array.getD_eq_getD_getElem?, Option.getD_some, e11, e14]; done) | (simp only [List.map_toArray, List.map_cons, List.map_nil, Act.eval, Array.getD_eq_getD_getElem?, Option.getD_some, e11, e14]; rfl)) ?_
        refine (pg_str B pb l RB _ (H1.out.below E.out) (Nat.le_trans HB1.out E.out.size) (by have := HL.out; have := HRS.out; omega)).mono ?_
        rintro e w24 ⟨rfl, hp, hk⟩
        refine ⟨_, rfl, ?_⟩
        have E3_ := And.intro hp (HK1.out.trans ((Pk.of_below HB1.out E.out).trans hk))
        refine hK.out _ _ ⟨(by rw [ha.out]; exact putSel_upk 1 hb_ rfl rfl rfl), fun h0_ => absurd ((up_self b 6).symm.trans h0_) (by decide), fun _ => E3_⟩
      exact steps_nil
    · rintro b a w' hall ⟨ha, Q_E, Q_F⟩
      clear E
      have hb5_ := hall 5 (by kernel_rfl)
      have hb6_ := hall 6 (by kernel_rfl)
      subst ha
      simp only [putSel, hb5_, hb6_, if_true, Act.put, List.setIfInBounds_toArray, List.set_cons_zero, List.set_cons_succ]
      clear Q_E
      have F := Aside0.mk (Q_F hb6_)
      clear Q_F
      clear hall hb5_ hb6_
      go_wp2_with (first | (go_at_call 14; refine (Label_calls s w' HS.out).mono ?_; rw [HT.out]; rintro e w3 ⟨rfl, hb3⟩; have hP3 := F.out.1.below hb3; have hK3 := F.out.2.below (Nat.le_trans HB.out F.out.2.size) hb3) | (go_at_call 53; refine (pg_byte B pb (l ++ sb RB) 10 w3 hP3 (Nat.le_trans HB.out hK3.size) (by have := HL.out; have := HLN.out; simp; omega)).mono ?_; rintro e w4 ⟨rfl, hP4, hK4⟩))
      (try simp only [Exit.inBlock, Exit.then])
      refine bodyPost_end (results_none rfl _ _ _) rfl ?_
      exact ⟨rfl, by simpa using hP4, hK3.trans hK4⟩
  · rw [if_neg ht0]
    have hbne := eq_false ht0
    have hti : t.toList.isEmpty = false := by
      rw [Lib.toList_data, Bool.eq_false_iff]
      intro h_
      apply ht0
      have h2_ := List.isEmpty_iff.1 h_
      cases t with | mk d => congr 1; cases d with | mk dl => simp at h2_; rw [h2_]
    have hsl : (9223372036854775807 < 1 + t.size) = False := eq_false (by have := HSZ.out; omega)
    have hsl2 : (9223372036854775807 < t.size + 1) = False := eq_false (by have := HSZ.out; omega)
    go_enter Tryd.func36, Tryd.ntmps36
    go_wp2
    have E := trivial
    refine start_ (n := 7) (S := fun w' => True) (ds := []) #[false, false, false, false, false, false, false] (by kernel_rfl) rfl rfl trivial (fun hHeld => ?_)
    refine with_tabW mmark.tab0 mmark.bits0 (fun HT_ HW_ => ?_)
    have H1 : Aside0 (Pg B pb l w.drew) := ⟨H.out.below (below_drew1 (Below.refl _ _))⟩
    have HB1 : Aside0 (B ≤ w.drew.heap.size) := ⟨HB.out⟩
    have HK1 : Aside0 (Pk B pb w w.drew) := ⟨Pk.of_below HB.out (below_drew1 (Below.refl _ _))⟩
    generalize w.drew = wd at H1 HB1 HK1 hHeld ⊢
    refine pure_ (i := 0) (N := some 9) (v := ?_) (a' := ?_) #[true, false, false, false, false, false, false] rfl rfl (any_of HT_.out (by kernel_rfl)) (fun _ _ _ h => h) (Or.inl ⟨by rfl, ?_⟩) ?_ ?_
    rotate_left
    · intro w'
      go_simp
      with_reducible rfl
    rotate_left
    · simp only [Act.put, List.setIfInBounds_toArray, List.set_cons_zero, List.set_cons_succ, i64_w, i32_w]
      rfl
    refine pure_ (i := 1) (N := some 10) (v := ?_) (a' := ?_) #[true, true, false, false, false, false, false] rfl rfl (any_of HT_.out (by kernel_rfl)) (fun _ _ _ h => h) (Or.inl ⟨by rfl, ?_⟩) ?_ ?_
    rotate_left
    · intro w'
      go_simp
      with_reducible rfl
    rotate_left
    · simp only [Act.put, List.setIfInBounds_toArray, List.set_cons_zero, List.set_cons_succ, i64_w, i32_w]
      rfl
    refine pure_ (i := 2) (N := some 11) (v := ?_) (a' := ?_) #[true, true, true, false, false, false, false] rfl rfl (any_of HT_.out (by kernel_rfl)) (fun _ _ _ h => h) (Or.inl ⟨by rfl, ?_⟩) ?_ ?_
    rotate_left
    · intro w'
      go_simp
      with_reducible rfl
    rotate_left
    · simp only [Act.put, List.setIfInBounds_toArray, List.set_cons_zero, List.set_cons_succ, i64_w, i32_w]
      rfl
    refine pure_ (i := 3) (N := some 12) (v := ?_) (a' := ?_) #[true, true, true, true, false, false, false] rfl rfl (any_of HT_.out (by kernel_rfl)) (fun _ _ _ h => h) (Or.inl ⟨by rfl, ?_⟩) ?_ ?_
    rotate_left
    · intro w'
      go_simp
      with_reducible rfl
    rotate_left
    · simp only [Act.put, List.setIfInBounds_toArray, List.set_cons_zero, List.set_cons_succ, i64_w, i32_w]
      rfl
    refine pure_ (i := 4) (N := some 13) (v := ?_) (a' := ?_) #[true, true, true, true, true, false, false] rfl rfl (any_of HT_.out (by kernel_rfl)) (fun _ _ _ h => h) (Or.inl ⟨by rfl, ?_⟩) ?_ ?_
    rotate_left
    · intro w'
      go_simp
      with_reducible rfl
    rotate_left
    · simp only [Act.put, List.setIfInBounds_toArray, List.set_cons_zero, List.set_cons_succ, i64_w, i32_w]
      rfl
    refine inv_at [5, 6] (fun a0_ b a w' => a = putSel a0_ b [(5, 14, .string RB), (6, 15, .tuple #[.int .i64 (RB.size : Int), .nilIface])] ∧ (b 6 = false → Below wd.heap.size wd w') ∧ (b 6 = true → Pg B pb (l ++ sb RB) w' ∧ Pk B pb w w')) HT_.out HW_.out (by kernel_rfl) (by kernel_rfl) ?_ ?_ ?_
    · exact ⟨by simp only [putSel, Bool.false_eq_true, if_false], fun _ => Below.refl _ _, fun h_ => absurd h_ (by decide)⟩
    · skip
      clear E
      refine steps_cons ?_ ?_
      · rintro b a w' ⟨ha, Q_E, Q_F⟩ hb_ hon hoff
        refine ⟨_, rfl, fun K hK => ?_⟩
        have e12 : a.tmps[12]? = some (.string ⟨#[x]⟩) := by rw [ha]; exact (putSel_off rfl).trans rfl
        have e13 : a.tmps[13]? = some (.int .i64 (n : Int)) := by rw [ha]; exact (putSel_off rfl).trans rfl
        replace ha := Aside0.mk ha
        have E := Aside0.mk (Q_E (hoff 6 (by kernel_rfl)))
        refine goes_ Tryd.func55 (by kernel_rfl) rfl #[.string ⟨#[x]⟩, .int .i64 (n : Int)] (by rfl) rfl rfl (by first | (simp only [List.map_toArray, List.map_cons, List.map_nil, Act.eval, Array.getD_eq_getD_getElem?, Option.getD_some, e12, e13]; done) | (simp only [List.map_toArray, List.map_cons, List.map_nil, Act.eval, Array.getD_eq_getD_getElem?, Option.getD_some, e12, e13]; rfl)) ?_
        refine (rep_calls x n _ HN.out).mono ?_
        rw [show (⟨(List.replicate n x).toArray⟩ : ByteArray) = RB from hRB.out.symm]
        rintro e w24 ⟨rfl, hb⟩
        refine ⟨_, rfl, ?_⟩
        have E3_ := E.out.trans (below_lo hb E.out.size)
        refine hK.out _ _ ⟨(by rw [ha.out]; exact putSel_upk 0 hb_ rfl rfl rfl), fun _ => E3_, fun h0_ => absurd ((hoff 6 (by kernel_rfl)).symm.trans h0_) (by decide)⟩
      refine steps_cons ?_ ?_
      · rintro b a w' ⟨ha, Q_E, Q_F⟩ hb_ hon hoff
        refine ⟨_, rfl, fun K hK => ?_⟩
        have e11 : a.tmps[11]? = some (.pointer (some ⟨pb, 0, none⟩)) := by rw [ha]; exact (putSel_off rfl).trans rfl
        have e14 : a.tmps[14]? = some (.string RB) := by rw [ha]; exact putSel_on (e := (5, 14, .string RB)) 0 rfl rfl (hon 5 (by kernel_rfl)) rfl
        replace ha := Aside0.mk ha
        have E := Aside0.mk (Q_E hb_)
        refine goes_ Tryd.func54 (by kernel_rfl) rfl #[.pointer (some ⟨pb, 0, none⟩), .string RB] (by rfl) rfl rfl (by first | (simp only [List.map_toArray, List.map_cons, List.map_nil, Act.eval, Array.getD_eq_getD_getElem?, Option.getD_some, e11, e14]; done) | (simp only [List.map_toArray, List.map_cons, List.map_nil, Act.eval, Array.getD_eq_getD_getElem?, Option.getD_some, e11, e14]; rfl)) ?_
        refine (pg_str B pb l RB _ (H1.out.below E.out) (Nat.le_trans HB1.out E.out.size) (by have := HL.out; have := HRS.out; omega)).mono ?_
        rintro e w24 ⟨rfl, hp, hk⟩
        refine ⟨_, rfl, ?_⟩
        have E3_ := And.intro hp (HK1.out.trans ((Pk.of_below HB1.out E.out).trans hk))
        refine hK.out _ _ ⟨(by rw [ha.out]; exact putSel_upk 1 hb_ rfl rfl rfl), fun h0_ => absurd ((up_self b 6).symm.trans h0_) (by decide), fun _ => E3_⟩
      exact steps_nil
    · rintro b a w' hall ⟨ha, Q_E, Q_F⟩
      clear E
      have hb5_ := hall 5 (by kernel_rfl)
      have hb6_ := hall 6 (by kernel_rfl)
      subst ha
      simp only [putSel, hb5_, hb6_, if_true, Act.put, List.setIfInBounds_toArray, List.set_cons_zero, List.set_cons_succ]
      clear Q_E
      have F := Aside0.mk (Q_F hb6_)
      clear Q_F
      clear hall hb5_ hb6_
      go_wp2_with (first | (go_at_call 14; refine (Label_calls s w' HS.out).mono ?_; rw [HT.out]; rintro e w3 ⟨rfl, hb3⟩; have hP3 := F.out.1.below hb3; have hK3 := F.out.2.below (Nat.le_trans HB.out F.out.2.size) hb3) | (go_at_call 54; go_loud (refine (pg_str B pb (l ++ sb RB) _ w3 hP3 (Nat.le_trans HB.out hK3.size) (by have := HL.out; have := HLN.out; have := HSZ.out; have h32_ : (⟨#[32]⟩ : ByteArray).size = 1 := rfl; simp; omega)).mono ?_; rintro e w4 ⟨rfl, hP4, hK4⟩)) | (go_at_call 53; refine (pg_byte B pb _ 10 w4 hP4 (Nat.le_trans HB.out (Nat.le_trans hK3.size hK4.size)) (by have := HL.out; have := HLN.out; have := HSZ.out; have h32_ : (⟨#[32]⟩ : ByteArray).size = 1 := rfl; simp [sb_len]; have := HRS.out; omega)).mono ?_; rintro e w5 ⟨rfl, hP5, hK5⟩))
      (try simp only [Exit.inBlock, Exit.then])
      refine bodyPost_end (results_none rfl _ _ _) rfl ?_
      refine ⟨rfl, ?_, (hK3.trans hK4).trans hK5⟩
      rw [sb_app] at hP5
      have e32 : sb ⟨#[32]⟩ = [32] := rfl
      rw [e32] at hP5
      simpa using hP5
end Go.Proofs.YtnnnbeimehfiiaaDoor.Q
/-! mark.Write in plain Lean; what the walk needs of it. -/
set_option linter.unusedVariables false
set_option linter.unusedSimpArgs false
namespace Go.Proofs.YtnnnbeimehfiiaaDoor.Q
open Go Go.RowKit Go.Proofs.YtnnnbeimehfiiaaDoorW.PrintWords Go.Proofs.YtnnnbeimehfiiaaDoorW.SL
def wrReg (n : Nat) (s0 s1 s2 : ByteArray) (acc : List Int) (p : Pt) : List Int :=
  endNl (endNl (endNl (acc ++ mkLine 60 n s0 ++ p.s0) ++ mkLine 124 n s1 ++ p.s1) ++ mkLine 61 n ⟨#[]⟩ ++ p.s2) ++ mkLine 62 n s2
def wrPart (n : Nat) (s0 s1 s2 : ByteArray) (last : Bool) (acc : List Int) (p : Pt) : List Int :=
  if p.region then wrReg n s0 s1 s2 acc p else if last then acc ++ p.text else endNl (acc ++ p.text)
def wrAll (n : Nat) (s0 s1 s2 : ByteArray) : List Pt → List Int → List Int
  | [], acc => acc
  | p :: r, acc => wrAll n s0 s1 s2 r (wrPart n s0 s1 s2 r.isEmpty acc p)
def writeOf (n : Int) (s0 s1 s2 : ByteArray) (ps : List Pt) : List Int × Int :=
  if n ≥ 1 ∧ n ≤ 16777216 then (wrAll n.toNat s0 s1 s2 ps [], 0) else ([], 1)
theorem endNl_le (l : List Int) : (endNl l).length ≤ l.length + 1 := by
  rcases List.eq_nil_or_concat l with rfl | ⟨r, x, h⟩
  · simp [endNl_nil]
  · have h2 : l = r ++ [x] := by simpa using h
    subst h2
    rw [endNl_snoc]
    split <;> simp
theorem mkLine_le (x : UInt8) (n : Nat) (s : ByteArray) : (mkLine x n s).length ≤ n + 202 := by
  have h1 := labB_size s
  have h2 := sb_len (labB s)
  unfold mkLine
  split <;> simp <;> omega
theorem wrAll_next {n : Nat} {s0 s1 s2 : ByteArray} {ps : List Pt} {i : Nat} {p : Pt} {acc R : List Int} (h : wrAll n s0 s1 s2 (ps.drop i) acc = R) (hp : ps[i]? = some p) : wrAll n s0 s1 s2 (ps.drop (i + 1)) (wrPart n s0 s1 s2 (decide (i + 1 = ps.length)) acc p) = R := by
  have hlt := (List.getElem?_eq_some_iff.1 hp).1
  have hpe := (List.getElem?_eq_some_iff.1 hp).2
  rw [List.drop_eq_getElem_cons hlt, hpe] at h
  rw [← h]
  show _ = wrAll n s0 s1 s2 (ps.drop (i + 1)) (wrPart n s0 s1 s2 (ps.drop (i + 1)).isEmpty acc p)
  congr 2
  by_cases hi : i + 1 = ps.length
  · rw [List.drop_of_length_le (by omega)]; simp [hi]
  · have : ps.drop (i + 1) ≠ [] := by intro h; have := congrArg List.length h; simp at this; omega
    cases hd : ps.drop (i + 1) with
    | nil => exact absurd hd this
    | cons a r => simp [hi]
/-- The box of the part in hand: five cells. -/
def BoxP (g : Nat) (cs : Array Value) (w : World) : Prop := w.heap[g]? = some (.cells cs 50 (0, 0))
theorem BoxP.keep {g : Nat} {cs : Array Value} {w w' : World} (h : BoxP g cs w) (hb : Below w.heap.size w w') : BoxP g cs w' := by
  unfold BoxP at *
  rw [hb.block g (Array.getElem?_eq_some_iff.1 h).1]; exact h
theorem BoxP.pk {g B pb : Nat} {cs : Array Value} {w w' : World} (h : BoxP g cs w) (hg : g ≠ pb) (hk : Pk B pb w w') : BoxP g cs w' :=
  hk.2 g _ h (by intro e; injection e with e; exact hg e) (by intro c fz e; injection e with _ e _; exact absurd e (by decide))
theorem BoxP.cells {g : Nat} {a b c d e : Value} {w : World} (h : BoxP g #[a, b, c, d, e] w) : w.cell? ⟨g, 0, none⟩ = some a ∧ w.cell? ⟨g, 1, none⟩ = some b ∧ w.cell? ⟨g, 2, none⟩ = some c ∧ w.cell? ⟨g, 3, none⟩ = some d ∧ w.cell? ⟨g, 4, none⟩ = some e :=
  ⟨(blk_cell h 0).trans rfl, (blk_cell h 1).trans rfl, (blk_cell h 2).trans rfl, (blk_cell h 3).trans rfl, (blk_cell h 4).trans rfl⟩
theorem row_apart {w : World} {A : Option Addr} {xs : List Int} {m pb : Nat} (h : Kd.F B8 w (fun k => k < m) A xs.length xs) (hm : m ≤ pb) : xs ≠ [] → ∀ a, A = some a → a.block ≠ pb := by
  intro hx a ha
  subst ha
  have hl : 0 < xs.length := by cases xs with | nil => exact absurd rfl hx | cons _ _ => simp
  obtain ⟨a', cs, e, _, _, _, hok⟩ := Kd.F_get h 0 (0 : Int) (by omega) (by omega)
  injection e with e
  subst e
  have := hok (by decide)
  omega
/-- A page with a bound of its length. -/
def Pq (pb m : Nat) (l : List Int) (w : World) : Prop := Pg pb pb l w ∧ pb ≤ w.heap.size ∧ l.length ≤ m
theorem marker_st {pb m : Nat} {l : List Int} {w : World} (h : Pq pb m l w) (x : UInt8) (n : Nat) (s : ByteArray) (hn : n ≤ 16777216) (hs : s.size ≤ 9223372036854775807) (hm : m + 16777600 ≤ 140737488355328) :
    Calls Tryd.prog 36 #[.pointer (some ⟨pb, 0, none⟩), .string ⟨#[x]⟩, .int .i64 (n : Int), .string s] w fun e w' => e = .returned (.tuple #[]) ∧ Pq pb (m + 16777418) (l ++ mkLine x n s) w' ∧ Pk pb pb w w' := by
  refine (marker_calls pb pb l x n s w h.1 h.2.1 hn hs (by have := h.2.2; omega)).mono ?_
  rintro e w' ⟨rfl, h1, h2⟩
  exact ⟨rfl, ⟨h1, Nat.le_trans h.2.1 h2.size, by have := h.2.2; have := mkLine_le x n s; simp; omega⟩, h2⟩
theorem lines_st {pb m : Nat} {l : List Int} {w : World} (h : Pq pb m l w) (x : List Int) (A : Option Addr) (c : Nat) (hx : Kd.C B8 w A x.length x) (hA : x ≠ [] → ∀ a, A = some a → a.block ≠ pb) (hl : x.length ≤ 5000000) (hm : m + 5000001 ≤ 140737488355328) :
    Calls Tryd.prog 37 #[.pointer (some ⟨pb, 0, none⟩), .slice A x.length c] w fun e w' => e = .returned (.tuple #[]) ∧ Pq pb (m + 5000001) (endNl (l ++ x)) w' ∧ Pk pb pb w w' := by
  refine (lines_calls pb pb l x A c w h.1 h.2.1 hx hA (by have := h.2.2; omega)).mono ?_
  rintro e w' ⟨rfl, h1, h2⟩
  exact ⟨rfl, ⟨h1, Nat.le_trans h.2.1 h2.size, by have := h.2.2; have := endNl_le (l ++ x); simp at this ⊢; omega⟩, h2⟩
theorem write_st {pb m : Nat} {l : List Int} {w : World} (h : Pq pb m l w) (x : List Int) (A : Option Addr) (c : Nat) (hx : Kd.C B8 w A x.length x) (hA : x ≠ [] → ∀ a, A = some a → a.block ≠ pb) (hl : x.length ≤ 5000000) (hm : m + 5000001 ≤ 140737488355328) :
    Calls Tryd.prog 34 #[.pointer (some ⟨pb, 0, none⟩), .slice A x.length c] w fun e w' => e = .returned (.tuple #[.int .i64 (x.length : Int), .nilIface]) ∧ Pq pb (m + 5000001) (l ++ x) w' ∧ Pk pb pb w w' := by
  refine (pg_write pb pb l x A c w h.1 h.2.1 hx hA (by have := h.2.2; omega)).mono ?_
  rintro e w' ⟨rfl, h1, h2⟩
  exact ⟨rfl, ⟨h1, Nat.le_trans h.2.1 h2.size, by have := h.2.2; simp; omega⟩, h2⟩
theorem shut_st {pb m : Nat} {l : List Int} {w : World} (h : Pq pb m l w) (hm : m + 5000001 ≤ 140737488355328) :
    Calls Tryd.prog 35 #[.pointer (some ⟨pb, 0, none⟩)] w fun e w' => e = .returned (.tuple #[]) ∧ Pq pb (m + 1) (endNl l) w' ∧ Pk pb pb w w' := by
  refine (shut_calls pb pb l w h.1 h.2.1 (by have := h.2.2; omega)).mono ?_
  rintro e w' ⟨rfl, h1, h2⟩
  exact ⟨rfl, ⟨h1, Nat.le_trans h.2.1 h2.size, by have := h.2.2; have := endNl_le l; omega⟩, h2⟩
/-- What a round reads: the labels, the part in hand, the part's rows. -/
structure Rd3 (w wA w1 : World) (pb lb g : Nat) (s0 s1 s2 : ByteArray) (p : Pt) (A1 A2 A3 A4 : Option Addr) (c1 c2 c3 c4 : Nat) (W : World) : Prop where
  l0 : W.cell? ⟨lb, 0, none⟩ = some (.string s0)
  l1 : W.cell? ⟨lb, 1, none⟩ = some (.string s1)
  l2 : W.cell? ⟨lb, 2, none⟩ = some (.string s2)
  b0 : W.cell? ⟨g, 0, none⟩ = some (.bool p.region)
  b1 : W.cell? ⟨g, 1, none⟩ = some (.slice A1 p.text.length c1)
  b2 : W.cell? ⟨g, 2, none⟩ = some (.slice A2 p.s0.length c2)
  b3 : W.cell? ⟨g, 3, none⟩ = some (.slice A3 p.s1.length c3)
  b4 : W.cell? ⟨g, 4, none⟩ = some (.slice A4 p.s2.length c4)
  h1 : Kd.C B8 W A1 p.text.length p.text
  h2 : Kd.C B8 W A2 p.s0.length p.s0
  h3 : Kd.C B8 W A3 p.s1.length p.s1
  h4 : Kd.C B8 W A4 p.s2.length p.s2
  bA : Below pb wA W
theorem Rd3.of {w wA w1 : World} {pb lb g : Nat} {s0 s1 s2 : ByteArray} {p : Pt} {A1 A2 A3 A4 : Option Addr} {c1 c2 c3 c4 : Nat} (hl : wA.heap[lb]? = some (.cells #[.string s0, .string s1, .string s2] 39 (0, 0))) (hlb : lb < pb)
    (hbx : BoxP g #[.bool p.region, .slice A1 p.text.length c1, .slice A2 p.s0.length c2, .slice A3 p.s1.length c3, .slice A4 p.s2.length c4] w1) (hg : g ≠ pb) (hwp : w.heap.size ≤ pb) (h1 : Below pb wA w1)
    (g1 : Kd.F B8 w1 (fun k => k < w.heap.size) A1 p.text.length p.text) (g2 : Kd.F B8 w1 (fun k => k < w.heap.size) A2 p.s0.length p.s0) (g3 : Kd.F B8 w1 (fun k => k < w.heap.size) A3 p.s1.length p.s1) (g4 : Kd.F B8 w1 (fun k => k < w.heap.size) A4 p.s2.length p.s2) :
    ∀ W, Pk pb pb w1 W → Rd3 w wA w1 pb lb g s0 s1 s2 p A1 A2 A3 A4 c1 c2 c3 c4 W := fun W hk => by
  have hW : Below pb wA W := h1.trans hk.1
  have hL := (hW.block lb hlb).trans hl
  have hB := (hbx.pk hg hk).cells
  have st : ∀ k, k < w.heap.size → W.heap[k]? = w1.heap[k]? := fun k hk2 => hk.1.block k (by omega)
  exact ⟨(blk_cell hL 0).trans rfl, (blk_cell hL 1).trans rfl, (blk_cell hL 2).trans rfl, hB.1, hB.2.1, hB.2.2.1, hB.2.2.2.1, hB.2.2.2.2, Kd.F_now (Kd.F_step g1 (fun k hk _ => st k hk)), Kd.F_now (Kd.F_step g2 (fun k hk _ => st k hk)), Kd.F_now (Kd.F_step g3 (fun k hk _ => st k hk)), Kd.F_now (Kd.F_step g4 (fun k hk _ => st k hk)), hW⟩
end Go.Proofs.YtnnnbeimehfiiaaDoor.Q
-- Written by a program of this session (wip/mkprint.py, wip/pr.sh) for this claim; Lean checks it.
namespace Go.Proofs.YtnnnbeimehfiiaaDoor.Q
open Go.RowKit Go.Proofs.YtnnnbeimehfiiaaDoorW.PrintWords Go.Proofs.YtnnnbeimehfiiaaDoorW.PrintLast Go.Proofs.YtnnnbeimehfiiaaDoorW.PrintMore
attribute [local go_sem] max2_int min2_int max_two min_two max_three min_three max_four min_four   -- for this text's walks alone
set_option linter.unusedVariables false
set_option linter.unusedSimpArgs false
/-! ### mark_Length: function 16 -/
mutual
def mark_Length.j0 : Nat → Int → List (List Int) → Bool → Option (Int)
 | 0, _, _, _ => none
 | k + 1, x0, x1, x16 => if x16 = true then (mark_Length.j1 k 7 x1) else (mark_Length.j1 k x0 x1)
def mark_Length.j1 : Nat → Int → List (List Int) → Option (Int)
 | 0, _, _ => none
 | k + 1, x0, x1 => mark_Length.l0 k x0 x1 (x1.length : Int) 0
def mark_Length.l0 : Nat → Int → List (List Int) → Int → Int → Option (Int)
 | 0, _, _, _, _ => none
 | k + 1, x0, x17, x18, x19 => if x19 < x18 then (if 0 ≤ x19 then (if x19 < (x17.length : Int) then ((line_Split.f (rd_L1 x17 x19)).bind fun t151 => (mark_Length.l1 k x0 x17 x18 x19 t151 (t151.length : Int) 0)) else (none)) else (none)) else (some x0)
def mark_Length.l1 : Nat → Int → List (List Int) → Int → Int → List (List Int) → Int → Int → Option (Int)
 | 0, _, _, _, _, _, _, _ => none
 | k + 1, x0, x17, x18, x19, x24, x25, x26 => if x26 < x25 then (if 0 ≤ x26 then (if x26 < (x24.length : Int) then ((mark_signs.f k (rd_L1 x24 x26)).bind fun bt155 => (if bt155.1 > 0 then (mark_Length.l1 k (mx x0 (wrap64 (bt155.1 + 1))) x17 x18 x19 x24 x25 (wrap64 (x26 + 1))) else (mark_Length.l1 k x0 x17 x18 x19 x24 x25 (wrap64 (x26 + 1))))) else (none)) else (none)) else (mark_Length.l0 k x0 x17 x18 (wrap64 (x19 + 1)))
end
def mark_Length.f (k : Nat) (a0 : Int) (l1 : List (List Int)) : Option (Int) := if a0 < 1 then (mark_Length.j0 k a0 l1 true) else (mark_Length.j0 k a0 l1 (decide (a0 > 1000)))
theorem mark_Length.mono_l : ∀ k, (∀ y0 y1 y2, LeO (mark_Length.j0 k y0 y1 y2) (mark_Length.j0 (k + 1) y0 y1 y2)) ∧ (∀ y0 y1, LeO (mark_Length.j1 k y0 y1) (mark_Length.j1 (k + 1) y0 y1)) ∧ (∀ y0 y1 y2 y3, LeO (mark_Length.l0 k y0 y1 y2 y3) (mark_Length.l0 (k + 1) y0 y1 y2 y3)) ∧ (∀ y0 y1 y2 y3 y4 y5 y6, LeO (mark_Length.l1 k y0 y1 y2 y3 y4 y5 y6) (mark_Length.l1 (k + 1) y0 y1 y2 y3 y4 y5 y6))
 | 0 => ⟨fun _ _ _ r h => by simp [mark_Length.j0] at h, fun _ _ r h => by simp [mark_Length.j1] at h, fun _ _ _ _ r h => by simp [mark_Length.l0] at h, fun _ _ _ _ _ _ _ r h => by simp [mark_Length.l1] at h⟩
 | k + 1 => by
  obtain ⟨ih0, ih1, ih2, ih3⟩ := mark_Length.mono_l k
  refine ⟨?_, ?_, ?_, ?_⟩
  ·intro y0 y1 y2
   unfold mark_Length.j0
   repeat' first
   | (with_reducible exact ih0 _ _ _)
   | (with_reducible exact ih1 _ _)
   | (with_reducible exact ih2 _ _ _ _)
   | (with_reducible exact ih3 _ _ _ _ _ _ _)
   | (with_reducible exact mark_signs.mono _ _)
   | (with_reducible exact LeO.refl _)
   | (with_reducible exact LeO.none _)
   | (with_reducible refine LeO.ite ?_ ?_)
   | (with_reducible refine LeO.bind ?_ (fun _ => ?_))
   | exact ih0 _ _ _
   | exact ih1 _ _
   | exact ih2 _ _ _ _
   | exact ih3 _ _ _ _ _ _ _
   | exact mark_signs.mono _ _
   | exact LeO.none _
   | refine LeO.ite ?_ ?_
   | refine LeO.bind ?_ (fun _ => ?_)
  ·intro y0 y1
   unfold mark_Length.j1
   repeat' first
   | (with_reducible exact ih0 _ _ _)
   | (with_reducible exact ih1 _ _)
   | (with_reducible exact ih2 _ _ _ _)
   | (with_reducible exact ih3 _ _ _ _ _ _ _)
   | (with_reducible exact mark_signs.mono _ _)
   | (with_reducible exact LeO.refl _)
   | (with_reducible exact LeO.none _)
   | (with_reducible refine LeO.ite ?_ ?_)
   | (with_reducible refine LeO.bind ?_ (fun _ => ?_))
   | exact ih0 _ _ _
   | exact ih1 _ _
   | exact ih2 _ _ _ _
   | exact ih3 _ _ _ _ _ _ _
   | exact mark_signs.mono _ _
   | exact LeO.none _
   | refine LeO.ite ?_ ?_
   | refine LeO.bind ?_ (fun _ => ?_)
  ·intro y0 y1 y2 y3
   unfold mark_Length.l0
   repeat' first
   | (with_reducible exact ih0 _ _ _)
   | (with_reducible exact ih1 _ _)
   | (with_reducible exact ih2 _ _ _ _)
   | (with_reducible exact ih3 _ _ _ _ _ _ _)
   | (with_reducible exact mark_signs.mono _ _)
   | (with_reducible exact LeO.refl _)
   | (with_reducible exact LeO.none _)
   | (with_reducible refine LeO.ite ?_ ?_)
   | (with_reducible refine LeO.bind ?_ (fun _ => ?_))
   | exact ih0 _ _ _
   | exact ih1 _ _
   | exact ih2 _ _ _ _
   | exact ih3 _ _ _ _ _ _ _
   | exact mark_signs.mono _ _
   | exact LeO.none _
   | refine LeO.ite ?_ ?_
   | refine LeO.bind ?_ (fun _ => ?_)
  ·intro y0 y1 y2 y3 y4 y5 y6
   unfold mark_Length.l1
   repeat' first
   | (with_reducible exact ih0 _ _ _)
   | (with_reducible exact ih1 _ _)
   | (with_reducible exact ih2 _ _ _ _)
   | (with_reducible exact ih3 _ _ _ _ _ _ _)
   | (with_reducible exact mark_signs.mono _ _)
   | (with_reducible exact LeO.refl _)
   | (with_reducible exact LeO.none _)
   | (with_reducible refine LeO.ite ?_ ?_)
   | (with_reducible refine LeO.bind ?_ (fun _ => ?_))
   | exact ih0 _ _ _
   | exact ih1 _ _
   | exact ih2 _ _ _ _
   | exact ih3 _ _ _ _ _ _ _
   | exact mark_signs.mono _ _
   | exact LeO.none _
   | refine LeO.ite ?_ ?_
   | refine LeO.bind ?_ (fun _ => ?_)
theorem mark_Length.mono : ∀ a0 a1 k, LeO (mark_Length.f k a0 a1) (mark_Length.f (k + 1) a0 a1) := by
 intro a0 a1 k
 obtain ⟨ih0, ih1, ih2, ih3⟩ := mark_Length.mono_l k
 unfold mark_Length.f
 repeat' first
   | (with_reducible exact ih0 _ _ _)
   | (with_reducible exact ih1 _ _)
   | (with_reducible exact ih2 _ _ _ _)
   | (with_reducible exact ih3 _ _ _ _ _ _ _)
   | (with_reducible exact mark_signs.mono _ _)
   | (with_reducible exact LeO.refl _)
   | (with_reducible exact LeO.none _)
   | (with_reducible refine LeO.ite ?_ ?_)
   | (with_reducible refine LeO.bind ?_ (fun _ => ?_))
   | exact ih0 _ _ _
   | exact ih1 _ _
   | exact ih2 _ _ _ _
   | exact ih3 _ _ _ _ _ _ _
   | exact mark_signs.mono _ _
   | exact LeO.none _
   | refine LeO.ite ?_ ?_
   | refine LeO.bind ?_ (fun _ => ?_)
set_option maxHeartbeats 8000000 in
set_option maxRecDepth 100000 in
theorem mark_Length.calls (k : Nat) (a0 : Int) (A1 : Option Addr) (c1 : Nat) (l1 : List (List Int)) (r : Int) (w : World) (hr1 : Kd.C (Kd.slice 5 (Kd.int .u8)) w A1 l1.length l1) (hc1 : l1.length ≤ c1) (h : mark_Length.f k a0 l1 = some r) :
  Calls Tryd.prog 16 #[.int .i64 a0, .slice A1 l1.length c1] w fun e w' => e = .returned (.int .i64 r) ∧ Below w.heap.size w w' := by
 have HR1 := Aside0.mk hr1
 have HC1 := Aside0.mk hc1
 clear hr1 hc1
 have HB := Aside0.mk (Below.refl w.heap.size w)
 have H : (if a0 < 1 then (mark_Length.j0 k a0 l1 true) else (mark_Length.j0 k a0 l1 (decide (a0 > 1000)))) = some r := h
 clear h
 have HC3 := Aside0.mk H
 clear H
 go_enter Tryd.func16, Tryd.ntmps16
 go_upto_region 1 with (fail)
 go_cut [16] (fun v16 wc => ∃ (kq : Nat) (x16_2 : Bool), v16 = .bool x16_2 ∧ Aside0 (mark_Length.j0 kq a0 l1 x16_2 = some r) ∧ Aside0 (kq ≤ k) ∧ Aside0 (Below w.heap.size w wc))
 case first =>
  have H := HC3.out
  clear HC3
  by_cases c4 : a0 < 1
  ·rw [if_pos c4] at H
   have c4b0 : decide (a0 < 1) = true := decide_eq_true c4
   clear c4
   (first | rw [c4b0] | (simp only [i64_w, i32_w]; rw [c4b0]) | skip)
   have H' := Aside0.mk H
   clear H
   go_wp2
   go_meet
   case rel => exact ⟨_, (true), (by first | rfl | (simp; done) | (simp [*]; done)), H', ⟨by first | omega | exact Nat.le_refl _⟩, ⟨by repeat (first | (with_reducible first | exact HB.out | apply below_alloc | apply pw_below_drewN | apply below_drew1) | exact HB.out)⟩⟩
  ·rw [if_neg c4] at H
   have c4b0 : decide (a0 < 1) = false := decide_eq_false c4
   clear c4
   (first | rw [c4b0] | (simp only [i64_w, i32_w]; rw [c4b0]) | skip)
   have H' := Aside0.mk H
   clear H
   go_wp2
   go_meet
   case rel => exact ⟨_, (decide (a0 > 1000)), (by first | rfl | (simp; done) | (simp [*]; done)), H', ⟨by first | omega | exact Nat.le_refl _⟩, ⟨by repeat (first | (with_reducible first | exact HB.out | apply below_alloc | apply pw_below_drewN | apply below_drew1) | exact HB.out)⟩⟩
 case rest =>
  clear HC3
  try clear c1
  try clear p2
  try clear c4
  try clear c4b0
  obtain ⟨kq, x16_2, rfl, HA, HJ2, HB⟩ := hcut
  cases kq with
  | zero => exact absurd HA.out (by simp [mark_Length.j0])
  | succ kj2 =>
   have H := HA.out
   clear HA
   simp only [mark_Length.j0] at H
   have HC5 := Aside0.mk H
   clear H
   go_upto_if 16 with (fail)
   go_cut [0] (fun v0 wc => ∃ (kq : Nat) (x0_4 : Int), v0 = .int .i64 x0_4 ∧ Aside0 (mark_Length.j1 kq x0_4 l1 = some r) ∧ Aside0 (kq ≤ kj2) ∧ Aside0 (Below w.heap.size w wc))
   case first =>
    have H := HC5.out
    clear HC5
    by_cases c6 : x16_2 = true
    ·subst c6
     have H1 : (mark_Length.j1 kj2 7 l1) = some r := by rw [if_pos rfl] at H; exact H
     clear H
     have H := H1
     clear H1
     have H' := Aside0.mk H
     clear H
     go_wp2
     go_meet
     case rel => exact ⟨_, (7), (by first | rfl | (simp; done) | (simp [*]; done)), H', ⟨by have := HJ2.out; first | omega | exact Nat.le_refl _⟩, ⟨by repeat (first | (with_reducible first | exact HB.out | apply below_alloc | apply pw_below_drewN | apply below_drew1) | exact HB.out)⟩⟩
    ·replace c6 := Bool.eq_false_iff.mpr c6
     subst c6
     have H1 : (mark_Length.j1 kj2 a0 l1) = some r := by rw [if_neg (show ¬ (false = true) by decide)] at H; exact H
     clear H
     have H := H1
     clear H1
     have H' := Aside0.mk H
     clear H
     go_wp2
     go_meet
     case rel => exact ⟨_, (a0), (by first | rfl | (simp; done) | (simp [*]; done)), H', ⟨by have := HJ2.out; first | omega | exact Nat.le_refl _⟩, ⟨by repeat (first | (with_reducible first | exact HB.out | apply below_alloc | apply pw_below_drewN | apply below_drew1) | exact HB.out)⟩⟩
   case rest =>
    clear HC5
    try clear c1
    try clear p2
    try clear c4
    try clear c4b0
    try clear c6
    try clear p2
    obtain ⟨kq, x0_4, rfl, HA, HJ4, HB⟩ := hcut
    cases kq with
    | zero => exact absurd HA.out (by simp [mark_Length.j1])
    | succ kj4 =>
     have H := HA.out
     clear HA
     simp only [mark_Length.j1] at H
     have H' := Aside0.mk H
     clear H
     go_wp2
     go_loopg [0, 19] kj4 (fun kq v0 v19 w' => ∃ (x0_3 : Int) (x19_3 : Int), v0 = .int .i64 x0_3 ∧ v19 = .int .i64 x19_3 ∧ Aside0 (mark_Length.l0 kq x0_3 l1 (l1.length : Int) x19_3 = some r) ∧ Aside0 (kq ≤ kj4) ∧ Aside0 (Below w.heap.size w w'))
     case atStart => exact ⟨(x0_4), (0), (by first | rfl | (simp; done) | (simp [*]; done)), (by first | rfl | (simp; done) | (simp [*]; done)), H', ⟨Nat.le_refl _⟩, ⟨by repeat (first | (with_reducible first | exact HB.out | apply below_alloc | apply pw_below_drewN | apply below_drew1) | exact HB.out)⟩⟩
     case round =>
      clear H'
      try clear c1
      try clear p2
      try clear c4
      try clear c4b0
      try clear c6
      try clear p2
      obtain ⟨x0_3, x19_3, rfl, rfl, HA, HK3, HB⟩ := hrel
      cases gk with
      | zero => exact absurd HA.out (by simp [mark_Length.l0])
      | succ k3 =>
       have H := HA.out
       clear HA
       simp only [mark_Length.l0] at H
       by_cases c7 : x19_3 < (l1.length : Int)
       ·rw [if_pos c7] at H
        have c7b0 : decide (x19_3 < (l1.length : Int)) = true := decide_eq_true c7
        clear c7
        by_cases c8 : 0 ≤ x19_3
        ·rw [if_pos c8] at H
         have c8b0 : decide (0 ≤ x19_3) = true := decide_eq_true c8
         clear c8
         by_cases c9 : x19_3 < (l1.length : Int)
         ·rw [if_pos c9] at H
          have c9b0 : decide (x19_3 < (l1.length : Int)) = true := decide_eq_true c9
          clear c9
          replace H := Option.bind_eq_some_iff.mp H
          obtain ⟨t151, A100, H⟩ := H
          replace H : (mark_Length.l1 k3 x0_3 l1 (l1.length : Int) x19_3 t151 (t151.length : Int) 0) = some r := H
          have A10 := Aside0.mk A100
          clear A100
          have H' := Aside0.mk H
          clear H
          have p150 : 0 ≤ (x19_3 : Int) := of_decide_eq_true (by first | (with_reducible assumption) | assumption)
          have q150 : x19_3 < (l1.length : Int) := of_decide_eq_true (by first | (with_reducible assumption) | assumption)
          obtain ⟨ad150, A150_0, c150_0, e150, hx150_0, hl150_0, hi150_0⟩ := at_L1 HR1.out x19_3 p150 q150
          cases e150
          replace hx150_0 := (HB.out.cell (World.block_lt_of_cell? w _ hx150_0)).trans hx150_0
          have HR150_0 := Aside0.mk hi150_0
          have HC150_0 := Aside0.mk hl150_0
          clear hi150_0 hl150_0
          replace p150 := eq_true p150
          replace q150 := eq_true q150
          go_wp2_with (first | ((with_reducible refine gate_callee (f := 25) rfl ?_); refine goesL_ (some 24) rfl rfl Tryd.func25 (by kernel_rfl) rfl #[.slice A150_0 (rd_L1 l1 x19_3).length c150_0] rfl (by (try simp only [List.map_toArray, List.map_cons, List.map_nil]); first | done | rfl | (simp only [List.length_drop, List.length_take]; rfl)) ?_; (with_reducible refine (line_Split.calls _ _ (rd_L1 l1 x19_3) t151 _ ?side1 ?side2 A10.out).mono ?_); (case side1 => repeat (first | exact (Kd.C_below HR150_0.out HB.out) | (with_reducible refine Kd.C_alloc ?_ _) | (with_reducible refine Kd.C_drewN ?_ _) | (with_reducible refine Kd.C_drew ?_))); (case side2 => exact HC150_0.out); rintro e w11 ⟨v152, rfl, ho0, hb⟩; refine ⟨_, rfl, ?_⟩; have n0_ := Aside0.mk (Kd.N_lower (Kd.N_mono (ok' := fun k_ => True) ho0 (fun k_ hk_ => trivial)) (below_size (by repeat (first | (with_reducible first | exact HB.out | apply below_alloc | apply pw_below_drewN | apply below_drew1) | exact HB.out)))); have n1_ := Aside0.mk (below_step (by repeat (first | (with_reducible first | exact HB.out | apply below_alloc | apply pw_below_drewN | apply below_drew1) | exact HB.out)) hb); clear HB; have HO153 := n0_; have HB := n1_; clear n0_ n1_; (try clear hb); (try clear hb2); (try clear hk); (try clear hi); (try clear ho0); obtain ⟨Ao12, co12, eo12⟩ := Kd.N_slice HO153.out; subst eo12))
          go_loopg [0, 26] k3 (fun kq v0 v26 w' => ∃ (x0_4 : Int) (x26_4 : Int), v0 = .int .i64 x0_4 ∧ v26 = .int .i64 x26_4 ∧ Aside0 (mark_Length.l1 kq x0_4 l1 (l1.length : Int) x19_3 t151 (t151.length : Int) x26_4 = some r) ∧ Aside0 (kq ≤ k3) ∧ Aside0 (Kd.N (Kd.slice 5 (Kd.int .u8)) 22 w' w.heap.size (fun _ => True) (.slice Ao12 t151.length co12) t151) ∧ Aside0 (Below w.heap.size w w'))
          case atStart => exact ⟨(x0_3), (0), (by first | rfl | (simp; done) | (simp [*]; done)), (by first | rfl | (simp; done) | (simp [*]; done)), H', ⟨Nat.le_refl _⟩, ⟨by (with_reducible repeat (first | apply Kd.N_alloc | apply Kd.N_drewN | apply Kd.N_drew)); exact HO153.out⟩, ⟨by repeat (first | (with_reducible first | exact HB.out | apply below_alloc | apply pw_below_drewN | apply below_drew1) | exact HB.out)⟩⟩
          case round =>
           clear H'
           try clear c1
           try clear p1
           try clear q1
           try clear hx1
           try clear c2
           try clear p2
           try clear c4
           try clear c4b0
           try clear c6
           try clear c7
           try clear c7b0
           try clear c8
           try clear c8b0
           try clear c9
           try clear c9b0
           try clear hx150_0
           try clear p150
           try clear p2
           try clear q150
           obtain ⟨x0_4, x26_4, rfl, rfl, HA, HK4, HO_24, HB⟩ := hrel
           cases gk with
           | zero => exact absurd HA.out (by simp [mark_Length.l1])
           | succ k4 =>
            have H := HA.out
            clear HA
            simp only [mark_Length.l1] at H
            by_cases c13 : x26_4 < (t151.length : Int)
            ·rw [if_pos c13] at H
             have c13b0 : decide (x26_4 < (t151.length : Int)) = true := decide_eq_true c13
             clear c13
             by_cases c14 : 0 ≤ x26_4
             ·rw [if_pos c14] at H
              have c14b0 : decide (0 ≤ x26_4) = true := decide_eq_true c14
              clear c14
              by_cases c15 : x26_4 < (t151.length : Int)
              ·rw [if_pos c15] at H
               have c15b0 : decide (x26_4 < (t151.length : Int)) = true := decide_eq_true c15
               clear c15
               replace H := Option.bind_eq_some_iff.mp H
               obtain ⟨⟨t155, t156⟩, A160, H⟩ := H
               replace H : (if t155 > 0 then (mark_Length.l1 k4 (mx x0_4 (wrap64 (t155 + 1))) l1 (l1.length : Int) x19_3 t151 (t151.length : Int) (wrap64 (x26_4 + 1))) else (mark_Length.l1 k4 x0_4 l1 (l1.length : Int) x19_3 t151 (t151.length : Int) (wrap64 (x26_4 + 1)))) = some r := H
               have A16 := Aside0.mk A160
               clear A160
               by_cases c17 : t155 > 0
               ·rw [if_pos c17] at H
                have c17b0 : decide (0 < t155) = true := decide_eq_true c17
                clear c17
                obtain ⟨ji18, hji18⟩ : ∃ j_ : Int, (mx x0_4 (wrap64 (t155 + 1))) = j_ := ⟨_, rfl⟩
                replace H : (mark_Length.l1 k4 ji18 l1 (l1.length : Int) x19_3 t151 (t151.length : Int) (wrap64 (x26_4 + 1))) = some r := by first | (rw [hji18] at H; exact H) | (simp only [hji18] at H ⊢; exact H)
                (try rw [hji18] at A16)
                have hji18_ : (if x0_4 < (wrap64 (t155 + 1)) then (wrap64 (t155 + 1)) else x0_4) = ji18 := hji18
                have H' := Aside0.mk H
                clear H
                have p154 : 0 ≤ (x26_4 : Int) := of_decide_eq_true (by first | (with_reducible assumption) | assumption)
                have q154 : x26_4 < (t151.length : Int) := of_decide_eq_true (by first | (with_reducible assumption) | assumption)
                obtain ⟨ad154, A154_0, c154_0, e154, hx154_0, hl154_0, hi154_0⟩ := at_L1 (Kd.N_reads' HO_24.out).2.2 x26_4 p154 q154
                cases e154
                obtain ⟨ce154, hce154, hMe154, hcc154⟩ := Kd.N_get HO_24.out [] x26_4 p154 (by first | exact q154 | exact of_decide_eq_true (by first | (with_reducible assumption) | assumption) | (have e_ := (Kd.N_reads' HO_24.out).1; omega))
                obtain ⟨ua154_0, uc154_0, rfl, ul154_0, ge154_0⟩ := Kd.FK_slice_open hMe154
                have hv154_0 := hcc154 0 _ rfl
                rw [Nat.add_zero, show ((Kd.slice 5 (Kd.int .u8))).sz = 1 from rfl, Nat.mul_one] at hv154_0
                replace hv154_0 := Option.some.inj (hv154_0.symm.trans hx154_0)
                injection hv154_0 with hva_ hvn_ hvc_
                rw [hva_] at ge154_0
                rw [hvc_] at ul154_0
                have HL154_0 := Aside0.mk (show Kd.V (Kd.int .u8) 5 _ w.heap.size _ _ (rd_L1 t151 x26_4) from Kd.V_mk ul154_0 ge154_0)
                clear hva_ hvn_ hvc_ ge154_0 ul154_0
                clear hcc154 hce154
                have HR154_0 := Aside0.mk hi154_0
                have HC154_0 := Aside0.mk hl154_0
                clear hi154_0 hl154_0
                replace p154 := eq_true p154
                replace q154 := eq_true q154
                go_wp2_with (first | ((with_reducible refine gate_callee (f := 31) rfl ?_); refine goesL_ (some 32) rfl rfl Tryd.func31 (by kernel_rfl) rfl #[.slice A154_0 (rd_L1 t151 x26_4).length c154_0] rfl (by (try simp only [List.map_toArray, List.map_cons, List.map_nil]); first | done | rfl | (simp only [List.length_drop, List.length_take]; rfl)) ?_; (with_reducible refine (mark_signs.calls k4 _ _ (rd_L1 t151 x26_4) t155 t156 _ ?side1 ?side2 A16.out).mono ?_); (case side1 => repeat (first | exact (by repeat (first | (with_reducible exact HR154_0.out) | (with_reducible refine Kd.C_alloc ?_ _) | (with_reducible refine Kd.C_drewN ?_ _) | (with_reducible refine Kd.C_drew ?_) | exact HR154_0.out)) | (with_reducible refine Kd.C_alloc ?_ _) | (with_reducible refine Kd.C_drewN ?_ _) | (with_reducible refine Kd.C_drew ?_))); (case side2 => exact HC154_0.out); rintro e w19 ⟨rfl, hb⟩; refine ⟨_, rfl, ?_⟩; have n0_ := Aside0.mk (Kd.N_below (by (with_reducible repeat (first | apply Kd.N_alloc | apply Kd.N_drewN | apply Kd.N_drew)); exact HO_24.out) hb); have n1_ := Aside0.mk (Kd.V_below (by (with_reducible repeat (first | apply Kd.V_alloc | apply Kd.V_drewN | apply Kd.V_drew)); exact HL154_0.out) hb); have n2_ := Aside0.mk (Kd.C_below (by repeat (first | (with_reducible exact HR154_0.out) | (with_reducible refine Kd.C_alloc ?_ _) | (with_reducible refine Kd.C_drewN ?_ _) | (with_reducible refine Kd.C_drew ?_) | exact HR154_0.out)) hb); have n3_ := Aside0.mk (below_step (by repeat (first | (with_reducible first | exact HB.out | apply below_alloc | apply pw_below_drewN | apply below_drew1) | exact HB.out)) hb); clear HO_24; clear HL154_0; clear HR154_0; clear HB; have HO_24 := n0_; have HL154_0 := n1_; have HR154_0 := n2_; have HB := n3_; clear n0_ n1_ n2_ n3_; (try clear hb); (try clear hb2); (try clear hk); (try clear hi)))
                go_roundg k4
                case measure => have := HJ2.out; have := HJ4.out; have := HK3.out; have := HK4.out; omega
                case rel => exact ⟨(ji18), (wrap64 (x26_4 + 1)), (by first | rfl | (simp; done) | (simp only [← hji18] <;> (first | rfl | simp)) | (simp [*]; done)), (by first | rfl | (simp; done) | (simp [*]; done)), H', ⟨by have := HJ2.out; have := HJ4.out; have := HK3.out; have := HK4.out; omega⟩, ⟨by (with_reducible repeat (first | apply Kd.N_alloc | apply Kd.N_drewN | apply Kd.N_drew)); exact HO_24.out⟩, ⟨by repeat (first | (with_reducible first | exact HB.out | apply below_alloc | apply pw_below_drewN | apply below_drew1) | exact HB.out)⟩⟩
               ·rw [if_neg c17] at H
                have c17b0 : decide (0 < t155) = false := decide_eq_false c17
                clear c17
                have H' := Aside0.mk H
                clear H
                (try clear hx154_0)
                (repeat (first | clear HS0_ | clear HS1_ | clear HS2_ | clear HS3_ | clear HS4_ | clear HS5_ | clear HS6_ | clear HS7_ | clear HS8_ | clear HS9_ | clear HS10_ | clear HS11_ | clear HS12_ | clear HS13_ | clear HS14_ | clear HS15_ | clear HS16_ | clear HS17_ | clear HS18_ | clear HS19_ | clear HS20_ | clear HS21_ | clear HS22_ | clear HS23_))
                (try clear hHeld)
                have p154 : 0 ≤ (x26_4 : Int) := of_decide_eq_true (by first | (with_reducible assumption) | assumption)
                have q154 : x26_4 < (t151.length : Int) := of_decide_eq_true (by first | (with_reducible assumption) | assumption)
                obtain ⟨ad154, A154_0, c154_0, e154, hx154_0, hl154_0, hi154_0⟩ := at_L1 (Kd.N_reads' HO_24.out).2.2 x26_4 p154 q154
                cases e154
                obtain ⟨ce154, hce154, hMe154, hcc154⟩ := Kd.N_get HO_24.out [] x26_4 p154 (by first | exact q154 | exact of_decide_eq_true (by first | (with_reducible assumption) | assumption) | (have e_ := (Kd.N_reads' HO_24.out).1; omega))
                obtain ⟨ua154_0, uc154_0, rfl, ul154_0, ge154_0⟩ := Kd.FK_slice_open hMe154
                have hv154_0 := hcc154 0 _ rfl
                rw [Nat.add_zero, show ((Kd.slice 5 (Kd.int .u8))).sz = 1 from rfl, Nat.mul_one] at hv154_0
                replace hv154_0 := Option.some.inj (hv154_0.symm.trans hx154_0)
                injection hv154_0 with hva_ hvn_ hvc_
                rw [hva_] at ge154_0
                rw [hvc_] at ul154_0
                have HL154_0 := Aside0.mk (show Kd.V (Kd.int .u8) 5 _ w.heap.size _ _ (rd_L1 t151 x26_4) from Kd.V_mk ul154_0 ge154_0)
                clear hva_ hvn_ hvc_ ge154_0 ul154_0
                clear hcc154 hce154
                have HR154_0 := Aside0.mk hi154_0
                have HC154_0 := Aside0.mk hl154_0
                clear hi154_0 hl154_0
                replace p154 := eq_true p154
                replace q154 := eq_true q154
                go_wp2_with (first | ((with_reducible refine gate_callee (f := 31) rfl ?_); refine goesL_ (some 32) rfl rfl Tryd.func31 (by kernel_rfl) rfl #[.slice A154_0 (rd_L1 t151 x26_4).length c154_0] rfl (by (try simp only [List.map_toArray, List.map_cons, List.map_nil]); first | done | rfl | (simp only [List.length_drop, List.length_take]; rfl)) ?_; (with_reducible refine (mark_signs.calls k4 _ _ (rd_L1 t151 x26_4) t155 t156 _ ?side1 ?side2 A16.out).mono ?_); (case side1 => repeat (first | exact (by repeat (first | (with_reducible exact HR154_0.out) | (with_reducible refine Kd.C_alloc ?_ _) | (with_reducible refine Kd.C_drewN ?_ _) | (with_reducible refine Kd.C_drew ?_) | exact HR154_0.out)) | (with_reducible refine Kd.C_alloc ?_ _) | (with_reducible refine Kd.C_drewN ?_ _) | (with_reducible refine Kd.C_drew ?_))); (case side2 => exact HC154_0.out); rintro e w20 ⟨rfl, hb⟩; refine ⟨_, rfl, ?_⟩; have n0_ := Aside0.mk (Kd.N_below (by (with_reducible repeat (first | apply Kd.N_alloc | apply Kd.N_drewN | apply Kd.N_drew)); exact HO_24.out) hb); have n1_ := Aside0.mk (Kd.V_below (by (with_reducible repeat (first | apply Kd.V_alloc | apply Kd.V_drewN | apply Kd.V_drew)); exact HL154_0.out) hb); have n2_ := Aside0.mk (Kd.C_below (by repeat (first | (with_reducible exact HR154_0.out) | (with_reducible refine Kd.C_alloc ?_ _) | (with_reducible refine Kd.C_drewN ?_ _) | (with_reducible refine Kd.C_drew ?_) | exact HR154_0.out)) hb); have n3_ := Aside0.mk (below_step (by repeat (first | (with_reducible first | exact HB.out | apply below_alloc | apply pw_below_drewN | apply below_drew1) | exact HB.out)) hb); clear HO_24; clear HL154_0; clear HR154_0; clear HB; have HO_24 := n0_; have HL154_0 := n1_; have HR154_0 := n2_; have HB := n3_; clear n0_ n1_ n2_ n3_; (try clear hb); (try clear hb2); (try clear hk); (try clear hi)))
                go_roundg k4
                case measure => have := HJ2.out; have := HJ4.out; have := HK3.out; have := HK4.out; omega
                case rel => exact ⟨(x0_4), (wrap64 (x26_4 + 1)), (by first | rfl | (simp; done) | (simp [*]; done)), (by first | rfl | (simp; done) | (simp [*]; done)), H', ⟨by have := HJ2.out; have := HJ4.out; have := HK3.out; have := HK4.out; omega⟩, ⟨by (with_reducible repeat (first | apply Kd.N_alloc | apply Kd.N_drewN | apply Kd.N_drew)); exact HO_24.out⟩, ⟨by repeat (first | (with_reducible first | exact HB.out | apply below_alloc | apply pw_below_drewN | apply below_drew1) | exact HB.out)⟩⟩
              ·rw [if_neg c15] at H
               exact absurd H (by simp)
             ·rw [if_neg c14] at H
              exact absurd H (by simp)
            ·rw [if_neg c13] at H
             have c13b0 : decide (x26_4 < (t151.length : Int)) = false := decide_eq_false c13
             clear c13
             have H' := Aside0.mk H
             clear H
             go_wp2
             go_roundg k4
             case measure => have := HJ2.out; have := HJ4.out; have := HK3.out; have := HK4.out; omega
             case rel => exact ⟨(x0_4), (wrap64 (x19_3 + 1)), (by first | rfl | (simp; done) | (simp [*]; done)), (by first | rfl | (simp; done) | (simp [*]; done)), H', ⟨by have := HJ2.out; have := HJ4.out; have := HK3.out; have := HK4.out; omega⟩, ⟨by repeat (first | (with_reducible first | exact HB.out | apply below_alloc | apply pw_below_drewN | apply below_drew1) | exact HB.out)⟩⟩
         ·rw [if_neg c9] at H
          exact absurd H (by simp)
        ·rw [if_neg c8] at H
         exact absurd H (by simp)
       ·rw [if_neg c7] at H
        have c7b0 : decide (x19_3 < (l1.length : Int)) = false := decide_eq_false c7
        clear c7
        obtain rfl := Option.some.inj H
        go_wp2
        go_ret
        exact ⟨by first | rfl | (simp [errW_none, errW_some] <;> rfl) | (simp [*, errW_none, errW_some] <;> rfl), by repeat (first | (with_reducible first | exact HB.out | apply below_alloc | apply pw_below_drewN | apply below_drew1) | exact HB.out)⟩
/-! ### scarfref18_Length: function 17 -/
mutual
def scarfref18_Length.j0 : Nat → Int → List (List Int) → Int → Bool → Option (Int)
 | 0, _, _, _, _ => none
 | k + 1, x0, x1, x5, x15 => if x15 = true then (scarfref18_Length.j1 k x1 x0) else (scarfref18_Length.j1 k x1 x5)
def scarfref18_Length.j1 : Nat → List (List Int) → Int → Option (Int)
 | 0, _, _ => none
 | k + 1, x1, x5 => scarfref18_Length.l0 k x1 x5 0
def scarfref18_Length.l0 : Nat → List (List Int) → Int → Int → Option (Int)
 | 0, _, _, _ => none
 | k + 1, x1, x5, x6 => if x6 < (x1.length : Int) then (if 0 ≤ x6 then ((scarfref02_Split.f k (rd_L1 x1 x6)).bind fun t158 => (scarfref18_Length.l1 k x1 x5 x6 t158 0)) else (none)) else (some x5)
def scarfref18_Length.l1 : Nat → List (List Int) → Int → Int → List (List Int) → Int → Option (Int)
 | 0, _, _, _, _, _ => none
 | k + 1, x1, x5, x6, x7, x8 => if x8 < (x7.length : Int) then (if 0 ≤ x8 then ((scarfref18_runs.f k (rd_L1 x7 x8)).bind fun t162 => (if t162 > 0 then (if t162 ≥ x5 then (scarfref18_Length.l1 k x1 (wrap64 (t162 + 1)) x6 x7 (wrap64 (x8 + 1))) else (scarfref18_Length.l1 k x1 x5 x6 x7 (wrap64 (x8 + 1)))) else (scarfref18_Length.l1 k x1 x5 x6 x7 (wrap64 (x8 + 1))))) else (none)) else (scarfref18_Length.l0 k x1 x5 (wrap64 (x6 + 1)))
end
def scarfref18_Length.f (k : Nat) (a0 : Int) (l1 : List (List Int)) : Option (Int) := if a0 ≥ 1 then (scarfref18_Length.j0 k a0 l1 7 (decide (a0 ≤ 1000))) else (scarfref18_Length.j0 k a0 l1 7 false)
theorem scarfref18_Length.mono_l : ∀ k, (∀ y0 y1 y2 y3, LeO (scarfref18_Length.j0 k y0 y1 y2 y3) (scarfref18_Length.j0 (k + 1) y0 y1 y2 y3)) ∧ (∀ y0 y1, LeO (scarfref18_Length.j1 k y0 y1) (scarfref18_Length.j1 (k + 1) y0 y1)) ∧ (∀ y0 y1 y2, LeO (scarfref18_Length.l0 k y0 y1 y2) (scarfref18_Length.l0 (k + 1) y0 y1 y2)) ∧ (∀ y0 y1 y2 y3 y4, LeO (scarfref18_Length.l1 k y0 y1 y2 y3 y4) (scarfref18_Length.l1 (k + 1) y0 y1 y2 y3 y4))
 | 0 => ⟨fun _ _ _ _ r h => by simp [scarfref18_Length.j0] at h, fun _ _ r h => by simp [scarfref18_Length.j1] at h, fun _ _ _ r h => by simp [scarfref18_Length.l0] at h, fun _ _ _ _ _ r h => by simp [scarfref18_Length.l1] at h⟩
 | k + 1 => by
  obtain ⟨ih0, ih1, ih2, ih3⟩ := scarfref18_Length.mono_l k
  refine ⟨?_, ?_, ?_, ?_⟩
  ·intro y0 y1 y2 y3
   unfold scarfref18_Length.j0
   repeat' first
   | (with_reducible exact ih0 _ _ _ _)
   | (with_reducible exact ih1 _ _)
   | (with_reducible exact ih2 _ _ _)
   | (with_reducible exact ih3 _ _ _ _ _)
   | (with_reducible exact scarfref02_Split.mono _ _)
   | (with_reducible exact scarfref18_runs.mono _ _)
   | (with_reducible exact LeO.refl _)
   | (with_reducible exact LeO.none _)
   | (with_reducible refine LeO.ite ?_ ?_)
   | (with_reducible refine LeO.bind ?_ (fun _ => ?_))
   | exact ih0 _ _ _ _
   | exact ih1 _ _
   | exact ih2 _ _ _
   | exact ih3 _ _ _ _ _
   | exact scarfref02_Split.mono _ _
   | exact scarfref18_runs.mono _ _
   | exact LeO.none _
   | refine LeO.ite ?_ ?_
   | refine LeO.bind ?_ (fun _ => ?_)
  ·intro y0 y1
   unfold scarfref18_Length.j1
   repeat' first
   | (with_reducible exact ih0 _ _ _ _)
   | (with_reducible exact ih1 _ _)
   | (with_reducible exact ih2 _ _ _)
   | (with_reducible exact ih3 _ _ _ _ _)
   | (with_reducible exact scarfref02_Split.mono _ _)
   | (with_reducible exact scarfref18_runs.mono _ _)
   | (with_reducible exact LeO.refl _)
   | (with_reducible exact LeO.none _)
   | (with_reducible refine LeO.ite ?_ ?_)
   | (with_reducible refine LeO.bind ?_ (fun _ => ?_))
   | exact ih0 _ _ _ _
   | exact ih1 _ _
   | exact ih2 _ _ _
   | exact ih3 _ _ _ _ _
   | exact scarfref02_Split.mono _ _
   | exact scarfref18_runs.mono _ _
   | exact LeO.none _
   | refine LeO.ite ?_ ?_
   | refine LeO.bind ?_ (fun _ => ?_)
  ·intro y0 y1 y2
   unfold scarfref18_Length.l0
   repeat' first
   | (with_reducible exact ih0 _ _ _ _)
   | (with_reducible exact ih1 _ _)
   | (with_reducible exact ih2 _ _ _)
   | (with_reducible exact ih3 _ _ _ _ _)
   | (with_reducible exact scarfref02_Split.mono _ _)
   | (with_reducible exact scarfref18_runs.mono _ _)
   | (with_reducible exact LeO.refl _)
   | (with_reducible exact LeO.none _)
   | (with_reducible refine LeO.ite ?_ ?_)
   | (with_reducible refine LeO.bind ?_ (fun _ => ?_))
   | exact ih0 _ _ _ _
   | exact ih1 _ _
   | exact ih2 _ _ _
   | exact ih3 _ _ _ _ _
   | exact scarfref02_Split.mono _ _
   | exact scarfref18_runs.mono _ _
   | exact LeO.none _
   | refine LeO.ite ?_ ?_
   | refine LeO.bind ?_ (fun _ => ?_)
  ·intro y0 y1 y2 y3 y4
   unfold scarfref18_Length.l1
   repeat' first
   | (with_reducible exact ih0 _ _ _ _)
   | (with_reducible exact ih1 _ _)
   | (with_reducible exact ih2 _ _ _)
   | (with_reducible exact ih3 _ _ _ _ _)
   | (with_reducible exact scarfref02_Split.mono _ _)
   | (with_reducible exact scarfref18_runs.mono _ _)
   | (with_reducible exact LeO.refl _)
   | (with_reducible exact LeO.none _)
   | (with_reducible refine LeO.ite ?_ ?_)
   | (with_reducible refine LeO.bind ?_ (fun _ => ?_))
   | exact ih0 _ _ _ _
   | exact ih1 _ _
   | exact ih2 _ _ _
   | exact ih3 _ _ _ _ _
   | exact scarfref02_Split.mono _ _
   | exact scarfref18_runs.mono _ _
   | exact LeO.none _
   | refine LeO.ite ?_ ?_
   | refine LeO.bind ?_ (fun _ => ?_)
theorem scarfref18_Length.mono : ∀ a0 a1 k, LeO (scarfref18_Length.f k a0 a1) (scarfref18_Length.f (k + 1) a0 a1) := by
 intro a0 a1 k
 obtain ⟨ih0, ih1, ih2, ih3⟩ := scarfref18_Length.mono_l k
 unfold scarfref18_Length.f
 repeat' first
   | (with_reducible exact ih0 _ _ _ _)
   | (with_reducible exact ih1 _ _)
   | (with_reducible exact ih2 _ _ _)
   | (with_reducible exact ih3 _ _ _ _ _)
   | (with_reducible exact scarfref02_Split.mono _ _)
   | (with_reducible exact scarfref18_runs.mono _ _)
   | (with_reducible exact LeO.refl _)
   | (with_reducible exact LeO.none _)
   | (with_reducible refine LeO.ite ?_ ?_)
   | (with_reducible refine LeO.bind ?_ (fun _ => ?_))
   | exact ih0 _ _ _ _
   | exact ih1 _ _
   | exact ih2 _ _ _
   | exact ih3 _ _ _ _ _
   | exact scarfref02_Split.mono _ _
   | exact scarfref18_runs.mono _ _
   | exact LeO.none _
   | refine LeO.ite ?_ ?_
   | refine LeO.bind ?_ (fun _ => ?_)
set_option maxHeartbeats 8000000 in
set_option maxRecDepth 100000 in
theorem scarfref18_Length.calls (k : Nat) (a0 : Int) (A1 : Option Addr) (c1 : Nat) (l1 : List (List Int)) (r : Int) (w : World) (hr1 : Kd.C (Kd.slice 5 (Kd.int .u8)) w A1 l1.length l1) (hc1 : l1.length ≤ c1) (h : scarfref18_Length.f k a0 l1 = some r) :
  Calls Tryd.prog 17 #[.int .i64 a0, .slice A1 l1.length c1] w fun e w' => e = .returned (.int .i64 r) ∧ Below w.heap.size w w' := by
 have HR1 := Aside0.mk hr1
 have HC1 := Aside0.mk hc1
 clear hr1 hc1
 have HB := Aside0.mk (Below.refl w.heap.size w)
 have H : (if a0 ≥ 1 then (scarfref18_Length.j0 k a0 l1 7 (decide (a0 ≤ 1000))) else (scarfref18_Length.j0 k a0 l1 7 false)) = some r := h
 clear h
 have HC3 := Aside0.mk H
 clear H
 go_enter Tryd.func17, Tryd.ntmps17
 go_upto_region 2 with (fail)
 go_cut [15] (fun v15 wc => ∃ (kq : Nat) (x15_2 : Bool), v15 = .bool x15_2 ∧ Aside0 (scarfref18_Length.j0 kq a0 l1 7 x15_2 = some r) ∧ Aside0 (kq ≤ k) ∧ Aside0 (Below w.heap.size w wc))
 case first =>
  have H := HC3.out
  clear HC3
  by_cases c4 : a0 ≥ 1
  ·rw [if_pos c4] at H
   have c4b0 : decide (1 ≤ a0) = true := decide_eq_true c4
   clear c4
   (first | rw [c4b0] | (simp only [i64_w, i32_w]; rw [c4b0]) | skip)
   have H' := Aside0.mk H
   clear H
   go_wp2
   go_meet
   case rel => exact ⟨_, (decide (a0 ≤ 1000)), (by first | rfl | (simp; done) | (simp [*]; done)), H', ⟨by first | omega | exact Nat.le_refl _⟩, ⟨by repeat (first | (with_reducible first | exact HB.out | apply below_alloc | apply pw_below_drewN | apply below_drew1) | exact HB.out)⟩⟩
  ·rw [if_neg c4] at H
   have c4b0 : decide (1 ≤ a0) = false := decide_eq_false c4
   clear c4
   (first | rw [c4b0] | (simp only [i64_w, i32_w]; rw [c4b0]) | skip)
   have H' := Aside0.mk H
   clear H
   go_wp2
   go_meet
   case rel => exact ⟨_, (false), (by first | rfl | (simp; done) | (simp [*]; done)), H', ⟨by first | omega | exact Nat.le_refl _⟩, ⟨by repeat (first | (with_reducible first | exact HB.out | apply below_alloc | apply pw_below_drewN | apply below_drew1) | exact HB.out)⟩⟩
 case rest =>
  clear HC3
  try clear c1
  try clear p2
  try clear c4
  try clear c4b0
  obtain ⟨kq, x15_2, rfl, HA, HJ2, HB⟩ := hcut
  cases kq with
  | zero => exact absurd HA.out (by simp [scarfref18_Length.j0])
  | succ kj2 =>
   have H := HA.out
   clear HA
   simp only [scarfref18_Length.j0] at H
   have HC5 := Aside0.mk H
   clear H
   go_upto_if 15 with (fail)
   go_cut [5] (fun v5 wc => ∃ (kq : Nat) (x5_4 : Int), v5 = .int .i64 x5_4 ∧ Aside0 (scarfref18_Length.j1 kq l1 x5_4 = some r) ∧ Aside0 (kq ≤ kj2) ∧ Aside0 (Below w.heap.size w wc))
   case first =>
    have H := HC5.out
    clear HC5
    by_cases c6 : x15_2 = true
    ·subst c6
     have H1 : (scarfref18_Length.j1 kj2 l1 a0) = some r := by rw [if_pos rfl] at H; exact H
     clear H
     have H := H1
     clear H1
     have H' := Aside0.mk H
     clear H
     go_wp2
     go_meet
     case rel => exact ⟨_, (a0), (by first | rfl | (simp; done) | (simp [*]; done)), H', ⟨by have := HJ2.out; first | omega | exact Nat.le_refl _⟩, ⟨by repeat (first | (with_reducible first | exact HB.out | apply below_alloc | apply pw_below_drewN | apply below_drew1) | exact HB.out)⟩⟩
    ·replace c6 := Bool.eq_false_iff.mpr c6
     subst c6
     have H1 : (scarfref18_Length.j1 kj2 l1 7) = some r := by rw [if_neg (show ¬ (false = true) by decide)] at H; exact H
     clear H
     have H := H1
     clear H1
     have H' := Aside0.mk H
     clear H
     go_wp2
     go_meet
     case rel => exact ⟨_, (7), (by first | rfl | (simp; done) | (simp [*]; done)), H', ⟨by have := HJ2.out; first | omega | exact Nat.le_refl _⟩, ⟨by repeat (first | (with_reducible first | exact HB.out | apply below_alloc | apply pw_below_drewN | apply below_drew1) | exact HB.out)⟩⟩
   case rest =>
    clear HC5
    try clear c1
    try clear p2
    try clear c4
    try clear c4b0
    try clear c6
    try clear p2
    obtain ⟨kq, x5_4, rfl, HA, HJ4, HB⟩ := hcut
    cases kq with
    | zero => exact absurd HA.out (by simp [scarfref18_Length.j1])
    | succ kj4 =>
     have H := HA.out
     clear HA
     simp only [scarfref18_Length.j1] at H
     have H' := Aside0.mk H
     clear H
     go_wp2
     go_loopg [5, 6] kj4 (fun kq v5 v6 w' => ∃ (x5_3 : Int) (x6_3 : Int), v5 = .int .i64 x5_3 ∧ v6 = .int .i64 x6_3 ∧ Aside0 (scarfref18_Length.l0 kq l1 x5_3 x6_3 = some r) ∧ Aside0 (kq ≤ kj4) ∧ Aside0 (Below w.heap.size w w'))
     case atStart => exact ⟨(x5_4), (0), (by first | rfl | (simp; done) | (simp [*]; done)), (by first | rfl | (simp; done) | (simp [*]; done)), H', ⟨Nat.le_refl _⟩, ⟨by repeat (first | (with_reducible first | exact HB.out | apply below_alloc | apply pw_below_drewN | apply below_drew1) | exact HB.out)⟩⟩
     case round =>
      clear H'
      try clear c1
      try clear p2
      try clear c4
      try clear c4b0
      try clear c6
      try clear p2
      obtain ⟨x5_3, x6_3, rfl, rfl, HA, HK3, HB⟩ := hrel
      cases gk with
      | zero => exact absurd HA.out (by simp [scarfref18_Length.l0])
      | succ k3 =>
       have H := HA.out
       clear HA
       simp only [scarfref18_Length.l0] at H
       by_cases c7 : x6_3 < (l1.length : Int)
       ·rw [if_pos c7] at H
        have c7b0 : decide (x6_3 < (l1.length : Int)) = true := decide_eq_true c7
        clear c7
        by_cases c8 : 0 ≤ x6_3
        ·rw [if_pos c8] at H
         have c8b0 : decide (0 ≤ x6_3) = true := decide_eq_true c8
         clear c8
         replace H := Option.bind_eq_some_iff.mp H
         obtain ⟨t158, A90, H⟩ := H
         replace H : (scarfref18_Length.l1 k3 l1 x5_3 x6_3 t158 0) = some r := H
         have A9 := Aside0.mk A90
         clear A90
         have H' := Aside0.mk H
         clear H
         have p157 : 0 ≤ (x6_3 : Int) := of_decide_eq_true (by first | (with_reducible assumption) | assumption)
         have q157 : x6_3 < (l1.length : Int) := of_decide_eq_true (by first | (with_reducible assumption) | assumption)
         obtain ⟨ad157, A157_0, c157_0, e157, hx157_0, hl157_0, hi157_0⟩ := at_L1 HR1.out x6_3 p157 q157
         cases e157
         replace hx157_0 := (HB.out.cell (World.block_lt_of_cell? w _ hx157_0)).trans hx157_0
         have HR157_0 := Aside0.mk hi157_0
         have HC157_0 := Aside0.mk hl157_0
         clear hi157_0 hl157_0
         replace p157 := eq_true p157
         replace q157 := eq_true q157
         go_wp2_with (first | ((with_reducible refine gate_callee (f := 27) rfl ?_); refine goesL_ (some 27) rfl rfl Tryd.func27 (by kernel_rfl) rfl #[.slice A157_0 (rd_L1 l1 x6_3).length c157_0] rfl (by (try simp only [List.map_toArray, List.map_cons, List.map_nil]); first | done | rfl | (simp only [List.length_drop, List.length_take]; rfl)) ?_; (with_reducible refine (scarfref02_Split.calls k3 _ _ (rd_L1 l1 x6_3) t158 _ ?side1 ?side2 A9.out).mono ?_); (case side1 => repeat (first | exact (Kd.C_below HR157_0.out HB.out) | (with_reducible refine Kd.C_alloc ?_ _) | (with_reducible refine Kd.C_drewN ?_ _) | (with_reducible refine Kd.C_drew ?_))); (case side2 => exact HC157_0.out); rintro e w10 ⟨v159, rfl, ho0, hb⟩; refine ⟨_, rfl, ?_⟩; have n0_ := Aside0.mk (Kd.S_lower ho0 (below_size (by repeat (first | (with_reducible first | exact HB.out | apply below_alloc | apply pw_below_drewN | apply below_drew1) | exact HB.out)))); have n1_ := Aside0.mk (below_step (by repeat (first | (with_reducible first | exact HB.out | apply below_alloc | apply pw_below_drewN | apply below_drew1) | exact HB.out)) hb); clear HB; have HO160 := n0_; have HB := n1_; clear n0_ n1_; (try clear hb); (try clear hb2); (try clear hk); (try clear hi); (try clear ho0)))
         go_loopg [5, 8] k3 (fun kq v5 v8 w' => ∃ (x5_4 : Int) (x8_4 : Int), v5 = .int .i64 x5_4 ∧ v8 = .int .i64 x8_4 ∧ Aside0 (scarfref18_Length.l1 kq l1 x5_4 x6_3 t158 x8_4 = some r) ∧ Aside0 (kq ≤ k3) ∧ Aside0 (Kd.S (Kd.slice 5 (Kd.int .u8)) 22 w' w.heap.size (fun _ => True) v159 t158) ∧ Aside0 (Below w.heap.size w w'))
         case atStart => exact ⟨(x5_3), (0), (by first | rfl | (simp; done) | (simp [*]; done)), (by first | rfl | (simp; done) | (simp [*]; done)), H', ⟨Nat.le_refl _⟩, ⟨by (with_reducible repeat (first | apply Kd.S_alloc | apply Kd.S_drewN | apply Kd.S_drew)); exact HO160.out⟩, ⟨by repeat (first | (with_reducible first | exact HB.out | apply below_alloc | apply pw_below_drewN | apply below_drew1) | exact HB.out)⟩⟩
         case round =>
          clear H'
          try clear c1
          try clear p1
          try clear q1
          try clear hx1
          try clear c2
          try clear p2
          try clear c4
          try clear c4b0
          try clear c6
          try clear c7
          try clear c7b0
          try clear c8
          try clear c8b0
          try clear hx157_0
          try clear p157
          try clear p2
          try clear q157
          obtain ⟨x5_4, x8_4, rfl, rfl, HA, HK4, HO_7, HB⟩ := hrel
          cases gk with
          | zero => exact absurd HA.out (by simp [scarfref18_Length.l1])
          | succ k4 =>
           have H := HA.out
           clear HA
           simp only [scarfref18_Length.l1] at H
           by_cases c11 : x8_4 < (t158.length : Int)
           ·rw [if_pos c11] at H
            have c11b0 : decide (x8_4 < (t158.length : Int)) = true := decide_eq_true c11
            clear c11
            by_cases c12 : 0 ≤ x8_4
            ·rw [if_pos c12] at H
             have c12b0 : decide (0 ≤ x8_4) = true := decide_eq_true c12
             clear c12
             replace H := Option.bind_eq_some_iff.mp H
             obtain ⟨t162, A130, H⟩ := H
             replace H : (if t162 > 0 then (if t162 ≥ x5_4 then (scarfref18_Length.l1 k4 l1 (wrap64 (t162 + 1)) x6_3 t158 (wrap64 (x8_4 + 1))) else (scarfref18_Length.l1 k4 l1 x5_4 x6_3 t158 (wrap64 (x8_4 + 1)))) else (scarfref18_Length.l1 k4 l1 x5_4 x6_3 t158 (wrap64 (x8_4 + 1)))) = some r := H
             have A13 := Aside0.mk A130
             clear A130
             by_cases c14 : t162 > 0
             ·rw [if_pos c14] at H
              have c14b0 : decide (0 < t162) = true := decide_eq_true c14
              clear c14
              by_cases c15 : t162 ≥ x5_4
              ·rw [if_pos c15] at H
               have c15b0 : decide (x5_4 ≤ t162) = true := decide_eq_true c15
               clear c15
               have H' := Aside0.mk H
               clear H
               obtain ⟨Ao16, co16, eo16⟩ := Kd.S_slice HO_7.out
               subst eo16
               have p161 : 0 ≤ (x8_4 : Int) := of_decide_eq_true (by first | (with_reducible assumption) | assumption)
               have q161 : x8_4 < (t158.length : Int) := of_decide_eq_true (by first | (with_reducible assumption) | assumption)
               obtain ⟨ad161, A161_0, c161_0, e161, hx161_0, hl161_0, hi161_0⟩ := at_L1 (Kd.S_reads' HO_7.out).2.2 x8_4 p161 q161
               cases e161
               obtain ⟨ce161, hce161, hMe161, hcc161⟩ := Kd.S_get HO_7.out [] x8_4 p161 (by first | exact q161 | exact of_decide_eq_true (by first | (with_reducible assumption) | assumption) | (have e_ := (Kd.S_reads' HO_7.out).1; omega))
               obtain ⟨ve161_0, rfl, ge161_0⟩ := hMe161
               have hv161_0 := hcc161 0 _ rfl
               rw [Nat.add_zero, show ((Kd.slice 5 (Kd.int .u8))).sz = 1 from rfl, Nat.mul_one] at hv161_0
               replace hv161_0 := Option.some.inj (hv161_0.symm.trans hx161_0)
               rw [hv161_0] at ge161_0
               have HL161_0 := Aside0.mk (show Kd.R (Kd.int .u8) 5 _ _ _ _ (rd_L1 t158 x8_4) from ge161_0)
               clear hv161_0 ge161_0
               clear hcc161 hce161
               have HR161_0 := Aside0.mk hi161_0
               have HC161_0 := Aside0.mk hl161_0
               clear hi161_0 hl161_0
               replace p161 := eq_true p161
               replace q161 := eq_true q161
               go_wp2_with (first | ((with_reducible refine gate_callee (f := 32) rfl ?_); refine goesL_ (some 38) rfl rfl Tryd.func32 (by kernel_rfl) rfl #[.slice A161_0 (rd_L1 t158 x8_4).length c161_0] rfl (by (try simp only [List.map_toArray, List.map_cons, List.map_nil]); first | done | rfl | (simp only [List.length_drop, List.length_take]; rfl)) ?_; (with_reducible refine (scarfref18_runs.calls k4 _ _ (rd_L1 t158 x8_4) t162 _ ?side1 ?side2 A13.out).mono ?_); (case side1 => repeat (first | exact (by repeat (first | (with_reducible exact HR161_0.out) | (with_reducible refine Kd.C_alloc ?_ _) | (with_reducible refine Kd.C_drewN ?_ _) | (with_reducible refine Kd.C_drew ?_) | exact HR161_0.out)) | (with_reducible refine Kd.C_alloc ?_ _) | (with_reducible refine Kd.C_drewN ?_ _) | (with_reducible refine Kd.C_drew ?_))); (case side2 => exact HC161_0.out); rintro e w' ⟨rfl, ⟨nd, rfl⟩⟩; refine ⟨_, rfl, ?_⟩))
               go_roundg k4
               case measure => have := HJ2.out; have := HJ4.out; have := HK3.out; have := HK4.out; omega
               case rel => exact ⟨(wrap64 (t162 + 1)), (wrap64 (x8_4 + 1)), (by first | rfl | (simp; done) | (simp [*]; done)), (by first | rfl | (simp; done) | (simp [*]; done)), H', ⟨by have := HJ2.out; have := HJ4.out; have := HK3.out; have := HK4.out; omega⟩, ⟨by (with_reducible repeat (first | apply Kd.S_alloc | apply Kd.S_drewN | apply Kd.S_drew)); exact HO_7.out⟩, ⟨by repeat (first | (with_reducible first | exact HB.out | apply below_alloc | apply pw_below_drewN | apply below_drew1) | exact HB.out)⟩⟩
              ·rw [if_neg c15] at H
               have c15b0 : decide (x5_4 ≤ t162) = false := decide_eq_false c15
               clear c15
               have H' := Aside0.mk H
               clear H
               obtain ⟨Ao17, co17, eo17⟩ := Kd.S_slice HO_7.out
               subst eo17
               (try clear hx161_0)
               (repeat (first | clear HS0_ | clear HS1_ | clear HS2_ | clear HS3_ | clear HS4_ | clear HS5_ | clear HS6_ | clear HS7_ | clear HS8_ | clear HS9_ | clear HS10_ | clear HS11_ | clear HS12_ | clear HS13_ | clear HS14_ | clear HS15_ | clear HS16_ | clear HS17_ | clear HS18_ | clear HS19_ | clear HS20_ | clear HS21_ | clear HS22_ | clear HS23_))
               (try clear hHeld)
               have p161 : 0 ≤ (x8_4 : Int) := of_decide_eq_true (by first | (with_reducible assumption) | assumption)
               have q161 : x8_4 < (t158.length : Int) := of_decide_eq_true (by first | (with_reducible assumption) | assumption)
               obtain ⟨ad161, A161_0, c161_0, e161, hx161_0, hl161_0, hi161_0⟩ := at_L1 (Kd.S_reads' HO_7.out).2.2 x8_4 p161 q161
               cases e161
               obtain ⟨ce161, hce161, hMe161, hcc161⟩ := Kd.S_get HO_7.out [] x8_4 p161 (by first | exact q161 | exact of_decide_eq_true (by first | (with_reducible assumption) | assumption) | (have e_ := (Kd.S_reads' HO_7.out).1; omega))
               obtain ⟨ve161_0, rfl, ge161_0⟩ := hMe161
               have hv161_0 := hcc161 0 _ rfl
               rw [Nat.add_zero, show ((Kd.slice 5 (Kd.int .u8))).sz = 1 from rfl, Nat.mul_one] at hv161_0
               replace hv161_0 := Option.some.inj (hv161_0.symm.trans hx161_0)
               rw [hv161_0] at ge161_0
               have HL161_0 := Aside0.mk (show Kd.R (Kd.int .u8) 5 _ _ _ _ (rd_L1 t158 x8_4) from ge161_0)
               clear hv161_0 ge161_0
               clear hcc161 hce161
               have HR161_0 := Aside0.mk hi161_0
               have HC161_0 := Aside0.mk hl161_0
               clear hi161_0 hl161_0
               replace p161 := eq_true p161
               replace q161 := eq_true q161
               go_wp2_with (first | ((with_reducible refine gate_callee (f := 32) rfl ?_); refine goesL_ (some 38) rfl rfl Tryd.func32 (by kernel_rfl) rfl #[.slice A161_0 (rd_L1 t158 x8_4).length c161_0] rfl (by (try simp only [List.map_toArray, List.map_cons, List.map_nil]); first | done | rfl | (simp only [List.length_drop, List.length_take]; rfl)) ?_; (with_reducible refine (scarfref18_runs.calls k4 _ _ (rd_L1 t158 x8_4) t162 _ ?side1 ?side2 A13.out).mono ?_); (case side1 => repeat (first | exact (by repeat (first | (with_reducible exact HR161_0.out) | (with_reducible refine Kd.C_alloc ?_ _) | (with_reducible refine Kd.C_drewN ?_ _) | (with_reducible refine Kd.C_drew ?_) | exact HR161_0.out)) | (with_reducible refine Kd.C_alloc ?_ _) | (with_reducible refine Kd.C_drewN ?_ _) | (with_reducible refine Kd.C_drew ?_))); (case side2 => exact HC161_0.out); rintro e w' ⟨rfl, ⟨nd, rfl⟩⟩; refine ⟨_, rfl, ?_⟩))
               go_roundg k4
               case measure => have := HJ2.out; have := HJ4.out; have := HK3.out; have := HK4.out; omega
               case rel => exact ⟨(x5_4), (wrap64 (x8_4 + 1)), (by first | rfl | (simp; done) | (simp [*]; done)), (by first | rfl | (simp; done) | (simp [*]; done)), H', ⟨by have := HJ2.out; have := HJ4.out; have := HK3.out; have := HK4.out; omega⟩, ⟨by (with_reducible repeat (first | apply Kd.S_alloc | apply Kd.S_drewN | apply Kd.S_drew)); exact HO_7.out⟩, ⟨by repeat (first | (with_reducible first | exact HB.out | apply below_alloc | apply pw_below_drewN | apply below_drew1) | exact HB.out)⟩⟩
             ·rw [if_neg c14] at H
              have c14b0 : decide (0 < t162) = false := decide_eq_false c14
              clear c14
              have H' := Aside0.mk H
              clear H
              obtain ⟨Ao18, co18, eo18⟩ := Kd.S_slice HO_7.out
              subst eo18
              (try clear hx161_0)
              (try clear hx161_0)
              (repeat (first | clear HS0_ | clear HS1_ | clear HS2_ | clear HS3_ | clear HS4_ | clear HS5_ | clear HS6_ | clear HS7_ | clear HS8_ | clear HS9_ | clear HS10_ | clear HS11_ | clear HS12_ | clear HS13_ | clear HS14_ | clear HS15_ | clear HS16_ | clear HS17_ | clear HS18_ | clear HS19_ | clear HS20_ | clear HS21_ | clear HS22_ | clear HS23_))
              (try clear hHeld)
              have p161 : 0 ≤ (x8_4 : Int) := of_decide_eq_true (by first | (with_reducible assumption) | assumption)
              have q161 : x8_4 < (t158.length : Int) := of_decide_eq_true (by first | (with_reducible assumption) | assumption)
              obtain ⟨ad161, A161_0, c161_0, e161, hx161_0, hl161_0, hi161_0⟩ := at_L1 (Kd.S_reads' HO_7.out).2.2 x8_4 p161 q161
              cases e161
              obtain ⟨ce161, hce161, hMe161, hcc161⟩ := Kd.S_get HO_7.out [] x8_4 p161 (by first | exact q161 | exact of_decide_eq_true (by first | (with_reducible assumption) | assumption) | (have e_ := (Kd.S_reads' HO_7.out).1; omega))
              obtain ⟨ve161_0, rfl, ge161_0⟩ := hMe161
              have hv161_0 := hcc161 0 _ rfl
              rw [Nat.add_zero, show ((Kd.slice 5 (Kd.int .u8))).sz = 1 from rfl, Nat.mul_one] at hv161_0
              replace hv161_0 := Option.some.inj (hv161_0.symm.trans hx161_0)
              rw [hv161_0] at ge161_0
              have HL161_0 := Aside0.mk (show Kd.R (Kd.int .u8) 5 _ _ _ _ (rd_L1 t158 x8_4) from ge161_0)
              clear hv161_0 ge161_0
              clear hcc161 hce161
              have HR161_0 := Aside0.mk hi161_0
              have HC161_0 := Aside0.mk hl161_0
              clear hi161_0 hl161_0
              replace p161 := eq_true p161
              replace q161 := eq_true q161
              go_wp2_with (first | ((with_reducible refine gate_callee (f := 32) rfl ?_); refine goesL_ (some 38) rfl rfl Tryd.func32 (by kernel_rfl) rfl #[.slice A161_0 (rd_L1 t158 x8_4).length c161_0] rfl (by (try simp only [List.map_toArray, List.map_cons, List.map_nil]); first | done | rfl | (simp only [List.length_drop, List.length_take]; rfl)) ?_; (with_reducible refine (scarfref18_runs.calls k4 _ _ (rd_L1 t158 x8_4) t162 _ ?side1 ?side2 A13.out).mono ?_); (case side1 => repeat (first | exact (by repeat (first | (with_reducible exact HR161_0.out) | (with_reducible refine Kd.C_alloc ?_ _) | (with_reducible refine Kd.C_drewN ?_ _) | (with_reducible refine Kd.C_drew ?_) | exact HR161_0.out)) | (with_reducible refine Kd.C_alloc ?_ _) | (with_reducible refine Kd.C_drewN ?_ _) | (with_reducible refine Kd.C_drew ?_))); (case side2 => exact HC161_0.out); rintro e w' ⟨rfl, ⟨nd, rfl⟩⟩; refine ⟨_, rfl, ?_⟩))
              go_roundg k4
              case measure => have := HJ2.out; have := HJ4.out; have := HK3.out; have := HK4.out; omega
              case rel => exact ⟨(x5_4), (wrap64 (x8_4 + 1)), (by first | rfl | (simp; done) | (simp [*]; done)), (by first | rfl | (simp; done) | (simp [*]; done)), H', ⟨by have := HJ2.out; have := HJ4.out; have := HK3.out; have := HK4.out; omega⟩, ⟨by (with_reducible repeat (first | apply Kd.S_alloc | apply Kd.S_drewN | apply Kd.S_drew)); exact HO_7.out⟩, ⟨by repeat (first | (with_reducible first | exact HB.out | apply below_alloc | apply pw_below_drewN | apply below_drew1) | exact HB.out)⟩⟩
            ·rw [if_neg c12] at H
             exact absurd H (by simp)
           ·rw [if_neg c11] at H
            have c11b0 : decide (x8_4 < (t158.length : Int)) = false := decide_eq_false c11
            clear c11
            have H' := Aside0.mk H
            clear H
            obtain ⟨Ao19, co19, eo19⟩ := Kd.S_slice HO_7.out
            subst eo19
            go_wp2
            go_roundg k4
            case measure => have := HJ2.out; have := HJ4.out; have := HK3.out; have := HK4.out; omega
            case rel => exact ⟨(x5_4), (wrap64 (x6_3 + 1)), (by first | rfl | (simp; done) | (simp [*]; done)), (by first | rfl | (simp; done) | (simp [*]; done)), H', ⟨by have := HJ2.out; have := HJ4.out; have := HK3.out; have := HK4.out; omega⟩, ⟨by repeat (first | (with_reducible first | exact HB.out | apply below_alloc | apply pw_below_drewN | apply below_drew1) | exact HB.out)⟩⟩
        ·rw [if_neg c8] at H
         exact absurd H (by simp)
       ·rw [if_neg c7] at H
        have c7b0 : decide (x6_3 < (l1.length : Int)) = false := decide_eq_false c7
        clear c7
        obtain rfl := Option.some.inj H
        go_wp2
        go_ret
        exact ⟨by first | rfl | (simp [errW_none, errW_some] <;> rfl) | (simp [*, errW_none, errW_some] <;> rfl), by repeat (first | (with_reducible first | exact HB.out | apply below_alloc | apply pw_below_drewN | apply below_drew1) | exact HB.out)⟩
end Go.Proofs.YtnnnbeimehfiiaaDoor.Q
/-! The reference's Split, both Lengths, the reference's Labelled: what they answer. -/
set_option linter.unusedVariables false
set_option linter.unusedSimpArgs false
namespace Go.Proofs.YtnnnbeimehfiiaaDoor.Q
open Go Go.RowKit Go.Proofs.YtnnnbeimehfiiaaDoorW.PrintWords Go.Proofs.YtnnnbeimehfiiaaDoorW.PrintLast Go.Proofs.YtnnnbeimehfiiaaDoorW.PrintMore
/-- From some fuel on, it answers v. -/
def Ev {α : Type} (g : Nat → Option α) (v : α) : Prop := ∃ n, ∀ k, n ≤ k → g k = some v
theorem Ev.of {α : Type} {g : Nat → Option α} {v : α} (h : ∀ k, g k = some v) : Ev g v := ⟨0, fun k _ => h k⟩
theorem leo_up {α : Type} {f : Nat → Option α} (h : ∀ k, LeO (f k) (f (k + 1))) {a : Nat} {r : α} (hr : f a = some r) : ∀ m, f (a + m) = some r
  | 0 => hr
  | m + 1 => h (a + m) r (leo_up h hr m)
theorem Ev.up {α : Type} {f : Nat → Option α} (h : ∀ k, LeO (f k) (f (k + 1))) {a : Nat} {r : α} (hr : f a = some r) : Ev f r := ⟨a, fun k hk => by have := leo_up h hr (k - a); rwa [show a + (k - a) = k by omega] at this⟩
theorem Ev.bind {α β : Type} {g : Nat → Option α} {v : α} {f : Nat → α → Option β} {u : β} (h : Ev g v) (hf : Ev (fun k => f k v) u) : Ev (fun k => (g k).bind (f k)) u := by
  obtain ⟨n, hn⟩ := h
  obtain ⟨m, hm⟩ := hf
  exact ⟨max n m, fun k hk => by show (g k).bind (f k) = _; rw [hn k (by omega)]; exact hm k (by omega)⟩
theorem Ev.step {α : Type} {g : Nat → Option α} {v : α} (h : Ev (fun k => g (k + 1)) v) : Ev g v := by
  obtain ⟨n, hn⟩ := h
  refine ⟨n + 1, fun k hk => ?_⟩
  obtain ⟨j, rfl⟩ : ∃ j, k = j + 1 := ⟨k - 1, by omega⟩
  exact hn j (by omega)
theorem Ev.congr {α : Type} {g g' : Nat → Option α} {v : α} (h : Ev g v) (e : ∀ k, g' k = g k) : Ev g' v := by
  obtain ⟨n, hn⟩ := h
  exact ⟨n, fun k hk => (e k).trans (hn k hk)⟩
theorem Ev.has {α : Type} {g : Nat → Option α} {v : α} (h : Ev g v) : ∃ k, g k = some v := by
  obtain ⟨n, hn⟩ := h
  exact ⟨n, hn n (Nat.le_refl _)⟩
theorem linesOf_nl : ∀ (p r : List Int), (∀ x ∈ p, x ≠ 10) → linesOf (p ++ 10 :: r) = (p ++ [10]) :: linesOf r
  | [], r, _ => by simp [linesOf]
  | x :: p, r, h => by
    have ih := linesOf_nl p r (fun y hy => h y (List.mem_cons_of_mem _ hy))
    show (if x = 10 then [10] :: linesOf (p ++ 10 :: r) else match linesOf (p ++ 10 :: r) with | [] => [[x]] | y :: ys => (x :: y) :: ys) = _
    rw [if_neg (h x List.mem_cons_self), ih]
    rfl
def stepL (n : Int) (x : List Int) : Int := if (sgn x).1 > 0 then mx n (((sgn x).1 : Nat) + 1 : Int) else n
def lenRow (n : Int) (l : List Int) : Int := (linesOf l).foldl stepL n
def lenAll (n : Int) (m : List (List Int)) : Int := m.foldl lenRow n
theorem stepL_b {n : Int} {x : List Int} (h : 1 ≤ n ∧ n ≤ 5000000001) (hx : x.length ≤ 5000000000) : 1 ≤ stepL n x ∧ stepL n x ≤ 5000000001 := by
  have := sgn_le x
  unfold stepL mx
  split
  · split <;> omega
  · exact h
theorem rdL_get {l : List (List Int)} {i : Nat} (h : i < l.length) : rd_L1 l (i : Int) = l[i] := by simp [rd_L1, List.getD_eq_getElem?_getD, List.getElem?_eq_getElem h]
theorem foldB : ∀ (l : List (List Int)) (n : Int), (1 ≤ n ∧ n ≤ 5000000001) → (∀ x ∈ l, x.length ≤ 5000000000) → 1 ≤ l.foldl stepL n ∧ l.foldl stepL n ≤ 5000000001
  | [], n, h, _ => h
  | x :: r, n, h, hx => foldB r _ (stepL_b h (hx x List.mem_cons_self)) (fun y hy => hx y (List.mem_cons_of_mem _ hy))
def okRow (l : List Int) : Prop := l.length ≤ 5000000000 ∧ ∀ x ∈ l, byte x
theorem okRow_lines {l : List Int} (h : okRow l) : ∀ x ∈ linesOf l, okRow x := fun x hx => ⟨Nat.le_trans (linesOf_mem l x hx) h.1, linesOf_all byte l x h.2 hx⟩
theorem len_in (m : List (List Int)) (i : Nat) (L : List (List Int)) (hL : L.length ≤ 5000000000) (hLr : ∀ x ∈ L, okRow x) (res : Int) (hi : i < m.length) (hm : m.length ≤ 5000000000) : ∀ (q j : Nat) (n : Int), L.length - j = q → j ≤ L.length → 1 ≤ n ∧ n ≤ 5000000001 →
    Ev (fun k => mark_Length.l0 k ((L.drop j).foldl stepL n) m (m.length : Int) ((i + 1 : Nat) : Int)) res → Ev (fun k => mark_Length.l1 k n m (m.length : Int) (i : Int) L (L.length : Int) (j : Int)) res
  | 0, j, n, hq, hj, hn, hk => by
    rw [List.drop_of_length_le (by omega)] at hk
    refine Ev.step (Ev.congr hk fun k => ?_)
    rw [mark_Length.l1, if_neg (by omega), w64n (by omega)]
    rfl
  | q + 1, j, n, hq, hj, hn, hk => by
    have hlt : j < L.length := by omega
    rw [List.drop_eq_getElem_cons hlt, List.foldl_cons] at hk
    have hr := hLr _ (List.getElem_mem hlt)
    have ih := len_in m i L hL hLr res hi hm q (j + 1) (stepL n L[j]) (by omega) (by omega) (stepL_b hn hr.1) hk
    obtain ⟨k0, hs⟩ := signs_ev L[j] hr.1 hr.2
    have hsE := Ev.up (fun k => mark_signs.mono L[j] k) hs
    refine Ev.step (Ev.congr (Ev.bind hsE (f := fun k t => if t.1 > 0 then mark_Length.l1 k (mx n (wrap64 (t.1 + 1))) m (m.length : Int) (i : Int) L (L.length : Int) (wrap64 ((j : Int) + 1)) else mark_Length.l1 k n m (m.length : Int) (i : Int) L (L.length : Int) (wrap64 ((j : Int) + 1))) (Ev.congr ih fun k => ?_)) fun k => ?_)
    · have h1 := sgn_le L[j]
      have h2 := hr.1
      simp only [w64n (show j ≤ 9223372036854775806 by omega)]
      rw [show wrap64 ((((sgn L[j]).1 : Nat) : Int) + 1) = (((sgn L[j]).1 : Nat) : Int) + 1 by unfold wrap64; omega]
      unfold stepL
      by_cases h : 0 < (sgn L[j]).1
      · rw [if_pos (show (((sgn L[j]).1 : Nat) : Int) > 0 by omega), if_pos h]
      · rw [if_neg (show ¬ (((sgn L[j]).1 : Nat) : Int) > 0 by omega), if_neg h]
    · rw [mark_Length.l1, if_pos (by omega), if_pos (by omega), if_pos (by omega), rdL_get hlt]
theorem len_out (m : List (List Int)) (hm : m.length ≤ 5000000000) (hr : ∀ l ∈ m, okRow l) : ∀ (q i : Nat) (n : Int), m.length - i = q → i ≤ m.length → 1 ≤ n ∧ n ≤ 5000000001 →
    Ev (fun k => mark_Length.l0 k n m (m.length : Int) (i : Int)) ((m.drop i).foldl lenRow n)
  | 0, i, n, hq, hi, _ => by
    rw [List.drop_of_length_le (by omega)]
    refine Ev.step (Ev.of fun k => ?_)
    rw [mark_Length.l0, if_neg (by omega)]
    rfl
  | q + 1, i, n, hq, hi, hn => by
    have hlt : i < m.length := by omega
    have ho := hr _ (List.getElem_mem hlt)
    have hln : (linesOf m[i]).length ≤ 5000000000 := Nat.le_trans (linesOf_len _) ho.1
    have ih := len_out m hm hr q (i + 1) (lenRow n m[i]) (by omega) (by omega) (foldB _ n hn (fun x hx => (okRow_lines ho x hx).1))
    rw [List.drop_eq_getElem_cons hlt, List.foldl_cons]
    have h1 := len_in m i (linesOf m[i]) hln (okRow_lines ho) _ hlt hm _ 0 n rfl (Nat.zero_le _) hn ih
    refine Ev.step (Ev.congr h1 fun k => ?_)
    rw [mark_Length.l0, if_pos (by omega), if_pos (by omega), if_pos (by omega), rdL_get hlt]
    have : line_Split.f m[i] = some (linesOf m[i]) := by
      unfold line_Split.f
      rw [if_pos]
      simp only [Bool.and_eq_true, List.all_eq_true, decide_eq_true_eq]
      exact ⟨fun x hx => ho.2 x hx, ho.1⟩
    rw [this]
    rfl
theorem length_ev (least : Int) (m : List (List Int)) (hm : m.length ≤ 5000000000) (hr : ∀ l ∈ m, okRow l) : Ev (fun k => mark_Length.f k least m) (lenAll (if 1 ≤ least ∧ least ≤ 1000 then least else 7) m) := by
  have h : ∀ n : Int, 1 ≤ n ∧ n ≤ 5000000001 → Ev (fun k => mark_Length.j1 k n m) (lenAll n m) := fun n hn => Ev.step (len_out m hm hr _ 0 n rfl (Nat.zero_le _) hn)
  by_cases h1 : least < 1
  · rw [if_neg (by omega)]
    exact Ev.congr (g := fun k => mark_Length.j0 k least m true) (Ev.step (Ev.congr (h 7 (by omega)) (fun k => rfl))) (fun k => by unfold mark_Length.f; rw [if_pos h1])
  · by_cases h2 : least > 1000
    · rw [if_neg (by omega)]
      exact Ev.congr (g := fun k => mark_Length.j0 k least m true) (Ev.step (Ev.congr (h 7 (by omega)) (fun k => rfl))) (fun k => by unfold mark_Length.f; rw [if_neg h1, show decide (least > 1000) = true by simpa using h2])
    · rw [if_pos (by omega)]
      exact Ev.congr (g := fun k => mark_Length.j0 k least m false) (Ev.step (Ev.congr (h least (by omega)) (fun k => rfl))) (fun k => by unfold mark_Length.f; rw [if_neg h1, show decide (least > 1000) = false by simpa using h2])
end Go.Proofs.YtnnnbeimehfiiaaDoor.Q
-- Written by a program of this session (wip/mkprint.py, wip/pr.sh) for this claim; Lean checks it.
namespace Go.Proofs.YtnnnbeimehfiiaaDoor.Q
open Go.RowKit Go.Proofs.YtnnnbeimehfiiaaDoorW.PrintWords Go.Proofs.YtnnnbeimehfiiaaDoorW.PrintLast Go.Proofs.YtnnnbeimehfiiaaDoorW.PrintMore
attribute [local go_sem] max2_int min2_int max_two min_two max_three min_three max_four min_four   -- for this text's walks alone
set_option linter.unusedVariables false
set_option linter.unusedSimpArgs false
/-! ### scarfref18_Ended: function 39 -/
def scarfref18_Ended.f (l0 : List Int) : Option (List Int) := if (l0.length : Int) > 0 then (if 0 ≤ (wrap64 ((l0.length : Int) - 1)) then (if (wrap64 ((l0.length : Int) - 1)) < (l0.length : Int) then (if (rd l0 (wrap64 ((l0.length : Int) - 1))) = 10 then (some l0) else ((some (([] : List Int) : List Int)).bind fun y182 => (if y182.length + l0.length < 140737488355328 then ((some (y182 ++ l0 : List Int)).bind fun y185 => (if y185.length < 140737488355328 then (some (y185 ++ [10])) else (none))) else (none)))) else (none)) else (none)) else (some l0)
set_option maxHeartbeats 8000000 in
set_option maxRecDepth 100000 in
theorem scarfref18_Ended.calls (P0_ : Nat → Prop) (u9000_ : Value) (l0 : List Int) (r : List Int) (w0 w : World) (hB : Below w0.heap.size w0 w) (ho0 : Kd.R (Kd.int .u8) 5 w w0.heap.size P0_ u9000_ l0) (h : scarfref18_Ended.f l0 = some r) :
  Calls Tryd.prog 39 #[u9000_] w fun e w' => ∃ v0_ : Value, e = .returned (v0_) ∧ Kd.R (Kd.int .u8) 5 w' w0.heap.size (fun k_ => (P0_ k_ ∨ w.heap.size ≤ k_)) v0_ r ∧ Below w0.heap.size w0 w' ∧ Kept w w' (fun k_ => P0_ k_) := by
 have HO0 := Aside0.mk (show Kd.R (Kd.int .u8) 5 w w0.heap.size (fun k_ => (P0_ k_ ∨ w.heap.size ≤ k_)) u9000_ l0 from Kd.R_mono ho0 (fun k_ hk => (.inl hk)))
 have HK := Aside0.mk (Kept.refl w (fun k_ => P0_ k_))
 have HW0 := Aside0.mk hB.size
 have HB := Aside0.mk hB
 clear hB
 have H : (if (l0.length : Int) > 0 then (if 0 ≤ (wrap64 ((l0.length : Int) - 1)) then (if (wrap64 ((l0.length : Int) - 1)) < (l0.length : Int) then (if (rd l0 (wrap64 ((l0.length : Int) - 1))) = 10 then (some l0) else ((some (([] : List Int) : List Int)).bind fun y182 => (if y182.length + l0.length < 140737488355328 then ((some (y182 ++ l0 : List Int)).bind fun y185 => (if y185.length < 140737488355328 then (some (y185 ++ [10])) else (none))) else (none)))) else (none)) else (none)) else (some l0)) = some r := h
 clear h
 by_cases c2 : (l0.length : Int) > 0
 ·rw [if_pos c2] at H
  have c2b0 : decide (0 < (l0.length : Int)) = true := decide_eq_true c2
  have c2b1 : decide (0 < l0.length) = true := decide_eq_true (by omega)
  clear c2
  obtain ⟨ji3, hji3⟩ : ∃ j_ : Int, (wrap64 ((l0.length : Int) - 1)) = j_ := ⟨_, rfl⟩
  replace H : (if 0 ≤ (ji3) then (if (ji3) < (l0.length : Int) then (if (rd l0 (ji3)) = 10 then (some l0) else ((some (([] : List Int) : List Int)).bind fun y182 => (if y182.length + l0.length < 140737488355328 then ((some (y182 ++ l0 : List Int)).bind fun y185 => (if y185.length < 140737488355328 then (some (y185 ++ [10])) else (none))) else (none)))) else (none)) else (none)) = some r := by first | (rw [hji3] at H; exact H) | (simp only [hji3] at H ⊢; exact H)
  have hji3w : (IntKind.i64.wrap ((l0.length : Int) - 1)) = ji3 := (i64_w _).trans hji3
  by_cases c4 : 0 ≤ (ji3)
  ·rw [if_pos c4] at H
   have c4b0 : decide (0 ≤ (ji3)) = true := decide_eq_true c4
   clear c4
   by_cases c5 : (ji3) < (l0.length : Int)
   ·rw [if_pos c5] at H
    have c5b0 : decide ((ji3) < (l0.length : Int)) = true := decide_eq_true c5
    clear c5
    by_cases c6 : (rd l0 (ji3)) = 10
    ·rw [if_pos c6] at H
     have c6b0 : ((rd l0 (ji3)) == 10) = true := beq_iff_eq.mpr c6
     have c6b1 : ((rd l0 (ji3)) != 10) = false := bne_eq_false_iff_eq.mpr c6
     clear c6
     obtain rfl := Option.some.inj H
     obtain ⟨Ao7, co7, eo7⟩ := Kd.R_slice HO0.out
     subst eo7
     have p181 : 0 ≤ ((ji3) : Int) := of_decide_eq_true (by first | (with_reducible assumption) | assumption)
     have q181 : (ji3) < (l0.length : Int) := of_decide_eq_true (by first | (with_reducible assumption) | assumption)
     obtain ⟨ad181, e181, hx181_0⟩ := Kd.at_int (Kd.R_reads' HO0.out).2.2 (ji3) p181 q181
     cases e181
     replace p181 := eq_true p181
     replace q181 := eq_true q181
     go_enter Tryd.func39, Tryd.ntmps39
     go_wp2
     go_ret
     exact ⟨_, by first | rfl | (simp [errW_none, errW_some] <;> rfl) | (simp only [← hji3]; first | rfl | (simp [errW_none, errW_some] <;> rfl)) | (simp [*, errW_none, errW_some] <;> rfl), by (with_reducible repeat (first | apply Kd.R_alloc | apply Kd.R_drewN | apply Kd.R_drew)); exact HO0.out, by repeat (first | (with_reducible first | exact HB.out | apply below_alloc | apply pw_below_drewN | apply below_drew1) | exact HB.out), by repeat (first | (with_reducible first | exact HK.out | apply Kept.alloc | apply Kept.drewN | apply Kept.drew) | exact HK.out)⟩
    ·rw [if_neg c6] at H
     have c6b0 : ((rd l0 (ji3)) == 10) = false := beq_eq_false_iff_ne.mpr c6
     have c6b1 : ((rd l0 (ji3)) != 10) = true := bne_iff_ne.mpr c6
     obtain ⟨y182, hy182⟩ : ∃ y_ : List Int, y_ = (([] : List Int)) := ⟨_, rfl⟩
     replace H : (if y182.length + l0.length < 140737488355328 then ((some (y182 ++ l0 : List Int)).bind fun y185 => (if y185.length < 140737488355328 then (some (y185 ++ [10])) else (none))) else (none)) = some r := by first | (rw [hy182]; with_reducible exact H) | (have H2_ := (Option.bind_some _ _).symm.trans H; rw [hy182]; with_reducible exact H2_) | (have H2_ := (Option.bind_some _ _).symm.trans H; with_reducible exact H2_) | with_reducible exact H | (rw [hy182]; exact H) | exact H
     have Ny182 := Aside0.mk hy182
     clear hy182
     by_cases c8 : y182.length + l0.length < 140737488355328
     ·rw [if_pos c8] at H
      have LMc8 := Aside0.mk c8
      clear c8
      obtain ⟨y185, hy185⟩ : ∃ y_ : List Int, y_ = (y182 ++ l0) := ⟨_, rfl⟩
      replace H : (if y185.length < 140737488355328 then (some (y185 ++ [10])) else (none)) = some r := by first | (rw [hy185]; with_reducible exact H) | (have H2_ := (Option.bind_some _ _).symm.trans H; rw [hy185]; with_reducible exact H2_) | (have H2_ := (Option.bind_some _ _).symm.trans H; with_reducible exact H2_) | with_reducible exact H | (rw [hy185]; exact H) | exact H
      have Ny185 := Aside0.mk hy185
      clear hy185
      by_cases c9 : y185.length < 140737488355328
      ·rw [if_pos c9] at H
       have LMc9 := Aside0.mk c9
       clear c9
       obtain ⟨y188, hy188⟩ : ∃ y_ : List Int, y_ = (y185 ++ [10]) := ⟨_, rfl⟩
       replace H : (some y188) = some r := by first | (rw [hy188]; with_reducible exact H) | (have H2_ := (Option.bind_some _ _).symm.trans H; rw [hy188]; with_reducible exact H2_) | (have H2_ := (Option.bind_some _ _).symm.trans H; with_reducible exact H2_) | with_reducible exact H | (rw [hy188]; exact H) | exact H
       have Ny188 := Aside0.mk hy188
       clear hy188
       obtain rfl := Option.some.inj H
       obtain ⟨Ao10, co10, eo10⟩ := Kd.R_slice HO0.out
       subst eo10
       have p181 : 0 ≤ ((ji3) : Int) := of_decide_eq_true (by first | (with_reducible assumption) | assumption)
       have q181 : (ji3) < (l0.length : Int) := of_decide_eq_true (by first | (with_reducible assumption) | assumption)
       obtain ⟨ad181, e181, hx181_0⟩ := Kd.at_int (Kd.R_reads' HO0.out).2.2 (ji3) p181 q181
       cases e181
       replace p181 := eq_true p181
       replace q181 := eq_true q181
       go_enter Tryd.func39, Tryd.ntmps39
       go_wp2_with (first | ((with_reducible refine gate_dst (N := 15) rfl ?_); (try (refine gate_guard (by rfl) ?_; dsimp only)); refine Kd.R_lit (Kd.int .u8) _ 5 ?hg (N := 15) ?hd (xs := ([] : List Int)) (inner := []) (ok := fun _ => True) (okp := fun _ => True) ?hr ?hp (fun _ hk => hk) trivial (Below.refl _ _) (Nat.le_refl _) (by simp) ?_; (case hd => rfl); (case hg => rfl); (case hr => first | (go_simp; done) | (go_simp; rfl)); (case hp => exact (Reps.none _ _)); intro v183 w11 ho12 hb hg_ hnew_; clear hg_ hnew_; (first | rw [← Ny182.out] at ho12 | (simp only [Int.reduceToNat] at ho12; rw [← Ny182.out] at ho12)); have n0_ := Aside0.mk (Kd.R_elder' (by (with_reducible repeat (first | apply Kd.R_alloc | apply Kd.R_drewN | apply Kd.R_drew)); exact HO0.out) (Kd.R_base ho12) hb); have n1_ := Aside0.mk (Kd.R_lower (Kd.R_new' (Kd.R_newM (M := fun k_ => (P0_ k_ ∨ w.heap.size ≤ k_)) ho12 (by first | exact HK.out.1 | exact (show Kept w _ (fun k_ => P0_ k_) from by repeat (first | (with_reducible first | exact HK.out | apply Kept.alloc | apply Kept.drewN | apply Kept.drew) | exact HK.out)).1) (fun k_ h_ => .inr h_)) (Kd.R_lt (by (with_reducible repeat (first | apply Kd.R_alloc | apply Kd.R_drewN | apply Kd.R_drew)); exact HO0.out))) (below_size (by repeat (first | (with_reducible first | exact HB.out | apply below_alloc | apply pw_below_drewN | apply below_drew1) | exact HB.out)))); have n2_ := Aside0.mk (Kept.below (S := (fun k_ => P0_ k_)) (by repeat (first | (with_reducible first | exact HK.out | apply Kept.alloc | apply Kept.drewN | apply Kept.drew) | exact HK.out)) hb); have n3_ := Aside0.mk (below_step (by repeat (first | (with_reducible first | exact HB.out | apply below_alloc | apply pw_below_drewN | apply below_drew1) | exact HB.out)) hb); clear HO0; clear HK; clear HB; have HO0 := n0_; have HO184 := n1_; have HK := n2_; have HB := n3_; clear n0_ n1_ n2_ n3_; clear hb ho12) | ((with_reducible refine gate_builtin (b := .append) (xs := #[.tmp 15, .tmp 16]) rfl ?_); (try (refine gate_guard (by rfl) ?_; dsimp only)); at_builtin; refine Kd.R_append_rows (Kd.int .u8) (w0 := w0) w0.heap.size rfl (.tmp 15) (.tmp 16) 22 5 (.int .u8 0) 1 rfl Tryd.underlying22 info5 rfl (by decide) (by omega) v183 y182 l0 _ _ _ (fun k_ => (P0_ k_ ∨ w.heap.size ≤ k_) ∧ some k_ ≠ (.slice (some ad181) l0.length co10 : Value).ownBlock) (fun _ => False) rfl rfl ?aO ?aR (fun _ _ h => h) (fun _ h => h.elim) ?aF ?aB ?aS ?aL ?_; (case aR => repeat (first | exact (Kd.R_reads' HO0.out).2.2 | (with_reducible refine Kd.C_alloc ?_ _) | (with_reducible refine Kd.C_drewN ?_ _) | (with_reducible refine Kd.C_drew ?_))); (case aB => exact (by repeat (first | (with_reducible first | exact HB.out | apply below_alloc | apply pw_below_drewN | apply below_drew1) | exact HB.out))); (case aF => exact (fun k_ hk => ⟨(.inr (Nat.le_trans (by first | exact HK.out.1 | exact (show Kept w _ (fun k_ => P0_ k_) from by repeat (first | (with_reducible first | exact HK.out | apply Kept.alloc | apply Kept.drewN | apply Kept.drew) | exact HK.out)).1) hk)), Kd.fresh' (Kd.R_lt (by (with_reducible repeat (first | apply Kd.R_alloc | apply Kd.R_drewN | apply Kd.R_drew)); exact HO0.out)) k_ hk⟩)); (case aO => exact (by (with_reducible repeat (first | apply Kd.R_alloc | apply Kd.R_drewN | apply Kd.R_drew)); exact Kd.R_mono HO184.out (fun _ hk => ⟨hk.1.1, hk.2⟩))); (case aS => exact (below_size (by repeat (first | (with_reducible first | exact HB.out | apply below_alloc | apply pw_below_drewN | apply below_drew1) | exact HB.out)))); (case aL => have := LMc8.out; omega); intro v186 w13 ho hb hg hat; rw [← Ny185.out] at ho; have n0_ := Aside0.mk (Kd.R_after (ok := (fun k_ => (P0_ k_ ∨ w.heap.size ≤ k_))) (by (with_reducible repeat (first | apply Kd.R_alloc | apply Kd.R_drewN | apply Kd.R_drew)); exact HO0.out) hg hat); have n1_ := Aside0.mk (hb); have n2_ := Aside0.mk (Kept.of_grown (S := (fun k_ => P0_ k_)) hg (by repeat (first | (with_reducible first | exact HK.out | apply Kept.alloc | apply Kept.drewN | apply Kept.drew) | exact HK.out)) (fun k_ e_ => (HO184.out.1 k_ e_).1.1)); have n3_ := Aside0.mk (ho); clear HO0; clear HB; clear HK; clear HO184; have HO0 := n0_; have HB := n1_; have HK := n2_; have HO187 := n3_; clear n0_ n1_ n2_ n3_; clear ho hb hg hat) | ((with_reducible refine gate_builtin (b := .append) (xs := #[.tmp 17, .tmp 18]) rfl ?_); (try (refine gate_guard (by rfl) ?_; dsimp only)); at_builtin; refine Kd.R_append (Kd.int .u8) (w0 := w0) w0.heap.size rfl (.tmp 17) (.tmp 18) 22 5 (.int .u8 0) 1 rfl Tryd.underlying22 info5 rfl (by decide) (by omega) v186 y185 10 [.int .u8 10] (fun k_ => (P0_ k_ ∨ w.heap.size ≤ k_) ∧ some k_ ≠ (.slice (some ad181) l0.length co10 : Value).ownBlock) (fun _ => False) rfl rfl ?aP (fun _ hk => hk.elim) ?aF ?aO ?aB ?aS ?aL ?_; (case aP => exact rfl); (case aB => exact (by repeat (first | (with_reducible first | exact HB.out | apply below_alloc | apply pw_below_drewN | apply below_drew1) | exact HB.out))); (case aF => exact (fun k_ hk => ⟨(.inr (Nat.le_trans (by first | exact HK.out.1 | exact (show Kept w _ (fun k_ => P0_ k_) from by repeat (first | (with_reducible first | exact HK.out | apply Kept.alloc | apply Kept.drewN | apply Kept.drew) | exact HK.out)).1) hk)), Kd.fresh' (Kd.R_lt (by (with_reducible repeat (first | apply Kd.R_alloc | apply Kd.R_drewN | apply Kd.R_drew)); exact HO0.out)) k_ hk⟩)); (case aO => exact (by (with_reducible repeat (first | apply Kd.R_alloc | apply Kd.R_drewN | apply Kd.R_drew)); exact HO187.out)); (case aS => exact (below_size (by repeat (first | (with_reducible first | exact HB.out | apply below_alloc | apply pw_below_drewN | apply below_drew1) | exact HB.out)))); (case aL => have := LMc9.out; omega); intro v189 w14 ho hb hg hat; rw [← Ny188.out] at ho; have n0_ := Aside0.mk (Kd.R_after (ok := (fun k_ => (P0_ k_ ∨ w.heap.size ≤ k_))) (by (with_reducible repeat (first | apply Kd.R_alloc | apply Kd.R_drewN | apply Kd.R_drew)); exact HO0.out) hg hat); have n1_ := Aside0.mk (hb); have n2_ := Aside0.mk (Kept.of_grown (S := (fun k_ => P0_ k_)) hg (by repeat (first | (with_reducible first | exact HK.out | apply Kept.alloc | apply Kept.drewN | apply Kept.drew) | exact HK.out)) (fun k_ e_ => (HO187.out.1 k_ e_).1)); have n3_ := Aside0.mk (ho); clear HO0; clear HB; clear HK; clear HO187; have HO0 := n0_; have HB := n1_; have HK := n2_; have HO190 := n3_; clear n0_ n1_ n2_ n3_; clear ho hb hg hat))
       go_ret
       exact ⟨_, by first | rfl | (simp [errW_none, errW_some] <;> rfl) | (simp only [← hji3]; first | rfl | (simp [errW_none, errW_some] <;> rfl)) | (simp [*, errW_none, errW_some] <;> rfl), by (with_reducible repeat (first | apply Kd.R_alloc | apply Kd.R_drewN | apply Kd.R_drew)); exact Kd.R_mono HO190.out (fun _ hk => hk.1), by repeat (first | (with_reducible first | exact HB.out | apply below_alloc | apply pw_below_drewN | apply below_drew1) | exact HB.out), by repeat (first | (with_reducible first | exact HK.out | apply Kept.alloc | apply Kept.drewN | apply Kept.drew) | exact HK.out)⟩
      ·rw [if_neg c9] at H
       exact absurd H (by simp)
     ·rw [if_neg c8] at H
      exact absurd H (by simp)
   ·rw [if_neg c5] at H
    exact absurd H (by simp)
  ·rw [if_neg c4] at H
   exact absurd H (by simp)
 ·rw [if_neg c2] at H
  have c2b0 : decide (0 < (l0.length : Int)) = false := decide_eq_false c2
  have c2b1 : decide (0 < l0.length) = false := decide_eq_false (by omega)
  clear c2
  obtain rfl := Option.some.inj H
  obtain ⟨Ao15, co15, eo15⟩ := Kd.R_slice HO0.out
  subst eo15
  go_enter Tryd.func39, Tryd.ntmps39
  go_wp2
  go_ret
  exact ⟨_, by first | rfl | (simp [errW_none, errW_some] <;> rfl) | (simp [*, errW_none, errW_some] <;> rfl), by (with_reducible repeat (first | apply Kd.R_alloc | apply Kd.R_drewN | apply Kd.R_drew)); exact HO0.out, by repeat (first | (with_reducible first | exact HB.out | apply below_alloc | apply pw_below_drewN | apply below_drew1) | exact HB.out), by repeat (first | (with_reducible first | exact HK.out | apply Kept.alloc | apply Kept.drewN | apply Kept.drew) | exact HK.out)⟩
-- NOT PRINTED: function 20 (scarflaw18_joined)
-- NOT PRINTED: function 5 (scarflaw18_MarkBack)
-- NOT PRINTED: function 6 (scarflaw18_MarkMoves)
/-! ### scarfref18_marker: function 40 -/
def scarfref18_marker.l0 : Nat → Int → Int → ByteArray → List Int → Int → Option (List Int)
 | 0, _, _, _, _, _ => none
 | k + 1, x0, x1, x2, x7, x8 => if x8 < x1 then (if x7.length < 140737488355328 then (scarfref18_marker.l0 k x0 x1 x2 (x7 ++ [x0]) (wrap64 (x8 + 1))) else (none)) else ((scarfref18_Labelled.f k x2).bind fun t214 => (if t214.toList = ([] : List UInt8) then (if x7.length < 140737488355328 then (some (x7 ++ [10])) else (none)) else (if x7.length < 140737488355328 then ((some (x7 ++ [32] : List Int)).bind fun y218 => (if y218.length + t214.size < 140737488355328 then ((some (y218 ++ bytesOf t214 : List Int)).bind fun y221 => (if y221.length < 140737488355328 then (some (y221 ++ [10])) else (none))) else (none))) else (none))))
def scarfref18_marker.f (k : Nat) (a0 : Int) (a1 : Int) (a2 : ByteArray) : Option (List Int) := scarfref18_marker.l0 k a0 a1 a2 ([] : List Int) 0
theorem scarfref18_marker.mono_l : ∀ k, (∀ y0 y1 y2 y3 y4, LeO (scarfref18_marker.l0 k y0 y1 y2 y3 y4) (scarfref18_marker.l0 (k + 1) y0 y1 y2 y3 y4))
 | 0 => fun _ _ _ _ _ r h => by simp [scarfref18_marker.l0] at h
 | k + 1 => by
  have ih0 := scarfref18_marker.mono_l k
  ·intro y0 y1 y2 y3 y4
   unfold scarfref18_marker.l0
   repeat' first
   | (with_reducible exact ih0 _ _ _ _ _)
   | (with_reducible exact scarfref18_Labelled.mono _ _)
   | (with_reducible exact LeO.refl _)
   | (with_reducible exact LeO.none _)
   | (with_reducible refine LeO.ite ?_ ?_)
   | (with_reducible refine LeO.bind ?_ (fun _ => ?_))
   | exact ih0 _ _ _ _ _
   | exact scarfref18_Labelled.mono _ _
   | exact LeO.none _
   | refine LeO.ite ?_ ?_
   | refine LeO.bind ?_ (fun _ => ?_)
theorem scarfref18_marker.mono : ∀ a0 a1 a2 k, LeO (scarfref18_marker.f k a0 a1 a2) (scarfref18_marker.f (k + 1) a0 a1 a2) := by
 intro a0 a1 a2 k
 have ih0 := scarfref18_marker.mono_l k
 unfold scarfref18_marker.f
 repeat' first
   | (with_reducible exact ih0 _ _ _ _ _)
   | (with_reducible exact scarfref18_Labelled.mono _ _)
   | (with_reducible exact LeO.refl _)
   | (with_reducible exact LeO.none _)
   | (with_reducible refine LeO.ite ?_ ?_)
   | (with_reducible refine LeO.bind ?_ (fun _ => ?_))
   | exact ih0 _ _ _ _ _
   | exact scarfref18_Labelled.mono _ _
   | exact LeO.none _
   | refine LeO.ite ?_ ?_
   | refine LeO.bind ?_ (fun _ => ?_)
set_option maxHeartbeats 8000000 in
set_option maxRecDepth 100000 in
theorem scarfref18_marker.calls (k : Nat) (a0 : Int) (a1 : Int) (a2 : ByteArray) (r : List Int) (w : World) (h : scarfref18_marker.f k a0 a1 a2 = some r) :
  Calls Tryd.prog 40 #[.int .u8 a0, .int .i64 a1, .string a2] w fun e w' => ∃ v0_ : Value, e = .returned (v0_) ∧ Kd.R (Kd.int .u8) 5 w' w.heap.size (fun _ => True) v0_ r ∧ Below w.heap.size w w' := by
 have HB := Aside0.mk (Below.refl w.heap.size w)
 have H : (scarfref18_marker.l0 k a0 a1 a2 ([] : List Int) 0) = some r := h
 clear h
 have H' := Aside0.mk H
 clear H
 go_enter Tryd.func40, Tryd.ntmps40
 go_wp2
 go_loopg [7, 8] k (fun kq v7 v8 w' => ∃ (x7_1 : List Int) (x8_1 : Int), v8 = .int .i64 x8_1 ∧ Aside0 (scarfref18_marker.l0 kq a0 a1 a2 x7_1 x8_1 = some r) ∧ Aside0 (kq ≤ k) ∧ Aside0 (Kd.R (Kd.int .u8) 5 w' w.heap.size (fun _ => True) v7 x7_1) ∧ Aside0 (Below w.heap.size w w'))
 case atStart => exact ⟨(([] : List Int)), (0), (by first | rfl | (simp; done) | (simp [*]; done)), H', ⟨Nat.le_refl _⟩, ⟨by first | exact Kd.R_nil _ _ _ _ _ | exact Kd.N_nil _ _ _ _ _ | exact Kd.V_nil _ _ _ _ _ | exact Kd.Q_nil _ _ _ _ _ | exact Kd.S_nil _ _ _ _ _⟩, ⟨by repeat (first | (with_reducible first | exact HB.out | apply below_alloc | apply pw_below_drewN | apply below_drew1) | exact HB.out)⟩⟩
 case round =>
  clear H'
  try clear p2
  obtain ⟨x7_1, x8_1, rfl, HA, HK1, HO_7, HB⟩ := hrel
  cases gk with
  | zero => exact absurd HA.out (by simp [scarfref18_marker.l0])
  | succ k1 =>
   have H := HA.out
   clear HA
   simp only [scarfref18_marker.l0] at H
   by_cases c4 : x8_1 < a1
   ·rw [if_pos c4] at H
    have c4b0 : decide (x8_1 < a1) = true := decide_eq_true c4
    clear c4
    by_cases c5 : x7_1.length < 140737488355328
    ·rw [if_pos c5] at H
     have LMc5 := Aside0.mk c5
     clear c5
     obtain ⟨y211, hy211⟩ : ∃ y_ : List Int, y_ = (x7_1 ++ [a0]) := ⟨_, rfl⟩
     replace H : (scarfref18_marker.l0 k1 a0 a1 a2 y211 (wrap64 (x8_1 + 1))) = some r := by first | (rw [hy211]; with_reducible exact H) | (have H2_ := (Option.bind_some _ _).symm.trans H; rw [hy211]; with_reducible exact H2_) | (have H2_ := (Option.bind_some _ _).symm.trans H; with_reducible exact H2_) | with_reducible exact H | (rw [hy211]; exact H) | exact H
     have Ny211 := Aside0.mk hy211
     clear hy211
     have H' := Aside0.mk H
     clear H
     go_wp2_with (first | ((with_reducible refine gate_builtin (b := .append) (xs := #[.tmp 15, .tmp 17]) rfl ?_); at_builtin; refine Kd.R_append (Kd.int .u8) (w0 := w) w.heap.size rfl (.tmp 15) (.tmp 17) 22 5 (.int .u8 0) 1 rfl Tryd.underlying22 info5 rfl (by decide) (by omega) u7 x7_1 a0 [.int .u8 a0] (fun _ => True) (fun _ => False) rfl rfl ?aP (fun _ hk => hk.elim) ?aF ?aO ?aB ?aS ?aL ?_; (case aP => exact rfl); (case aB => exact (by repeat (first | (with_reducible first | exact HB.out | apply below_alloc | apply pw_below_drewN | apply below_drew1) | exact HB.out))); (case aF => exact (fun _ _ => trivial)); (case aO => exact (by (with_reducible repeat (first | apply Kd.R_alloc | apply Kd.R_drewN | apply Kd.R_drew)); exact HO_7.out)); (case aS => exact (below_size (by repeat (first | (with_reducible first | exact HB.out | apply below_alloc | apply pw_below_drewN | apply below_drew1) | exact HB.out)))); (case aL => have := LMc5.out; omega); intro v212 w6 ho hb hg hat; rw [← Ny211.out] at ho; have n0_ := Aside0.mk (hb); have n1_ := Aside0.mk (ho); clear HB; clear HO_7; have HB := n0_; have HO213 := n1_; clear n0_ n1_; clear ho hb hg hat))
     go_roundg k1
     case measure => have := HK1.out; omega
     case rel => exact ⟨(y211), (wrap64 (x8_1 + 1)), (by first | rfl | (simp; done) | (simp [*]; done)), H', ⟨by have := HK1.out; omega⟩, ⟨by (with_reducible repeat (first | apply Kd.R_alloc | apply Kd.R_drewN | apply Kd.R_drew)); exact HO213.out⟩, ⟨by repeat (first | (with_reducible first | exact HB.out | apply below_alloc | apply pw_below_drewN | apply below_drew1) | exact HB.out)⟩⟩
    ·rw [if_neg c5] at H
     exact absurd H (by simp)
   ·rw [if_neg c4] at H
    have c4b0 : decide (x8_1 < a1) = false := decide_eq_false c4
    clear c4
    replace H := Option.bind_eq_some_iff.mp H
    obtain ⟨t214, A70, H⟩ := H
    replace H : (if t214.toList = ([] : List UInt8) then (if x7_1.length < 140737488355328 then (some (x7_1 ++ [10])) else (none)) else (if x7_1.length < 140737488355328 then ((some (x7_1 ++ [32] : List Int)).bind fun y218 => (if y218.length + t214.size < 140737488355328 then ((some (y218 ++ bytesOf t214 : List Int)).bind fun y221 => (if y221.length < 140737488355328 then (some (y221 ++ [10])) else (none))) else (none))) else (none))) = some r := H
    have A7 := Aside0.mk A70
    clear A70
    by_cases c8 : t214.toList = ([] : List UInt8)
    ·rw [if_pos c8] at H
     have c8b0 : (t214.toList == ([] : List UInt8)) = true := beq_iff_eq.mpr c8
     have c8b1 : (t214.toList != ([] : List UInt8)) = false := bne_eq_false_iff_eq.mpr c8
     clear c8
     by_cases c9 : x7_1.length < 140737488355328
     ·rw [if_pos c9] at H
      have LMc9 := Aside0.mk c9
      clear c9
      obtain ⟨y215, hy215⟩ : ∃ y_ : List Int, y_ = (x7_1 ++ [10]) := ⟨_, rfl⟩
      replace H : (some y215) = some r := by first | (rw [hy215]; with_reducible exact H) | (have H2_ := (Option.bind_some _ _).symm.trans H; rw [hy215]; with_reducible exact H2_) | (have H2_ := (Option.bind_some _ _).symm.trans H; with_reducible exact H2_) | with_reducible exact H | (rw [hy215]; exact H) | exact H
      have Ny215 := Aside0.mk hy215
      clear hy215
      obtain rfl := Option.some.inj H
      go_wp2_with (first | ((with_reducible refine gate_callee (f := 15) rfl ?_); refine goesL_ (some 20) rfl rfl Tryd.func15 (by kernel_rfl) rfl #[.string a2] rfl (by (try simp only [List.map_toArray, List.map_cons, List.map_nil]); first | done | rfl | (simp only [List.length_drop, List.length_take]; rfl)) ?_; (with_reducible refine (scarfref18_Labelled.calls k1 a2 t214 _ A7.out).mono ?_); rintro e w10 ⟨rfl, hb⟩; refine ⟨_, rfl, ?_⟩; have n0_ := Aside0.mk (Kd.R_below (by (with_reducible repeat (first | apply Kd.R_alloc | apply Kd.R_drewN | apply Kd.R_drew)); exact HO_7.out) hb); have n1_ := Aside0.mk (below_step (by repeat (first | (with_reducible first | exact HB.out | apply below_alloc | apply pw_below_drewN | apply below_drew1) | exact HB.out)) hb); clear HO_7; clear HB; have HO_7 := n0_; have HB := n1_; clear n0_ n1_; (try clear hb); (try clear hb2); (try clear hk); (try clear hi)) | ((with_reducible refine gate_builtin (b := .append) (xs := #[.tmp 28, .tmp 29]) rfl ?_); at_builtin; refine Kd.R_append (Kd.int .u8) (w0 := w) w.heap.size rfl (.tmp 28) (.tmp 29) 22 5 (.int .u8 0) 1 rfl Tryd.underlying22 info5 rfl (by decide) (by omega) u7 x7_1 10 [.int .u8 10] (fun _ => True) (fun _ => False) rfl rfl ?aP (fun _ hk => hk.elim) ?aF ?aO ?aB ?aS ?aL ?_; (case aP => exact rfl); (case aB => exact (by repeat (first | (with_reducible first | exact HB.out | apply below_alloc | apply pw_below_drewN | apply below_drew1) | exact HB.out))); (case aF => exact (fun _ _ => trivial)); (case aO => exact (by (with_reducible repeat (first | apply Kd.R_alloc | apply Kd.R_drewN | apply Kd.R_drew)); exact HO_7.out)); (case aS => exact (below_size (by repeat (first | (with_reducible first | exact HB.out | apply below_alloc | apply pw_below_drewN | apply below_drew1) | exact HB.out)))); (case aL => have := LMc9.out; omega); intro v216 w11 ho hb hg hat; rw [← Ny215.out] at ho; have n0_ := Aside0.mk (hb); have n1_ := Aside0.mk (ho); clear HB; clear HO_7; have HB := n0_; have HO217 := n1_; clear n0_ n1_; clear ho hb hg hat))
      go_ret
      exact ⟨_, by first | rfl | (simp [errW_none, errW_some] <;> rfl) | (simp [*, errW_none, errW_some] <;> rfl), by (with_reducible repeat (first | apply Kd.R_alloc | apply Kd.R_drewN | apply Kd.R_drew)); exact HO217.out, by repeat (first | (with_reducible first | exact HB.out | apply below_alloc | apply pw_below_drewN | apply below_drew1) | exact HB.out)⟩
     ·rw [if_neg c9] at H
      exact absurd H (by simp)
    ·rw [if_neg c8] at H
     have c8b0 : (t214.toList == ([] : List UInt8)) = false := beq_eq_false_iff_ne.mpr c8
     have c8b1 : (t214.toList != ([] : List UInt8)) = true := bne_iff_ne.mpr c8
     by_cases c12 : x7_1.length < 140737488355328
     ·rw [if_pos c12] at H
      have LMc12 := Aside0.mk c12
      clear c12
      obtain ⟨y218, hy218⟩ : ∃ y_ : List Int, y_ = (x7_1 ++ [32]) := ⟨_, rfl⟩
      replace H : (if y218.length + t214.size < 140737488355328 then ((some (y218 ++ bytesOf t214 : List Int)).bind fun y221 => (if y221.length < 140737488355328 then (some (y221 ++ [10])) else (none))) else (none)) = some r := by first | (rw [hy218]; with_reducible exact H) | (have H2_ := (Option.bind_some _ _).symm.trans H; rw [hy218]; with_reducible exact H2_) | (have H2_ := (Option.bind_some _ _).symm.trans H; with_reducible exact H2_) | with_reducible exact H | (rw [hy218]; exact H) | exact H
      have Ny218 := Aside0.mk hy218
      clear hy218
      by_cases c13 : y218.length + t214.size < 140737488355328
      ·rw [if_pos c13] at H
       have LMc13 := Aside0.mk c13
       clear c13
       obtain ⟨y221, hy221⟩ : ∃ y_ : List Int, y_ = (y218 ++ bytesOf t214) := ⟨_, rfl⟩
       replace H : (if y221.length < 140737488355328 then (some (y221 ++ [10])) else (none)) = some r := by first | (rw [hy221]; with_reducible exact H) | (have H2_ := (Option.bind_some _ _).symm.trans H; rw [hy221]; with_reducible exact H2_) | (have H2_ := (Option.bind_some _ _).symm.trans H; with_reducible exact H2_) | with_reducible exact H | (rw [hy221]; exact H) | exact H
       have Ny221 := Aside0.mk hy221
       clear hy221
       by_cases c14 : y221.length < 140737488355328
       ·rw [if_pos c14] at H
        have LMc14 := Aside0.mk c14
        clear c14
        obtain ⟨y224, hy224⟩ : ∃ y_ : List Int, y_ = (y221 ++ [10]) := ⟨_, rfl⟩
        replace H : (some y224) = some r := by first | (rw [hy224]; with_reducible exact H) | (have H2_ := (Option.bind_some _ _).symm.trans H; rw [hy224]; with_reducible exact H2_) | (have H2_ := (Option.bind_some _ _).symm.trans H; with_reducible exact H2_) | with_reducible exact H | (rw [hy224]; exact H) | exact H
        have Ny224 := Aside0.mk hy224
        clear hy224
        obtain rfl := Option.some.inj H
        go_wp2_with (first | ((with_reducible refine gate_callee (f := 15) rfl ?_); refine goesL_ (some 20) rfl rfl Tryd.func15 (by kernel_rfl) rfl #[.string a2] rfl (by (try simp only [List.map_toArray, List.map_cons, List.map_nil]); first | done | rfl | (simp only [List.length_drop, List.length_take]; rfl)) ?_; (with_reducible refine (scarfref18_Labelled.calls k1 a2 t214 _ A7.out).mono ?_); rintro e w15 ⟨rfl, hb⟩; refine ⟨_, rfl, ?_⟩; have n0_ := Aside0.mk (Kd.R_below (by (with_reducible repeat (first | apply Kd.R_alloc | apply Kd.R_drewN | apply Kd.R_drew)); exact HO_7.out) hb); have n1_ := Aside0.mk (below_step (by repeat (first | (with_reducible first | exact HB.out | apply below_alloc | apply pw_below_drewN | apply below_drew1) | exact HB.out)) hb); clear HO_7; clear HB; have HO_7 := n0_; have HB := n1_; clear n0_ n1_; (try clear hb); (try clear hb2); (try clear hk); (try clear hi)) | ((with_reducible refine gate_builtin (b := .append) (xs := #[.tmp 23, .tmp 24]) rfl ?_); at_builtin; refine Kd.R_append (Kd.int .u8) (w0 := w) w.heap.size rfl (.tmp 23) (.tmp 24) 22 5 (.int .u8 0) 1 rfl Tryd.underlying22 info5 rfl (by decide) (by omega) u7 x7_1 32 [.int .u8 32] (fun _ => True) (fun _ => False) rfl rfl ?aP (fun _ hk => hk.elim) ?aF ?aO ?aB ?aS ?aL ?_; (case aP => exact rfl); (case aB => exact (by repeat (first | (with_reducible first | exact HB.out | apply below_alloc | apply pw_below_drewN | apply below_drew1) | exact HB.out))); (case aF => exact (fun _ _ => trivial)); (case aO => exact (by (with_reducible repeat (first | apply Kd.R_alloc | apply Kd.R_drewN | apply Kd.R_drew)); exact HO_7.out)); (case aS => exact (below_size (by repeat (first | (with_reducible first | exact HB.out | apply below_alloc | apply pw_below_drewN | apply below_drew1) | exact HB.out)))); (case aL => have := LMc12.out; omega); intro v219 w16 ho hb hg hat; rw [← Ny218.out] at ho; have n0_ := Aside0.mk (hb); have n1_ := Aside0.mk (ho); clear HB; clear HO_7; have HB := n0_; have HO220 := n1_; clear n0_ n1_; clear ho hb hg hat) | (at_builtin; refine print_append_str (w0 := w) w.heap.size rfl (.tmp 25) _ 22 9 5 rfl Tryd.underlying22 Tryd.underlying9 info5 v219 y218 t214 rfl rfl ?aO ?aB ?aS ?aL ?_; (case aB => exact (by repeat (first | (with_reducible first | exact HB.out | apply below_alloc | apply pw_below_drewN | apply below_drew1) | exact HB.out))); (case aO => exact (Kd.own_of_R (by (with_reducible repeat (first | apply Kd.R_alloc | apply Kd.R_drewN | apply Kd.R_drew)); exact HO220.out))); (case aS => exact (below_size (by repeat (first | (with_reducible first | exact HB.out | apply below_alloc | apply pw_below_drewN | apply below_drew1) | exact HB.out)))); (case aL => have := LMc13.out; omega); intro v222 w17 ho0 hb hg; have ho := Kd.R_of_own (h1 := fun _ => rfl) (ok := fun _ => True) ho0 (fun _ _ => trivial); clear ho0; have hat := True.intro; rw [← Ny221.out] at ho; change Kd.R (Kd.int .u8) 5 w17 w.heap.size (fun _ => True) v222 y221 at ho; have n0_ := Aside0.mk (hb); have n1_ := Aside0.mk (ho); clear HB; clear HO220; have HB := n0_; have HO223 := n1_; clear n0_ n1_; clear ho hb hg hat) | ((with_reducible refine gate_builtin (b := .append) (xs := #[.tmp 28, .tmp 29]) rfl ?_); at_builtin; refine Kd.R_append (Kd.int .u8) (w0 := w) w.heap.size rfl (.tmp 28) (.tmp 29) 22 5 (.int .u8 0) 1 rfl Tryd.underlying22 info5 rfl (by decide) (by omega) v222 y221 10 [.int .u8 10] (fun _ => True) (fun _ => False) rfl rfl ?aP (fun _ hk => hk.elim) ?aF ?aO ?aB ?aS ?aL ?_; (case aP => exact rfl); (case aB => exact (by repeat (first | (with_reducible first | exact HB.out | apply below_alloc | apply pw_below_drewN | apply below_drew1) | exact HB.out))); (case aF => exact (fun _ _ => trivial)); (case aO => exact (by (with_reducible repeat (first | apply Kd.R_alloc | apply Kd.R_drewN | apply Kd.R_drew)); exact HO223.out)); (case aS => exact (below_size (by repeat (first | (with_reducible first | exact HB.out | apply below_alloc | apply pw_below_drewN | apply below_drew1) | exact HB.out)))); (case aL => have := LMc14.out; omega); intro v225 w18 ho hb hg hat; rw [← Ny224.out] at ho; have n0_ := Aside0.mk (hb); have n1_ := Aside0.mk (ho); clear HB; clear HO223; have HB := n0_; have HO226 := n1_; clear n0_ n1_; clear ho hb hg hat))
        go_ret
        exact ⟨_, by first | rfl | (simp [errW_none, errW_some] <;> rfl) | (simp [*, errW_none, errW_some] <;> rfl), by (with_reducible repeat (first | apply Kd.R_alloc | apply Kd.R_drewN | apply Kd.R_drew)); exact HO226.out, by repeat (first | (with_reducible first | exact HB.out | apply below_alloc | apply pw_below_drewN | apply below_drew1) | exact HB.out)⟩
       ·rw [if_neg c14] at H
        exact absurd H (by simp)
      ·rw [if_neg c13] at H
       exact absurd H (by simp)
     ·rw [if_neg c12] at H
      exact absurd H (by simp)
-- NOT PRINTED: function 21 (scarfref18_Write)
-- NOT PRINTED: function 22 (mark_Pick)
-- NOT PRINTED: function 23 (scarfref18_Pick)
-- NOT PRINTED: function 7 (scarflaw18_MarkWrites)
-- NOT PRINTED: function 8 (scarflaw18_MarkPicks)
end Go.Proofs.YtnnnbeimehfiiaaDoor.Q
-- Written by a program of this session (wip/gen_ws.py) for this claim; Lean checks it.
/-! Appends over one fact; the reference's Ended, walked; its marker lines. -/
set_option linter.unusedVariables false
set_option linter.unusedSimpArgs false
namespace Go.Proofs.YtnnnbeimehfiiaaDoor.Q
open Go Go.RowKit Go.Proofs.YtnnnbeimehfiiaaDoorW.PrintWords Go.Proofs.YtnnnbeimehfiiaaDoorW.PrintLast Go.Proofs.YtnnnbeimehfiiaaDoorW.PrintMore Go.Proofs.YtnnnbeimehfiiaaDoorW.SL
/-- A row as it is, bytes. -/
def rw8 (v : Value) (l : List Int) : Asr := row v 5 1 l.length (us8 l)
/-- A row of parts. -/
def rwP (v : Value) (e n : Nat) (cells : List Value) : Asr := row v e 5 n cells
theorem row8 {w0 W : World} {Z : Nat → Prop} {L : List Asr} {F : List FA} (S : Stt w0 Z L F W) (i : Nat) {v : Value} {l : List Int} (hi : L[i]? = some (rw8 v l)) : Rw 0 W v l := S.rowAt i hi
section
variable {P : Program} {ops : Array Oper} {o : Oper} {a : Act} {Q : Exit → Act → World → Prop} {K : Act → World → Prop} {W w0 : World} {Z : Nat → Prop} {L : List Asr} {F : List FA}
/-- append(s, x...), bytes. -/
theorem st_app (hw : Region.wanted o (yielded ops a.tmps) = true) (s x : Operand)
    (ho : o.op = .call { callee := .builtin .append, args := #[s, x], argTypes := #[22, 22] })
    (ht : P.underlying 22 = some (.slice 5)) (hinfo : (P.info? 5).map (fun i => (i.zero, i.size, i.bytes)) = some (some (.int .u8 0), 1, 1))
    (i : Nat) {v : Value} {l ys : List Int} {A : Option Addr} {c : Nat} (hs : a.eval s = v) (hx : a.eval x = .slice A ys.length c)
    (S : Stt w0 Z L F W) (hi : L[i]? = some (rw8 v l)) (HX : Kd.C B8 W A ys.length ys) (hl : l.length + ys.length ≤ 140737488355328)
    (h : ∀ v1 w1, Stt w0 Z (L.set i (rw8 v1 (l ++ ys))) F w1 → K (a.put o.dst v1) w1) :
    if Region.wanted o (yielded ops a.tmps) = true then Oper.wp P o a W K Q else K (a.put o.dst undef) W := by
  obtain ⟨i0, hi0, hzz⟩ := Option.map_eq_some_iff.1 hinfo
  simp only [Prod.mk.injEq] at hzz
  obtain ⟨hz0, hz1, hz2⟩ := hzz
  have HO := row8 S i hi
  rw [if_pos hw]
  cases A with
  | none =>
    obtain rfl := ys_none HX
    have hr := app_none (P := P) (w := W) 0 22 o.type 5 i0 1 c ht hi0 v l.length (us8 l) HO
    unfold Oper.wp execOp
    simp only [List.length_nil] at hx
    simp only [ho, resolve, invoke, builtin, Sem.run_bind, Sem.run_pure, Result.andThen_ok, List.map_toArray, List.map_cons, List.map_nil, hs, hx, hr]
    refine h v W ?_
    rw [List.append_nil, show L.set i (rw8 v l) = L from ?_]
    · exact S
    · obtain ⟨hlt, he⟩ := List.getElem?_eq_some_iff.1 hi
      rw [← he]; exact List.set_getElem_self hlt
  | some ad =>
    obtain ⟨v1, w1, hr, hown, hgr, _, hat⟩ := run_append_own_at (P := P) W 0 22 o.type 5 i0 (.int .u8 0) 1 1 ht hi0 hz0 hz1 hz2 rfl (by decide) v l.length (us8 l) HO ad ys.length c (us8 ys) (by simp)
      (fun j u hj => by
        have hjl : j < ys.length := by have := (List.getElem?_eq_some_iff.1 hj).1; simpa using this
        obtain ⟨ad', he, hc⟩ := Kd.at_int HX (j : Int) (by omega) (by omega)
        injection he with he
        subst he
        simp only [Int.toNat_natCast] at hc
        rw [hc, ← hj, rd_get hjl]
        simp [us8, List.getElem?_eq_getElem hjl]) (fun u hu => by obtain ⟨q, _, rfl⟩ := List.mem_map.1 hu; rfl) (by simp only [maxLen]; omega) (by omega) (Nat.zero_le _)
    unfold Oper.wp execOp
    simp only [ho, resolve, invoke, builtin, Sem.run_bind, Sem.run_pure, Result.andThen_ok, List.map_toArray, List.map_cons, List.map_nil, hs, hx, hr]
    refine h v1 w1 ?_
    have := S.updRow i (v' := v1) (n' := (l ++ ys).length) (xs' := us8 (l ++ ys)) hi (by
      rw [List.length_append, show us8 (l ++ ys) = us8 l ++ us8 ys from List.map_append]; exact hown) hgr (hat.imp id fun h => ⟨_, h, Nat.le_refl _⟩)
    exact this
/-- append(s, p): one element of five cells, its literal's row just made. -/
theorem st_push (hw : Region.wanted o (yielded ops a.tmps) = true) (s x : Operand) (t e : TypeId) (z : Value)
    (ho : o.op = .call { callee := .builtin .append, args := #[s, x], argTypes := #[t, t] })
    (ht : P.underlying t = some (.slice e)) (hinfo : (P.info? e).map (fun i => (i.zero, i.size, i.bytes)) = some (some z, 5, 104)) (hz : z.cells.size = 5)
    (i : Nat) {v : Value} {n g : Nat} {cells cs : List Value} (hs : a.eval s = v) (hx : a.eval x = .slice (some ⟨g, 0, none⟩) 1 1)
    (S : Stt w0 Z (row (.slice (some ⟨g, 0, none⟩) 1 1) e 5 1 cs :: L) F W) (hi : L[i]? = some (rwP v e n cells)) (h1 : ∀ u ∈ cs, u.oneCell' = true) (hl : (n + 1) * 104 ≤ 140737488355328)
    (h : ∀ v1 w1, Stt w0 Z (L.set i (rwP v1 e (n + 1) (cells ++ cs))) F w1 → K (a.put o.dst v1) w1) :
    if Region.wanted o (yielded ops a.tmps) = true then Oper.wp P o a W K Q else K (a.put o.dst undef) W :=
  app_step hw s x t e z 5 104 ho ht hinfo hz (by decide) (by decide) v _ n cells cs hs hx h1 (S.rowAt (i + 1) hi) (S.rowAt 0 rfl) hl
    fun v1 w1 ho hg hat => h v1 w1 (S.updRow (i + 1) hi ho hg hat).drop
end
set_option maxHeartbeats 16000000 in
set_option maxRecDepth 100000 in
theorem Ended_calls (A : Option Addr) (c : Nat) (l : List Int) (w : World) (hr : Kd.C B8 w A l.length l) (hc : l.length ≤ c) (hm : l.length + 1 ≤ 140737488355328) :
    Calls Tryd.prog 39 #[.slice A l.length c] w fun e w' => Below w.heap.size w w' ∧ ((e = .returned (.slice A l.length c) ∧ endNl l = l) ∨ ∃ v', e = .returned v' ∧ endNl l = l ++ [10] ∧ Rw w.heap.size w' v' (l ++ [10])) := by
  rcases List.eq_nil_or_concat l with rfl | ⟨r, x, hl⟩
  · go_enter Tryd.func39, Tryd.ntmps39
    go_wp2
    go_ret
    exact ⟨Below.refl _ _, .inl ⟨rfl, rfl⟩⟩
  · have hl2 : l = r ++ [x] := by simpa using hl
    have hlen : 0 < l.length := by rw [hl2]; simp
    have hn1 : wrap64 ((l.length : Int) - 1) = (l.length : Int) - 1 := by unfold wrap64; omega
    obtain ⟨ad, rfl, hcell⟩ := Kd.at_int hr ((l.length : Int) - 1) (by omega) (by omega)
    have hx1 : rd l ((l.length : Int) - 1) = x := by
      rw [show ((l.length : Int) - 1) = ((l.length - 1 : Nat) : Int) by omega, rd_get (by omega)]
      have e1 : l.length - 1 = r.length := by rw [hl2]; simp
      simp [hl2]
    rw [hx1, show ((l.length : Int) - 1).toNat = l.length - 1 by omega] at hcell
    have hen := endNl_snoc r x
    rw [← hl2] at hen
    replace hen := Aside0.mk hen
    have hb1 := eq_true hlen
    have hb2 := eq_true (show (0 : Int) < (l.length : Int) by omega)
    have hb3 := eq_true (show (0 : Int) ≤ (l.length : Int) - 1 by omega)
    have hb4 := eq_true (show (l.length : Int) - 1 < (l.length : Int) by omega)
    have hb5 := eq_true (show (1 : Int) ≤ (l.length : Int) by omega)
    have hb6 := eq_false (show ¬ (l.length : Int) < 1 by omega)
    have H := Aside0.mk (⟨hr, hc, hm⟩ : _ ∧ _ ∧ _)
    clear hl hl2 hx1 hr hc hm hlen
    by_cases h10 : x = 10
    · subst h10
      go_enter Tryd.func39, Tryd.ntmps39
      go_wp2
      go_ret
      exact ⟨Below.refl _ _, .inl ⟨rfl, by rw [hen.out]; simp⟩⟩
    · have hne := eq_false h10
      have hne2 : (x == 10) = false := by rw [beq_eq_false_iff_ne]; exact h10
      have hne3 : (x != 10) = true := by rw [bne, hne2]; rfl
      replace h10 := Aside0.mk h10
      go_enter Tryd.func39, Tryd.ntmps39
      go_wp2_with (first | ((with_reducible refine gate_builtin (b := .append) (xs := #[.tmp 15, .tmp 16]) rfl ?_); at_builtin; refine wpl rfl (fun K hK => rw_app (B := w.heap.size) (by rfl) (.tmp 15) (.tmp 16) rfl Tryd.underlying22 inf5 rfl rfl (Rw.new (Nat.le_refl _)) (Kd.C_below H.out.1 (below_alloc (Below.refl _ _) _)) (by simp) (by have := H.out.2.2; simp; omega) ?_); intro v_ w_ r_ g_; refine hK _ _ ?_; rw [List.nil_append] at r_; have b_ := g_.below w (below_alloc (Below.refl _ _) _) (by simp); have Q1 := Aside0.mk (And.intro r_ b_); clear r_ g_ b_; obtain ⟨w1, rfl⟩ : ∃ q, q = w_ := ⟨_, rfl⟩) | ((with_reducible refine gate_builtin (b := .append) (xs := #[.tmp 17, .tmp 18]) rfl ?_); at_builtin; refine wpl rfl (fun K hK => rw_one (B := w.heap.size) (g := w1.heap.size) (by rfl) (.tmp 17) (.tmp 18) rfl Tryd.underlying22 inf5 (heap_alloc_new w1 _) rfl rfl rfl (Q1.out.1.below (below_alloc (Below.refl _ _) _)) (Nat.le_trans Q1.out.2.2 (by simp)) (by have := H.out.2.2; omega) ?_); intro v_ w_ r_ g_; refine hK _ _ ?_; have b_ := g_.below w (Q1.out.2.1.trans (below_lo (below_alloc (Below.refl w1.heap.size w1) _) Q1.out.2.2)) (Nat.le_trans Q1.out.2.2 (by simp)); have HX := Aside0.mk (And.intro r_ b_.1); clear r_ g_ b_))
      go_ret
      exact ⟨HX.out.2, .inr ⟨_, rfl, by rw [hen.out, if_neg h10.out], HX.out.1⟩⟩
end Go.Proofs.YtnnnbeimehfiiaaDoor.Q
-- Written by a program of this session (wip/gen_pick.py) for this claim; Lean checks it.
/-! mark.Pick: in plain Lean, and walked. -/
set_option linter.unusedVariables false
set_option linter.unusedSimpArgs false
namespace Go.Proofs.YtnnnbeimehfiiaaDoor.Q
open Go Go.RowKit Go.Proofs.YtnnnbeimehfiiaaDoorW.PrintWords Go.Proofs.YtnnnbeimehfiiaaDoorW.PrintLast Go.Proofs.YtnnnbeimehfiiaaDoorW.PrintMore Go.Proofs.YtnnnbeimehfiiaaDoorW.SL
attribute [local go_sem] max2_int min2_int max_two min_two max_three min_three max_four min_four
/-- What a round reads: the part in hand, the part's rows. -/
structure Rd4 (w wA w1 : World) (pb g : Nat) (p : Pt) (A1 A2 A3 A4 : Option Addr) (c1 c2 c3 c4 : Nat) (W : World) : Prop where
  b0 : W.cell? ⟨g, 0, none⟩ = some (.bool p.region)
  b1 : W.cell? ⟨g, 1, none⟩ = some (.slice A1 p.text.length c1)
  b2 : W.cell? ⟨g, 2, none⟩ = some (.slice A2 p.s0.length c2)
  b3 : W.cell? ⟨g, 3, none⟩ = some (.slice A3 p.s1.length c3)
  b4 : W.cell? ⟨g, 4, none⟩ = some (.slice A4 p.s2.length c4)
  h1 : Kd.C B8 W A1 p.text.length p.text
  h2 : Kd.C B8 W A2 p.s0.length p.s0
  h3 : Kd.C B8 W A3 p.s1.length p.s1
  h4 : Kd.C B8 W A4 p.s2.length p.s2
  bA : Below pb wA W
theorem Rd4.of {w wA w1 : World} {pb g : Nat} {p : Pt} {A1 A2 A3 A4 : Option Addr} {c1 c2 c3 c4 : Nat}
    (hbx : BoxP g #[.bool p.region, .slice A1 p.text.length c1, .slice A2 p.s0.length c2, .slice A3 p.s1.length c3, .slice A4 p.s2.length c4] w1) (hg : g ≠ pb) (hwp : w.heap.size ≤ pb) (h1 : Below pb wA w1)
    (g1 : Kd.F B8 w1 (fun k => k < w.heap.size) A1 p.text.length p.text) (g2 : Kd.F B8 w1 (fun k => k < w.heap.size) A2 p.s0.length p.s0) (g3 : Kd.F B8 w1 (fun k => k < w.heap.size) A3 p.s1.length p.s1) (g4 : Kd.F B8 w1 (fun k => k < w.heap.size) A4 p.s2.length p.s2) :
    ∀ W, Pk pb pb w1 W → Rd4 w wA w1 pb g p A1 A2 A3 A4 c1 c2 c3 c4 W := fun W hk => by
  have hW : Below pb wA W := h1.trans hk.1
  have hB := (hbx.pk hg hk).cells
  have st : ∀ k, k < w.heap.size → W.heap[k]? = w1.heap[k]? := fun k hk2 => hk.1.block k (by omega)
  exact ⟨hB.1, hB.2.1, hB.2.2.1, hB.2.2.2.1, hB.2.2.2.2, Kd.F_now (Kd.F_step g1 (fun k hk _ => st k hk)), Kd.F_now (Kd.F_step g2 (fun k hk _ => st k hk)), Kd.F_now (Kd.F_step g3 (fun k hk _ => st k hk)), Kd.F_now (Kd.F_step g4 (fun k hk _ => st k hk)), hW⟩
end Go.Proofs.YtnnnbeimehfiiaaDoor.Q
