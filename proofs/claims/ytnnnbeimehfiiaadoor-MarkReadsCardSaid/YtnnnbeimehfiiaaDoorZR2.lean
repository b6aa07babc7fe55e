/- The texts of this claim that lie below its row, in their order: MShelf KLabel Qx4 KEv KAny KRr0 KRr KSame KPg KPgM KWr0. -/
import Derived.Shelf.Strings.Trim
import Derived.Shelf.Strings.Repeat
import Derived.Shelf.Bytes.WriteAt
import Derived.Shelf.Bytes.WriteByteAt
import Derived.Shelf.Bytes.WriteStringAt
import Derived.Shelf.Bytes.LenAt
import Derived.Shelf.Bytes.Bytes
import Derived.Test.YtnnnbeimehfiiaaDoorProg
import Derived.Lib.ConvBytes
import Derived.Laws.BytesArg
import Derived.Deep.DeepMust
import Derived.Test.YtnnnbeimehfiiaaDoorZR1
/-
  DERIVED: THE SHELF's CONTRACTS AT THIS DUMP, IN PLAIN WORDS (tools/lay-plain.mjs out of 'YtnnnbeimehfiiaaDoorXShelf.lean', which tools/lay-shelf.mjs wrote): THE SAME DECLARATIONS UNDER THE SAME NAMES: 'import', 'namespace', 'open', 'def', 'theorem' AND NOTHING ELSE: no command of the shelf's: FOR A HAND-IN. Each laying: the table of numbers ('.._ren') and one theorem, a field a fact of the dump's own or the kernel's comparison; each contract: ONE APPLICATION.
-/
namespace Go.Proofs
open Go.Shelf
def Tryd.lays162_ren : Go.Shelf.Ren := ⟨fun | 162 => 30 | 232 => 44 | 227 => 45 | 234 => 46 | 236 => 47 | 228 => 60 | 271 => 61 | 151 => 62 | 120 => 74 | 197 => 75 | 152 => 76 | 260 => 84 | 137 => 48 | 119 => 85 | 224 => 86 | 225 => 87 | 217 => 63 | 266 => 77 | n => n, fun | 9 => 9 | 4 => 4 | 3 => 3 | 5 => 5 | 117 => 89 | 116 => 88 | 0 => 0 | 124 => 92 | 21 => 21 | 105 => 107 | 46 => 111 | 119 => 132 | 139 => 135 | 138 => 134 | n => n, fun | 3 => 2 | 4 => 3 | n => n⟩
theorem Tryd.lays162 : Go.Proofs.Lays.n162 Tryd.prog Tryd.lays162_ren := {
  mixed := by kernel_rfl
  f119 := Tryd.func85.trans (congrArg some (by kernel_rfl))
  f120 := Tryd.func74.trans (congrArg some (by kernel_rfl))
  f137 := Tryd.func48.trans (congrArg some (by kernel_rfl))
  f151 := Tryd.func62.trans (congrArg some (by kernel_rfl))
  f152 := Tryd.func76.trans (congrArg some (by kernel_rfl))
  f162 := Tryd.func30.trans (congrArg some (by kernel_rfl))
  f197 := Tryd.func75.trans (congrArg some (by kernel_rfl))
  f217 := Tryd.func63.trans (congrArg some (by kernel_rfl))
  f224 := Tryd.func86.trans (congrArg some (by kernel_rfl))
  f225 := Tryd.func87.trans (congrArg some (by kernel_rfl))
  f227 := Tryd.func45.trans (congrArg some (by kernel_rfl))
  f228 := Tryd.func60.trans (congrArg some (by kernel_rfl))
  f232 := Tryd.func44.trans (congrArg some (by kernel_rfl))
  f234 := Tryd.func46.trans (congrArg some (by kernel_rfl))
  f236 := Tryd.func47.trans (congrArg some (by kernel_rfl))
  f260 := Tryd.func84.trans (congrArg some (by kernel_rfl))
  f266 := Tryd.func77.trans (congrArg some (by kernel_rfl))
  f271 := Tryd.func61.trans (congrArg some (by kernel_rfl))
  t0 := Tryd.underlying0
  a0 := Tryd.isAgg0
  z0 := Tryd.sizeOf0
  v0 := Tryd.zeroValue0
  t3 := Tryd.underlying3
  a3 := Tryd.isAgg3
  z3 := Tryd.sizeOf3
  v3 := Tryd.zeroValue3
  t4 := Tryd.underlying4
  a4 := Tryd.isAgg4
  z4 := Tryd.sizeOf4
  v4 := Tryd.zeroValue4
  t5 := Tryd.underlying5
  a5 := Tryd.isAgg5
  z5 := Tryd.sizeOf5
  v5 := Tryd.zeroValue5
  t9 := Tryd.underlying9
  a9 := Tryd.isAgg9
  z9 := Tryd.sizeOf9
  v9 := Tryd.zeroValue9
  t21 := Tryd.underlying21
  a21 := Tryd.isAgg21
  z21 := Tryd.sizeOf21
  v21 := Tryd.zeroValue21
  t46 := Tryd.underlying111
  a46 := Tryd.isAgg111
  z46 := Tryd.sizeOf111
  v46 := Tryd.zeroValue111
  t105 := Tryd.underlying107
  a105 := Tryd.isAgg107
  z105 := Tryd.sizeOf107
  v105 := Tryd.zeroValue107
  t116 := Tryd.underlying88
  a116 := Tryd.isAgg88
  z116 := Tryd.sizeOf88
  t117 := Tryd.underlying89
  a117 := Tryd.isAgg89
  z117 := Tryd.sizeOf89
  v117 := Tryd.zeroValue89
  t119 := Tryd.underlying132
  a119 := Tryd.isAgg132
  z119 := Tryd.sizeOf132
  t124 := Tryd.underlying92
  a124 := Tryd.isAgg92
  z124 := Tryd.sizeOf92
  v124 := Tryd.zeroValue92
  t138 := Tryd.underlying134
  a138 := Tryd.isAgg134
  z138 := Tryd.sizeOf134
  v138 := Tryd.zeroValue134
  t139 := Tryd.underlying135
  a139 := Tryd.isAgg135
  z139 := Tryd.sizeOf135
  v139 := Tryd.zeroValue135
  g3 := by kernel_rfl
  g4 := by kernel_rfl }
def Tryd.lays105_ren : Go.Shelf.Ren := ⟨fun | 105 => 55 | 212 => 66 | 99 => 67 | 165 => 68 | 166 => 69 | 170 => 70 | 169 => 71 | 263 => 79 | 264 => 80 | 206 => 81 | 240 => 82 | 241 => 83 | 276 => 88 | 277 => 89 | n => n, fun | 9 => 9 | 3 => 3 | 4 => 4 | 20 => 20 | 0 => 0 | 46 => 111 | 109 => 112 | 5 => 5 | 72 => 117 | 76 => 76 | 51 => 121 | 146 => 122 | 53 => 49 | 148 => 124 | 70 => 115 | 37 => 22 | 75 => 75 | 127 => 126 | 164 => 129 | 80 => 119 | n => n, fun | n => n⟩
theorem Tryd.lays105 : Go.Proofs.Lays.n105 Tryd.prog Tryd.lays105_ren := {
  mixed := by kernel_rfl
  f99 := Tryd.func67.trans (congrArg some (by kernel_rfl))
  f105 := Tryd.func55.trans (congrArg some (by kernel_rfl))
  f165 := Tryd.func68.trans (congrArg some (by kernel_rfl))
  f166 := Tryd.func69.trans (congrArg some (by kernel_rfl))
  f169 := Tryd.func71.trans (congrArg some (by kernel_rfl))
  f170 := Tryd.func70.trans (congrArg some (by kernel_rfl))
  f206 := Tryd.func81.trans (congrArg some (by kernel_rfl))
  f212 := Tryd.func66.trans (congrArg some (by kernel_rfl))
  f240 := Tryd.func82.trans (congrArg some (by kernel_rfl))
  f241 := Tryd.func83.trans (congrArg some (by kernel_rfl))
  f263 := Tryd.func79.trans (congrArg some (by kernel_rfl))
  f264 := Tryd.func80.trans (congrArg some (by kernel_rfl))
  f276 := Tryd.func88.trans (congrArg some (by kernel_rfl))
  f277 := Tryd.func89.trans (congrArg some (by kernel_rfl))
  t0 := Tryd.underlying0
  a0 := Tryd.isAgg0
  z0 := Tryd.sizeOf0
  v0 := Tryd.zeroValue0
  t3 := Tryd.underlying3
  a3 := Tryd.isAgg3
  z3 := Tryd.sizeOf3
  v3 := Tryd.zeroValue3
  t4 := Tryd.underlying4
  a4 := Tryd.isAgg4
  z4 := Tryd.sizeOf4
  v4 := Tryd.zeroValue4
  t5 := Tryd.underlying5
  a5 := Tryd.isAgg5
  z5 := Tryd.sizeOf5
  v5 := Tryd.zeroValue5
  t9 := Tryd.underlying9
  a9 := Tryd.isAgg9
  z9 := Tryd.sizeOf9
  v9 := Tryd.zeroValue9
  t20 := Tryd.underlying20
  a20 := Tryd.isAgg20
  z20 := Tryd.sizeOf20
  v20 := Tryd.zeroValue20
  t37 := Tryd.underlying22
  a37 := Tryd.isAgg22
  z37 := Tryd.sizeOf22
  v37 := Tryd.zeroValue22
  t46 := Tryd.underlying111
  a46 := Tryd.isAgg111
  z46 := Tryd.sizeOf111
  v46 := Tryd.zeroValue111
  t51 := Tryd.underlying121
  a51 := Tryd.isAgg121
  z51 := Tryd.sizeOf121
  v51 := Tryd.zeroValue121
  t53 := Tryd.underlying49
  a53 := Tryd.isAgg49
  z53 := Tryd.sizeOf49
  v53 := Tryd.zeroValue49
  t70 := Tryd.underlying115
  a70 := Tryd.isAgg115
  z70 := Tryd.sizeOf115
  v70 := Tryd.zeroValue115
  t72 := Tryd.underlying117
  a72 := Tryd.isAgg117
  z72 := Tryd.sizeOf117
  v72 := Tryd.zeroValue117
  t75 := Tryd.underlying75
  a75 := Tryd.isAgg75
  z75 := Tryd.sizeOf75
  v75 := Tryd.zeroValue75
  t76 := Tryd.underlying76
  a76 := Tryd.isAgg76
  z76 := Tryd.sizeOf76
  v76 := Tryd.zeroValue76
  t109 := Tryd.underlying112
  a109 := Tryd.isAgg112
  z109 := Tryd.sizeOf112
  v109 := Tryd.zeroValue112
  t127 := Tryd.underlying126
  a127 := Tryd.isAgg126
  z127 := Tryd.sizeOf126
  v127 := Tryd.zeroValue126
  t146 := Tryd.underlying122
  a146 := Tryd.isAgg122
  z146 := Tryd.sizeOf122
  v146 := Tryd.zeroValue122
  t148 := Tryd.underlying124
  a148 := Tryd.isAgg124
  z148 := Tryd.sizeOf124
  v148 := Tryd.zeroValue124
  t164 := Tryd.underlying129
  a164 := Tryd.isAgg129
  z164 := Tryd.sizeOf129
  v164 := Tryd.zeroValue129 }
def Tryd.lays178_ren : Go.Shelf.Ren := ⟨fun | 178 => 54 | 251 => 49 | 252 => 50 | 181 => 51 | 184 => 64 | 290 => 65 | 324 => 78 | n => n, fun | 130 => 94 | 9 => 9 | 3 => 3 | 75 => 75 | 0 => 0 | 93 => 71 | 91 => 69 | 131 => 95 | 4 => 4 | 37 => 22 | 20 => 20 | 80 => 119 | 5 => 5 | n => n, fun | 14 => 0 | n => n⟩
theorem Tryd.lays178 : Go.Proofs.LaysM.n178 Tryd.prog Tryd.lays178_ren := {
  mixed := by kernel_rfl
  f178 := Tryd.func54.trans (congrArg some (by kernel_rfl))
  f181 := Tryd.func51.trans (congrArg some (by kernel_rfl))
  f184 := Tryd.func64.trans (congrArg some (by kernel_rfl))
  f251 := Tryd.func49.trans (congrArg some (by kernel_rfl))
  f252 := Tryd.func50.trans (congrArg some (by kernel_rfl))
  f290 := Tryd.func65.trans (congrArg some (by kernel_rfl))
  f324 := Tryd.func78.trans (congrArg some (by kernel_rfl))
  t0 := Tryd.underlying0
  a0 := Tryd.isAgg0
  z0 := Tryd.sizeOf0
  v0 := Tryd.zeroValue0
  t3 := Tryd.underlying3
  a3 := Tryd.isAgg3
  z3 := Tryd.sizeOf3
  v3 := Tryd.zeroValue3
  t4 := Tryd.underlying4
  a4 := Tryd.isAgg4
  z4 := Tryd.sizeOf4
  v4 := Tryd.zeroValue4
  t9 := Tryd.underlying9
  a9 := Tryd.isAgg9
  z9 := Tryd.sizeOf9
  v9 := Tryd.zeroValue9
  t20 := Tryd.underlying20
  a20 := Tryd.isAgg20
  z20 := Tryd.sizeOf20
  v20 := Tryd.zeroValue20
  t37 := Tryd.underlying22
  a37 := Tryd.isAgg22
  z37 := Tryd.sizeOf22
  v37 := Tryd.zeroValue22
  t75 := Tryd.underlying75
  a75 := Tryd.isAgg75
  z75 := Tryd.sizeOf75
  v75 := Tryd.zeroValue75
  t91 := Tryd.underlying69
  a91 := Tryd.isAgg69
  z91 := Tryd.sizeOf69
  v91 := Tryd.zeroValue69
  t93 := Tryd.underlying71
  a93 := Tryd.isAgg71
  z93 := Tryd.sizeOf71
  v93 := Tryd.zeroValue71
  t130 := Tryd.underlying94
  a130 := Tryd.isAgg94
  z130 := Tryd.sizeOf94
  v130 := Tryd.zeroValue94
  t131 := Tryd.underlying95
  a131 := Tryd.isAgg95
  z131 := Tryd.sizeOf95
  v131 := Tryd.zeroValue95
  g14 := by kernel_rfl
  t5 := Tryd.underlying5
  a5 := Tryd.isAgg5
  z5 := Tryd.sizeOf5
  v5 := Tryd.zeroValue5
  t80 := Tryd.underlying119
  a80 := Tryd.isAgg119
  z80 := Tryd.sizeOf119
  v80 := Tryd.zeroValue119
  i0 := by kernel_rfl
  i3 := by kernel_rfl
  i4 := by kernel_rfl
  i5 := by kernel_rfl
  i9 := by kernel_rfl
  i20 := by kernel_rfl
  i37 := by kernel_rfl
  i75 := by kernel_rfl
  i80 := by kernel_rfl
  i91 := by kernel_rfl
  i93 := by kernel_rfl
  i130 := by kernel_rfl
  i131 := by kernel_rfl
  m14 := by kernel_rfl }
def Tryd.lays179_ren : Go.Shelf.Ren := ⟨fun | 179 => 53 | 251 => 49 | 252 => 50 | 181 => 51 | 184 => 64 | 290 => 65 | 324 => 78 | n => n, fun | 130 => 94 | 5 => 5 | 75 => 75 | 0 => 0 | 93 => 71 | 91 => 69 | 3 => 3 | 131 => 95 | 4 => 4 | 37 => 22 | 20 => 20 | 80 => 119 | 9 => 9 | n => n, fun | 14 => 0 | n => n⟩
theorem Tryd.lays179 : Go.Proofs.LaysM.n179 Tryd.prog Tryd.lays179_ren := {
  mixed := by kernel_rfl
  f179 := Tryd.func53.trans (congrArg some (by kernel_rfl))
  f181 := Tryd.func51.trans (congrArg some (by kernel_rfl))
  f184 := Tryd.func64.trans (congrArg some (by kernel_rfl))
  f251 := Tryd.func49.trans (congrArg some (by kernel_rfl))
  f252 := Tryd.func50.trans (congrArg some (by kernel_rfl))
  f290 := Tryd.func65.trans (congrArg some (by kernel_rfl))
  f324 := Tryd.func78.trans (congrArg some (by kernel_rfl))
  t0 := Tryd.underlying0
  a0 := Tryd.isAgg0
  z0 := Tryd.sizeOf0
  v0 := Tryd.zeroValue0
  t3 := Tryd.underlying3
  a3 := Tryd.isAgg3
  z3 := Tryd.sizeOf3
  v3 := Tryd.zeroValue3
  t4 := Tryd.underlying4
  a4 := Tryd.isAgg4
  z4 := Tryd.sizeOf4
  v4 := Tryd.zeroValue4
  t5 := Tryd.underlying5
  a5 := Tryd.isAgg5
  z5 := Tryd.sizeOf5
  v5 := Tryd.zeroValue5
  t20 := Tryd.underlying20
  a20 := Tryd.isAgg20
  z20 := Tryd.sizeOf20
  v20 := Tryd.zeroValue20
  t37 := Tryd.underlying22
  a37 := Tryd.isAgg22
  z37 := Tryd.sizeOf22
  v37 := Tryd.zeroValue22
  t75 := Tryd.underlying75
  a75 := Tryd.isAgg75
  z75 := Tryd.sizeOf75
  v75 := Tryd.zeroValue75
  t91 := Tryd.underlying69
  a91 := Tryd.isAgg69
  z91 := Tryd.sizeOf69
  v91 := Tryd.zeroValue69
  t93 := Tryd.underlying71
  a93 := Tryd.isAgg71
  z93 := Tryd.sizeOf71
  v93 := Tryd.zeroValue71
  t130 := Tryd.underlying94
  a130 := Tryd.isAgg94
  z130 := Tryd.sizeOf94
  v130 := Tryd.zeroValue94
  t131 := Tryd.underlying95
  a131 := Tryd.isAgg95
  z131 := Tryd.sizeOf95
  v131 := Tryd.zeroValue95
  g14 := by kernel_rfl
  t9 := Tryd.underlying9
  a9 := Tryd.isAgg9
  z9 := Tryd.sizeOf9
  v9 := Tryd.zeroValue9
  t80 := Tryd.underlying119
  a80 := Tryd.isAgg119
  z80 := Tryd.sizeOf119
  v80 := Tryd.zeroValue119
  i0 := by kernel_rfl
  i3 := by kernel_rfl
  i4 := by kernel_rfl
  i5 := by kernel_rfl
  i9 := by kernel_rfl
  i20 := by kernel_rfl
  i37 := by kernel_rfl
  i75 := by kernel_rfl
  i80 := by kernel_rfl
  i91 := by kernel_rfl
  i93 := by kernel_rfl
  i130 := by kernel_rfl
  i131 := by kernel_rfl
  m14 := by kernel_rfl }
def Tryd.lays180_ren : Go.Shelf.Ren := ⟨fun | 180 => 34 | 251 => 49 | 252 => 50 | 181 => 51 | 184 => 64 | 290 => 65 | 324 => 78 | n => n, fun | 130 => 94 | 37 => 22 | 3 => 3 | 75 => 75 | 0 => 0 | 93 => 71 | 91 => 69 | 131 => 95 | 4 => 4 | 20 => 20 | 5 => 5 | 80 => 119 | 9 => 9 | n => n, fun | 14 => 0 | n => n⟩
theorem Tryd.lays180 : Go.Proofs.LaysM.n180 Tryd.prog Tryd.lays180_ren := {
  mixed := by kernel_rfl
  f180 := Tryd.func34.trans (congrArg some (by kernel_rfl))
  f181 := Tryd.func51.trans (congrArg some (by kernel_rfl))
  f184 := Tryd.func64.trans (congrArg some (by kernel_rfl))
  f251 := Tryd.func49.trans (congrArg some (by kernel_rfl))
  f252 := Tryd.func50.trans (congrArg some (by kernel_rfl))
  f290 := Tryd.func65.trans (congrArg some (by kernel_rfl))
  f324 := Tryd.func78.trans (congrArg some (by kernel_rfl))
  t0 := Tryd.underlying0
  a0 := Tryd.isAgg0
  z0 := Tryd.sizeOf0
  v0 := Tryd.zeroValue0
  t3 := Tryd.underlying3
  a3 := Tryd.isAgg3
  z3 := Tryd.sizeOf3
  v3 := Tryd.zeroValue3
  t4 := Tryd.underlying4
  a4 := Tryd.isAgg4
  z4 := Tryd.sizeOf4
  v4 := Tryd.zeroValue4
  t20 := Tryd.underlying20
  a20 := Tryd.isAgg20
  z20 := Tryd.sizeOf20
  v20 := Tryd.zeroValue20
  t37 := Tryd.underlying22
  a37 := Tryd.isAgg22
  z37 := Tryd.sizeOf22
  v37 := Tryd.zeroValue22
  t75 := Tryd.underlying75
  a75 := Tryd.isAgg75
  z75 := Tryd.sizeOf75
  v75 := Tryd.zeroValue75
  t91 := Tryd.underlying69
  a91 := Tryd.isAgg69
  z91 := Tryd.sizeOf69
  v91 := Tryd.zeroValue69
  t93 := Tryd.underlying71
  a93 := Tryd.isAgg71
  z93 := Tryd.sizeOf71
  v93 := Tryd.zeroValue71
  t130 := Tryd.underlying94
  a130 := Tryd.isAgg94
  z130 := Tryd.sizeOf94
  v130 := Tryd.zeroValue94
  t131 := Tryd.underlying95
  a131 := Tryd.isAgg95
  z131 := Tryd.sizeOf95
  v131 := Tryd.zeroValue95
  g14 := by kernel_rfl
  t5 := Tryd.underlying5
  a5 := Tryd.isAgg5
  z5 := Tryd.sizeOf5
  v5 := Tryd.zeroValue5
  t9 := Tryd.underlying9
  a9 := Tryd.isAgg9
  z9 := Tryd.sizeOf9
  v9 := Tryd.zeroValue9
  t80 := Tryd.underlying119
  a80 := Tryd.isAgg119
  z80 := Tryd.sizeOf119
  v80 := Tryd.zeroValue119
  i0 := by kernel_rfl
  i3 := by kernel_rfl
  i4 := by kernel_rfl
  i5 := by kernel_rfl
  i9 := by kernel_rfl
  i20 := by kernel_rfl
  i37 := by kernel_rfl
  i75 := by kernel_rfl
  i80 := by kernel_rfl
  i91 := by kernel_rfl
  i93 := by kernel_rfl
  i130 := by kernel_rfl
  i131 := by kernel_rfl
  m14 := by kernel_rfl }
def Tryd.lays181_ren : Go.Shelf.Ren := ⟨fun | 181 => 51 | n => n, fun | 130 => 94 | 3 => 3 | 0 => 0 | 93 => 71 | 37 => 22 | 91 => 69 | 5 => 5 | n => n, fun | n => n⟩
theorem Tryd.lays181 : Go.Proofs.LaysM.n181 Tryd.prog Tryd.lays181_ren := {
  mixed := by kernel_rfl
  f181 := Tryd.func51.trans (congrArg some (by kernel_rfl))
  t0 := Tryd.underlying0
  a0 := Tryd.isAgg0
  z0 := Tryd.sizeOf0
  v0 := Tryd.zeroValue0
  t3 := Tryd.underlying3
  a3 := Tryd.isAgg3
  z3 := Tryd.sizeOf3
  v3 := Tryd.zeroValue3
  t37 := Tryd.underlying22
  a37 := Tryd.isAgg22
  z37 := Tryd.sizeOf22
  v37 := Tryd.zeroValue22
  t93 := Tryd.underlying71
  a93 := Tryd.isAgg71
  z93 := Tryd.sizeOf71
  v93 := Tryd.zeroValue71
  t130 := Tryd.underlying94
  a130 := Tryd.isAgg94
  z130 := Tryd.sizeOf94
  v130 := Tryd.zeroValue94
  t5 := Tryd.underlying5
  a5 := Tryd.isAgg5
  z5 := Tryd.sizeOf5
  v5 := Tryd.zeroValue5
  t91 := Tryd.underlying69
  a91 := Tryd.isAgg69
  z91 := Tryd.sizeOf69
  v91 := Tryd.zeroValue69
  i0 := by kernel_rfl
  i3 := by kernel_rfl
  i5 := by kernel_rfl
  i37 := by kernel_rfl
  i91 := by kernel_rfl
  i93 := by kernel_rfl
  i130 := by kernel_rfl }
def Tryd.lays183_ren : Go.Shelf.Ren := ⟨fun | 183 => 52 | n => n, fun | 130 => 94 | 37 => 22 | 0 => 0 | 93 => 71 | 3 => 3 | 5 => 5 | 91 => 69 | n => n, fun | n => n⟩
theorem Tryd.lays183 : Go.Proofs.LaysM.n183 Tryd.prog Tryd.lays183_ren := {
  mixed := by kernel_rfl
  f183 := Tryd.func52.trans (congrArg some (by kernel_rfl))
  t0 := Tryd.underlying0
  a0 := Tryd.isAgg0
  z0 := Tryd.sizeOf0
  v0 := Tryd.zeroValue0
  t3 := Tryd.underlying3
  a3 := Tryd.isAgg3
  z3 := Tryd.sizeOf3
  v3 := Tryd.zeroValue3
  t37 := Tryd.underlying22
  a37 := Tryd.isAgg22
  z37 := Tryd.sizeOf22
  v37 := Tryd.zeroValue22
  t93 := Tryd.underlying71
  a93 := Tryd.isAgg71
  z93 := Tryd.sizeOf71
  v93 := Tryd.zeroValue71
  t130 := Tryd.underlying94
  a130 := Tryd.isAgg94
  z130 := Tryd.sizeOf94
  v130 := Tryd.zeroValue94
  t5 := Tryd.underlying5
  a5 := Tryd.isAgg5
  z5 := Tryd.sizeOf5
  v5 := Tryd.zeroValue5
  t91 := Tryd.underlying69
  a91 := Tryd.isAgg69
  z91 := Tryd.sizeOf69
  v91 := Tryd.zeroValue69
  i0 := by kernel_rfl
  i3 := by kernel_rfl
  i5 := by kernel_rfl
  i37 := by kernel_rfl
  i91 := by kernel_rfl
  i93 := by kernel_rfl
  i130 := by kernel_rfl }
end Go.Proofs

/-! mark.Label, walked. -/
set_option linter.unusedVariables false
set_option linter.unusedSimpArgs false
namespace Go.Proofs.YtnnnbeimehfiiaaDoor.Q
open Go Go.RowKit Go.Proofs.YtnnnbeimehfiiaaDoorW.PrintWords Go.Proofs.YtnnnbeimehfiiaaDoorW.PrintLast Go.Proofs.YtnnnbeimehfiiaaDoorW.PrintMore Go.Proofs.YtnnnbeimehfiiaaDoorW.SL
attribute [local go_sem] max2_int min2_int max_two min_two max_three min_three max_four min_four
def fixC (c : UInt8) : UInt8 := if c < 32 ∨ c > 126 then 63 else c
def labB (s : ByteArray) : ByteArray := ⟨(Lib.trimRightB ((s.data.toList.take 200).map fixC) 32).toArray⟩
def bnum (c : UInt8) : Int := (c.toNat : Int)
/-- The row that is being changed. -/
def LabI (w : World) (g m : Nat) (t : List UInt8) (i : Nat) (W : World) : Prop :=
  ∃ cur : Array Value, W.heap[g]? = some (.cells cur 5 (m, m + 1)) ∧ cur.size = m ∧ (∀ j c, t[j]? = some c → cur[j]? = some (Value.int .u8 (bnum (if j < i then fixC c else c)))) ∧ Below w.heap.size w W
theorem LabI.cell {w : World} {g m : Nat} {t : List UInt8} {i : Nat} {W : World} (h : LabI w g m t i W) {c : UInt8} (hc : t[i]? = some c) : W.cell? ⟨g, i, none⟩ = some (.int .u8 (bnum c)) := by
  obtain ⟨cur, h1, h2, h3, _⟩ := h
  have := h3 i c hc
  rw [if_neg (Nat.lt_irrefl _)] at this
  unfold World.cell?
  rw [h1]
  exact this
theorem LabI.frozen {w : World} {g m : Nat} {t : List UInt8} {i : Nat} {W : World} (h : LabI w g m t i W) {c : UInt8} (hc : t[i]? = some c) : W.frozen? ⟨g, i, none⟩ = false := by
  obtain ⟨cur, h1, h2, h3, _⟩ := h
  have hlt : i < m := by rw [← h2]; exact (Array.getElem?_eq_some_iff.1 (h3 i c hc)).1
  simp [World.frozen?, h1]
  omega
theorem LabI.keep {w : World} {g m : Nat} {t : List UInt8} {i : Nat} {W : World} (h : LabI w g m t i W) {c : UInt8} (hc : t[i]? = some c) (hf : fixC c = c) : LabI w g m t (i + 1) W := by
  obtain ⟨cur, h1, h2, h3, h4⟩ := h
  refine ⟨cur, h1, h2, fun j d hd => ?_, h4⟩
  rw [h3 j d hd]
  by_cases hj : j < i
  · rw [if_pos hj, if_pos (by omega)]
  · by_cases hj2 : j = i
    · subst hj2; rw [hc] at hd; injection hd with hd; subst hd; rw [if_neg hj, if_pos (by omega), hf]
    · rw [if_neg hj, if_neg (by omega)]
theorem LabI.set {w : World} {g m : Nat} {t : List UInt8} {i : Nat} {W : World} (h : LabI w g m t i W) {c : UInt8} (hc : t[i]? = some c) (hf : fixC c = 63) (hg : w.heap.size ≤ g) : LabI w g m t (i + 1) (W.setCell ⟨g, i, none⟩ (.int .u8 63)) := by
  obtain ⟨cur, h1, h2, h3, h4⟩ := h
  have hlt : i < cur.size := (Array.getElem?_eq_some_iff.1 (h3 i c hc)).1
  refine ⟨cur.setIfInBounds i (.int .u8 63), ?_, by simpa using h2, fun j d hd => ?_, h4.setCell (p := ⟨g, i, none⟩) hg _⟩
  · exact Lib.heap_setCell_same (i := i) h1 _
  · by_cases hj : j = i
    · subst hj
      rw [hc] at hd; injection hd with hd; subst hd
      rw [if_pos (by omega), hf]
      simp [hlt]; rfl
    · rw [Array.getElem?_setIfInBounds_ne (by omega), h3 j d hd]
      by_cases hj2 : j < i
      · rw [if_pos hj2, if_pos (by omega)]
      · rw [if_neg hj2, if_neg (by omega)]
theorem bytesWorld_LabI (w : World) (s : ByteArray) : LabI w w.heap.size (Lib.bytesCells w 5 s).size s.data.toList 0 (Lib.bytesWorld w 5 s) := by
  refine ⟨_, Lib.bytesWorld_at_new w 5 s, rfl, fun j c hc => ?_, ⟨rfl, rfl, rfl, by rw [Lib.bytesWorld_size]; omega, fun k hk => Lib.bytesWorld_at_old w 5 s k hk⟩⟩
  have hlt : j < s.data.size := by have := (List.getElem?_eq_some_iff.1 hc).1; simpa using this
  rw [if_neg (by omega)]
  have : s.data[j]? = some c := by simpa using hc
  rw [Lib.bytesCells, Array.getElem?_append_left (by simpa using hlt), Array.getElem?_map, this]
  rfl
theorem LabI.text {w : World} {g m : Nat} {t : List UInt8} {W : World} (h : LabI w g m t t.length W) (i : Nat) (hi : i < t.length) : W.cell? ⟨g, 0 + i, none⟩ = some (.int .u8 (((t.map fixC).map bnum).getD i 0)) := by
  obtain ⟨cur, h1, h2, h3, _⟩ := h
  have := h3 i t[i] (List.getElem?_eq_getElem hi)
  rw [if_pos hi] at this
  unfold World.cell?
  rw [h1, Nat.zero_add]
  refine this.trans ?_
  simp [List.getD_eq_getElem?_getD, List.getElem?_eq_getElem hi]
theorem strOf_fix (t : List UInt8) : strOfNums (t.map bnum) = ⟨t.toArray⟩ := by
  unfold strOfNums
  congr 1
  rw [List.map_map]
  congr 1
  refine (List.map_congr_left fun c _ => ?_).trans (List.map_id t)
  simp [bnum]
theorem fix_lo {c : UInt8} (h : bnum c < 32) : fixC c = 63 := by
  unfold fixC bnum at *
  rw [if_pos (.inl (UInt8.lt_iff_toNat_lt.2 (by have : (32 : UInt8).toNat = 32 := rfl; omega)))]
theorem fix_hi {c : UInt8} (h : bnum c > 126) : fixC c = 63 := by
  unfold fixC bnum at *
  rw [if_pos (.inr (UInt8.lt_iff_toNat_lt.2 (by have : (126 : UInt8).toNat = 126 := rfl; omega)))]
theorem fix_mid {c : UInt8} (h : ¬ bnum c < 32) (h2 : ¬ bnum c > 126) : fixC c = c := by
  unfold fixC bnum at *
  rw [if_neg]
  rintro (h3 | h3)
  · have := UInt8.lt_iff_toNat_lt.1 h3; have : (32 : UInt8).toNat = 32 := rfl; omega
  · have := UInt8.lt_iff_toNat_lt.1 h3; have : (126 : UInt8).toNat = 126 := rfl; omega
set_option maxHeartbeats 16000000 in
set_option maxRecDepth 100000 in
theorem Label_calls (s : ByteArray) (w : World) (hs : s.size ≤ 9223372036854775807) :
    Calls Tryd.prog 14 #[.string s] w fun e w' => e = .returned (.string (labB s)) ∧ Below w.heap.size w w' := by
  have hcv : ∀ (W : World) (x : ByteArray), (convert 9 22 (.string x)).run Tryd.prog W = .ok (.slice (some ⟨W.heap.size, 0, none⟩) x.size (grownCap W x.size 0 5)) (Lib.bytesWorld W 5 x) := fun W x => Lib.run_convert_string_bytes W 9 22 5 x Tryd.underlying9 Tryd.underlying22 Tryd.underlying5
  have HS := Aside0.mk hs
  clear hs
  by_cases hcase : (s.size : Int) ≤ 200
  · have hcase2 := eq_true hcase
    have hres : labB s = ⟨(Lib.trimRightB (s.data.toList.map fixC) 32).toArray⟩ := by unfold labB; rw [List.take_of_length_le]; rw [Array.length_toList]; have : s.data.size = s.size := rfl; omega
    obtain ⟨R, hR⟩ : ∃ R, labB s = R := ⟨_, rfl⟩
    rw [hR] at hres ⊢
    replace hres := Aside0.mk hres
    clear hR
    obtain ⟨t, ht⟩ : ∃ t, t = s.data.toList := ⟨_, rfl⟩
    rw [← ht] at hres
    have htl : t.length = s.size := by rw [ht, Array.length_toList]; rfl
    have HI := Aside0.mk (bytesWorld_LabI w s)
    rw [← ht] at HI
    replace ht := Aside0.mk ht
    replace htl := Aside0.mk htl
    obtain ⟨m, hm⟩ : ∃ m, (Lib.bytesCells w 5 s).size = m := ⟨_, rfl⟩
    rw [hm] at HI
    clear hm
    go_enter Tryd.func14, Tryd.ntmps14
    go_wp2
    generalize Lib.bytesWorld w 5 s = w1 at HI ⊢
    go_loopg [14] s.size (fun kq v14 W => ∃ (ii : Int) (i : Nat), v14 = .int .i64 ii ∧ Aside0 (ii = (i : Int)) ∧ i ≤ s.size ∧ kq = s.size - i ∧ Aside0 (LabI w w.heap.size m t i W))
    case atStart => exact ⟨0, 0, rfl, ⟨rfl⟩, Nat.zero_le _, rfl, HI⟩
    case round =>
      obtain ⟨ii, i, rfl, hii, hi, hgk, hI⟩ := hrel
      obtain ⟨wb, rfl⟩ : ∃ q, q = wr := ⟨_, rfl⟩
      by_cases hin : ii < (s.size : Int)
      · have p0 : 0 ≤ ii := by have := hii.out; omega
        have e0 : ii.toNat = i := by have := hii.out; omega
        have hit : i < t.length := by rw [htl.out]; have := hii.out; omega
        obtain ⟨c, hc⟩ : ∃ c, t[i]? = some c := ⟨_, List.getElem?_eq_getElem hit⟩
        have hx0 : wb.cell? ⟨w.heap.size, ii.toNat, none⟩ = some (.int .u8 (bnum c)) := by rw [e0]; exact hI.out.cell hc
        have hf0 : wb.frozen? ⟨w.heap.size, ii.toNat, none⟩ = false := by rw [e0]; exact hI.out.frozen hc
        have hw1 : wrap64 (ii + 1) = ii + 1 := by have := HS.out; have := hii.out; unfold wrap64; omega
        replace e0 := Aside0.mk e0
        replace hc := Aside0.mk hc
        have hinb := eq_true hin
        have p0b := eq_true p0
        clear hit
        by_cases hlo : bnum c < 32
        · have hlo2 := eq_true hlo
          go_wp2
          go_roundg (s.size - (i + 1))
          case rel => exact ⟨wrap64 (ii + 1), i + 1, by first | rfl | (simp; done) | (simp [hw1]; done), ⟨by rw [hw1]; have := hii.out; omega⟩, by have := hii.out; omega, rfl, ⟨by have := hI.out.set hc.out (fix_lo hlo) (Nat.le_refl _); rwa [← e0.out] at this ⊢⟩⟩
          case measure => have := hii.out; omega
        · by_cases hhi : bnum c > 126
          · have hhi2 := eq_true hhi
            go_wp2
            go_roundg (s.size - (i + 1))
            case rel => exact ⟨wrap64 (ii + 1), i + 1, by first | rfl | (simp; done) | (simp [hw1]; done), ⟨by rw [hw1]; have := hii.out; omega⟩, by have := hii.out; omega, rfl, ⟨by have := hI.out.set hc.out (fix_hi hhi) (Nat.le_refl _); rwa [← e0.out] at this ⊢⟩⟩
            case measure => have := hii.out; omega
          · go_wp2
            go_roundg (s.size - (i + 1))
            case rel => exact ⟨wrap64 (ii + 1), i + 1, by first | rfl | (simp; done) | (simp [hw1]; done), ⟨by rw [hw1]; have := hii.out; omega⟩, by have := hii.out; omega, rfl, ⟨hI.out.keep hc.out (fix_mid (by omega) (by omega))⟩⟩
            case measure => have := hii.out; omega
      · have hi' : i = t.length := by rw [htl.out]; have := hii.out; omega
        have hI2 := hI.out
        rw [hi'] at hI2
        have hcv2 := run_convert_bytes_arg (P := Tryd.prog) wb 22 5 Tryd.underlying22 Tryd.underlying5 w.heap.size 0 s.size (grownCap w s.size 0 5) ((t.map fixC).map bnum) (by simp [htl.out]) (fun j hj => hI2.text j (by rw [htl.out]; exact hj)) 9 Tryd.underlying9
        rw [strOf_fix] at hcv2
        have hbl := Aside0.mk hI2.choose_spec.2.2.2
        clear hi' hI2
        go_wp2_with (go_at_call 30; refine (Any.strings_TrimRight_one Tryd.lays162 _ 32 (by decide) wb (by show (t.map fixC).toArray.size ≤ _; simp; rw [htl.out]; exact HS.out)).mono ?_; rintro e w3 ⟨rfl, rfl⟩)
        go_ret
        exact ⟨by rw [hres.out]; rfl, hbl.out⟩
  · have hcase1 : (200 : Int) < (s.size : Int) := by omega
    have hcase2 := eq_true hcase1
    have hm200 : min 200 s.size = 200 := by omega
    have hres : labB s = ⟨(Lib.trimRightB ((s.extract 0 200).data.toList.map fixC) 32).toArray⟩ := by unfold labB; simp
    obtain ⟨R, hR⟩ : ∃ R, labB s = R := ⟨_, rfl⟩
    rw [hR] at hres ⊢
    replace hres := Aside0.mk hres
    clear hR
    obtain ⟨t, ht⟩ : ∃ t, t = (s.extract 0 200).data.toList := ⟨_, rfl⟩
    rw [← ht] at hres
    have htl : t.length = 200 := by rw [ht, Array.length_toList]; show (s.extract 0 200).size = 200; simp; omega
    have HI := Aside0.mk (bytesWorld_LabI w (s.extract 0 200))
    rw [← ht] at HI
    replace ht := Aside0.mk ht
    replace htl := Aside0.mk htl
    obtain ⟨m, hm⟩ : ∃ m, (Lib.bytesCells w 5 (s.extract 0 200)).size = m := ⟨_, rfl⟩
    rw [hm] at HI
    clear hm
    go_enter Tryd.func14, Tryd.ntmps14
    go_wp2
    generalize Lib.bytesWorld w 5 (s.extract 0 200) = w1 at HI ⊢
    go_loopg [14] 200 (fun kq v14 W => ∃ (ii : Int) (i : Nat), v14 = .int .i64 ii ∧ Aside0 (ii = (i : Int)) ∧ i ≤ 200 ∧ kq = 200 - i ∧ Aside0 (LabI w w.heap.size m t i W))
    case atStart => exact ⟨0, 0, rfl, ⟨rfl⟩, Nat.zero_le _, rfl, HI⟩
    case round =>
      obtain ⟨ii, i, rfl, hii, hi, hgk, hI⟩ := hrel
      obtain ⟨wb, rfl⟩ : ∃ q, q = wr := ⟨_, rfl⟩
      by_cases hin : ii < (200 : Int)
      · have p0 : 0 ≤ ii := by have := hii.out; omega
        have e0 : ii.toNat = i := by have := hii.out; omega
        have hit : i < t.length := by rw [htl.out]; have := hii.out; omega
        obtain ⟨c, hc⟩ : ∃ c, t[i]? = some c := ⟨_, List.getElem?_eq_getElem hit⟩
        have hx0 : wb.cell? ⟨w.heap.size, ii.toNat, none⟩ = some (.int .u8 (bnum c)) := by rw [e0]; exact hI.out.cell hc
        have hf0 : wb.frozen? ⟨w.heap.size, ii.toNat, none⟩ = false := by rw [e0]; exact hI.out.frozen hc
        have hw1 : wrap64 (ii + 1) = ii + 1 := by have := HS.out; have := hii.out; unfold wrap64; omega
        replace e0 := Aside0.mk e0
        replace hc := Aside0.mk hc
        have hinb := eq_true hin
        have p0b := eq_true p0
        clear hit
        by_cases hlo : bnum c < 32
        · have hlo2 := eq_true hlo
          go_wp2
          go_roundg (200 - (i + 1))
          case rel => exact ⟨wrap64 (ii + 1), i + 1, by first | rfl | (simp; done) | (simp [hw1]; done), ⟨by rw [hw1]; have := hii.out; omega⟩, by have := hii.out; omega, rfl, ⟨by have := hI.out.set hc.out (fix_lo hlo) (Nat.le_refl _); rwa [← e0.out] at this ⊢⟩⟩
          case measure => have := hii.out; omega
        · by_cases hhi : bnum c > 126
          · have hhi2 := eq_true hhi
            go_wp2
            go_roundg (200 - (i + 1))
            case rel => exact ⟨wrap64 (ii + 1), i + 1, by first | rfl | (simp; done) | (simp [hw1]; done), ⟨by rw [hw1]; have := hii.out; omega⟩, by have := hii.out; omega, rfl, ⟨by have := hI.out.set hc.out (fix_hi hhi) (Nat.le_refl _); rwa [← e0.out] at this ⊢⟩⟩
            case measure => have := hii.out; omega
          · go_wp2
            go_roundg (200 - (i + 1))
            case rel => exact ⟨wrap64 (ii + 1), i + 1, by first | rfl | (simp; done) | (simp [hw1]; done), ⟨by rw [hw1]; have := hii.out; omega⟩, by have := hii.out; omega, rfl, ⟨hI.out.keep hc.out (fix_mid (by omega) (by omega))⟩⟩
            case measure => have := hii.out; omega
      · have hi' : i = t.length := by rw [htl.out]; have := hii.out; omega
        have hI2 := hI.out
        rw [hi'] at hI2
        have hcv2 := run_convert_bytes_arg (P := Tryd.prog) wb 22 5 Tryd.underlying22 Tryd.underlying5 w.heap.size 0 200 (grownCap w 200 0 5) ((t.map fixC).map bnum) (by simp [htl.out]) (fun j hj => hI2.text j (by rw [htl.out]; exact hj)) 9 Tryd.underlying9
        rw [strOf_fix] at hcv2
        have hbl := Aside0.mk hI2.choose_spec.2.2.2
        clear hi' hI2
        go_wp2_with (go_at_call 30; refine (Any.strings_TrimRight_one Tryd.lays162 _ 32 (by decide) wb (by show (t.map fixC).toArray.size ≤ _; simp; rw [htl.out]; decide)).mono ?_; rintro e w3 ⟨rfl, rfl⟩)
        go_ret
        exact ⟨by rw [hres.out]; rfl, hbl.out⟩
end Go.Proofs.YtnnnbeimehfiiaaDoor.Q

-- Written by a program of this session (wip/mkprint.py, wip/pr.sh) for this claim; Lean checks it.
namespace Go.Proofs.YtnnnbeimehfiiaaDoor.Q
open Go.RowKit Go.Proofs.YtnnnbeimehfiiaaDoorW.PrintWords Go.Proofs.YtnnnbeimehfiiaaDoorW.PrintLast Go.Proofs.YtnnnbeimehfiiaaDoorW.PrintMore
attribute [local go_sem] max2_int min2_int max_two min_two max_three min_three max_four min_four   -- for this text's walks alone
set_option linter.unusedVariables false
set_option linter.unusedSimpArgs false

/-! ### mark_Length: function 16 -/
mutual
def mark_Length.j0 : Nat → Int → List (List Int) → Bool → Option (Int)
 | 0, _, _, _ => none
 | k + 1, x0, x1, x16 => if x16 = true then (mark_Length.j1 k 7 x1) else (mark_Length.j1 k x0 x1)
def mark_Length.j1 : Nat → Int → List (List Int) → Option (Int)
 | 0, _, _ => none
 | k + 1, x0, x1 => mark_Length.l0 k x0 x1 (x1.length : Int) 0
def mark_Length.l0 : Nat → Int → List (List Int) → Int → Int → Option (Int)
 | 0, _, _, _, _ => none
 | k + 1, x0, x17, x18, x19 => if x19 < x18 then (if 0 ≤ x19 then (if x19 < (x17.length : Int) then ((line_Split.f (rd_L1 x17 x19)).bind fun t163 => (mark_Length.l1 k x0 x17 x18 x19 t163 (t163.length : Int) 0)) else (none)) else (none)) else (some x0)
def mark_Length.l1 : Nat → Int → List (List Int) → Int → Int → List (List Int) → Int → Int → Option (Int)
 | 0, _, _, _, _, _, _, _ => none
 | k + 1, x0, x17, x18, x19, x24, x25, x26 => if x26 < x25 then (if 0 ≤ x26 then (if x26 < (x24.length : Int) then ((mark_signs.f k (rd_L1 x24 x26)).bind fun bt167 => (if bt167.1 > 0 then (mark_Length.l1 k (mx x0 (wrap64 (bt167.1 + 1))) x17 x18 x19 x24 x25 (wrap64 (x26 + 1))) else (mark_Length.l1 k x0 x17 x18 x19 x24 x25 (wrap64 (x26 + 1))))) else (none)) else (none)) else (mark_Length.l0 k x0 x17 x18 (wrap64 (x19 + 1)))
end
def mark_Length.f (k : Nat) (a0 : Int) (l1 : List (List Int)) : Option (Int) := if a0 < 1 then (mark_Length.j0 k a0 l1 true) else (mark_Length.j0 k a0 l1 (decide (a0 > 1000)))
theorem mark_Length.mono_l : ∀ k, (∀ y0 y1 y2, LeO (mark_Length.j0 k y0 y1 y2) (mark_Length.j0 (k + 1) y0 y1 y2)) ∧ (∀ y0 y1, LeO (mark_Length.j1 k y0 y1) (mark_Length.j1 (k + 1) y0 y1)) ∧ (∀ y0 y1 y2 y3, LeO (mark_Length.l0 k y0 y1 y2 y3) (mark_Length.l0 (k + 1) y0 y1 y2 y3)) ∧ (∀ y0 y1 y2 y3 y4 y5 y6, LeO (mark_Length.l1 k y0 y1 y2 y3 y4 y5 y6) (mark_Length.l1 (k + 1) y0 y1 y2 y3 y4 y5 y6))
 | 0 => ⟨fun _ _ _ r h => by simp [mark_Length.j0] at h, fun _ _ r h => by simp [mark_Length.j1] at h, fun _ _ _ _ r h => by simp [mark_Length.l0] at h, fun _ _ _ _ _ _ _ r h => by simp [mark_Length.l1] at h⟩
 | k + 1 => by
  obtain ⟨ih0, ih1, ih2, ih3⟩ := mark_Length.mono_l k
  refine ⟨?_, ?_, ?_, ?_⟩
  ·intro y0 y1 y2
   unfold mark_Length.j0
   repeat' first
   | (with_reducible exact ih0 _ _ _)
   | (with_reducible exact ih1 _ _)
   | (with_reducible exact ih2 _ _ _ _)
   | (with_reducible exact ih3 _ _ _ _ _ _ _)
   | (with_reducible exact mark_signs.mono _ _)
   | (with_reducible exact LeO.refl _)
   | (with_reducible exact LeO.none _)
   | (with_reducible refine LeO.ite ?_ ?_)
   | (with_reducible refine LeO.bind ?_ (fun _ => ?_))
   | exact ih0 _ _ _
   | exact ih1 _ _
   | exact ih2 _ _ _ _
   | exact ih3 _ _ _ _ _ _ _
   | exact mark_signs.mono _ _
   | exact LeO.none _
   | refine LeO.ite ?_ ?_
   | refine LeO.bind ?_ (fun _ => ?_)
  ·intro y0 y1
   unfold mark_Length.j1
   repeat' first
   | (with_reducible exact ih0 _ _ _)
   | (with_reducible exact ih1 _ _)
   | (with_reducible exact ih2 _ _ _ _)
   | (with_reducible exact ih3 _ _ _ _ _ _ _)
   | (with_reducible exact mark_signs.mono _ _)
   | (with_reducible exact LeO.refl _)
   | (with_reducible exact LeO.none _)
   | (with_reducible refine LeO.ite ?_ ?_)
   | (with_reducible refine LeO.bind ?_ (fun _ => ?_))
   | exact ih0 _ _ _
   | exact ih1 _ _
   | exact ih2 _ _ _ _
   | exact ih3 _ _ _ _ _ _ _
   | exact mark_signs.mono _ _
   | exact LeO.none _
   | refine LeO.ite ?_ ?_
   | refine LeO.bind ?_ (fun _ => ?_)
  ·intro y0 y1 y2 y3
   unfold mark_Length.l0
   repeat' first
   | (with_reducible exact ih0 _ _ _)
   | (with_reducible exact ih1 _ _)
   | (with_reducible exact ih2 _ _ _ _)
   | (with_reducible exact ih3 _ _ _ _ _ _ _)
   | (with_reducible exact mark_signs.mono _ _)
   | (with_reducible exact LeO.refl _)
   | (with_reducible exact LeO.none _)
   | (with_reducible refine LeO.ite ?_ ?_)
   | (with_reducible refine LeO.bind ?_ (fun _ => ?_))
   | exact ih0 _ _ _
   | exact ih1 _ _
   | exact ih2 _ _ _ _
   | exact ih3 _ _ _ _ _ _ _
   | exact mark_signs.mono _ _
   | exact LeO.none _
   | refine LeO.ite ?_ ?_
   | refine LeO.bind ?_ (fun _ => ?_)
  ·intro y0 y1 y2 y3 y4 y5 y6
   unfold mark_Length.l1
   repeat' first
   | (with_reducible exact ih0 _ _ _)
   | (with_reducible exact ih1 _ _)
   | (with_reducible exact ih2 _ _ _ _)
   | (with_reducible exact ih3 _ _ _ _ _ _ _)
   | (with_reducible exact mark_signs.mono _ _)
   | (with_reducible exact LeO.refl _)
   | (with_reducible exact LeO.none _)
   | (with_reducible refine LeO.ite ?_ ?_)
   | (with_reducible refine LeO.bind ?_ (fun _ => ?_))
   | exact ih0 _ _ _
   | exact ih1 _ _
   | exact ih2 _ _ _ _
   | exact ih3 _ _ _ _ _ _ _
   | exact mark_signs.mono _ _
   | exact LeO.none _
   | refine LeO.ite ?_ ?_
   | refine LeO.bind ?_ (fun _ => ?_)
theorem mark_Length.mono : ∀ a0 a1 k, LeO (mark_Length.f k a0 a1) (mark_Length.f (k + 1) a0 a1) := by
 intro a0 a1 k
 obtain ⟨ih0, ih1, ih2, ih3⟩ := mark_Length.mono_l k
 unfold mark_Length.f
 repeat' first
   | (with_reducible exact ih0 _ _ _)
   | (with_reducible exact ih1 _ _)
   | (with_reducible exact ih2 _ _ _ _)
   | (with_reducible exact ih3 _ _ _ _ _ _ _)
   | (with_reducible exact mark_signs.mono _ _)
   | (with_reducible exact LeO.refl _)
   | (with_reducible exact LeO.none _)
   | (with_reducible refine LeO.ite ?_ ?_)
   | (with_reducible refine LeO.bind ?_ (fun _ => ?_))
   | exact ih0 _ _ _
   | exact ih1 _ _
   | exact ih2 _ _ _ _
   | exact ih3 _ _ _ _ _ _ _
   | exact mark_signs.mono _ _
   | exact LeO.none _
   | refine LeO.ite ?_ ?_
   | refine LeO.bind ?_ (fun _ => ?_)
set_option maxHeartbeats 8000000 in
set_option maxRecDepth 100000 in
theorem mark_Length.calls (k : Nat) (a0 : Int) (A1 : Option Addr) (c1 : Nat) (l1 : List (List Int)) (r : Int) (w : World) (hr1 : Kd.C (Kd.slice 5 (Kd.int .u8)) w A1 l1.length l1) (hc1 : l1.length ≤ c1) (h : mark_Length.f k a0 l1 = some r) :
  Calls Tryd.prog 16 #[.int .i64 a0, .slice A1 l1.length c1] w fun e w' => e = .returned (.int .i64 r) ∧ Below w.heap.size w w' := by
 have HR1 := Aside0.mk hr1
 have HC1 := Aside0.mk hc1
 clear hr1 hc1
 have HB := Aside0.mk (Below.refl w.heap.size w)
 have H : (if a0 < 1 then (mark_Length.j0 k a0 l1 true) else (mark_Length.j0 k a0 l1 (decide (a0 > 1000)))) = some r := h
 clear h
 have HC3 := Aside0.mk H
 clear H
 go_enter Tryd.func16, Tryd.ntmps16
 go_upto_region 1 with (fail)
 go_cut [16] (fun v16 wc => ∃ (kq : Nat) (x16_2 : Bool), v16 = .bool x16_2 ∧ Aside0 (mark_Length.j0 kq a0 l1 x16_2 = some r) ∧ Aside0 (kq ≤ k) ∧ Aside0 (Below w.heap.size w wc))
 case first =>
  have H := HC3.out
  clear HC3
  by_cases c4 : a0 < 1
  ·rw [if_pos c4] at H
   have c4b0 : decide (a0 < 1) = true := decide_eq_true c4
   clear c4
   (first | rw [c4b0] | (simp only [i64_w, i32_w]; rw [c4b0]) | skip)
   have H' := Aside0.mk H
   clear H
   go_wp2
   go_meet
   case rel => exact ⟨_, (true), (by first | rfl | (simp; done) | (simp [*]; done)), H', ⟨by first | omega | exact Nat.le_refl _⟩, ⟨by repeat (first | (with_reducible first | exact HB.out | apply below_alloc | apply pw_below_drewN | apply below_drew1) | exact HB.out)⟩⟩
  ·rw [if_neg c4] at H
   have c4b0 : decide (a0 < 1) = false := decide_eq_false c4
   clear c4
   (first | rw [c4b0] | (simp only [i64_w, i32_w]; rw [c4b0]) | skip)
   have H' := Aside0.mk H
   clear H
   go_wp2
   go_meet
   case rel => exact ⟨_, (decide (a0 > 1000)), (by first | rfl | (simp; done) | (simp [*]; done)), H', ⟨by first | omega | exact Nat.le_refl _⟩, ⟨by repeat (first | (with_reducible first | exact HB.out | apply below_alloc | apply pw_below_drewN | apply below_drew1) | exact HB.out)⟩⟩
 case rest =>
  clear HC3
  try clear c1
  try clear p2
  try clear c4
  try clear c4b0
  obtain ⟨kq, x16_2, rfl, HA, HJ2, HB⟩ := hcut
  cases kq with
  | zero => exact absurd HA.out (by simp [mark_Length.j0])
  | succ kj2 =>
   have H := HA.out
   clear HA
   simp only [mark_Length.j0] at H
   have HC5 := Aside0.mk H
   clear H
   go_upto_if 16 with (fail)
   go_cut [0] (fun v0 wc => ∃ (kq : Nat) (x0_4 : Int), v0 = .int .i64 x0_4 ∧ Aside0 (mark_Length.j1 kq x0_4 l1 = some r) ∧ Aside0 (kq ≤ kj2) ∧ Aside0 (Below w.heap.size w wc))
   case first =>
    have H := HC5.out
    clear HC5
    by_cases c6 : x16_2 = true
    ·subst c6
     have H1 : (mark_Length.j1 kj2 7 l1) = some r := by rw [if_pos rfl] at H; exact H
     clear H
     have H := H1
     clear H1
     have H' := Aside0.mk H
     clear H
     go_wp2
     go_meet
     case rel => exact ⟨_, (7), (by first | rfl | (simp; done) | (simp [*]; done)), H', ⟨by have := HJ2.out; first | omega | exact Nat.le_refl _⟩, ⟨by repeat (first | (with_reducible first | exact HB.out | apply below_alloc | apply pw_below_drewN | apply below_drew1) | exact HB.out)⟩⟩
    ·replace c6 := Bool.eq_false_iff.mpr c6
     subst c6
     have H1 : (mark_Length.j1 kj2 a0 l1) = some r := by rw [if_neg (show ¬ (false = true) by decide)] at H; exact H
     clear H
     have H := H1
     clear H1
     have H' := Aside0.mk H
     clear H
     go_wp2
     go_meet
     case rel => exact ⟨_, (a0), (by first | rfl | (simp; done) | (simp [*]; done)), H', ⟨by have := HJ2.out; first | omega | exact Nat.le_refl _⟩, ⟨by repeat (first | (with_reducible first | exact HB.out | apply below_alloc | apply pw_below_drewN | apply below_drew1) | exact HB.out)⟩⟩
   case rest =>
    clear HC5
    try clear c1
    try clear p2
    try clear c4
    try clear c4b0
    try clear c6
    try clear p2
    obtain ⟨kq, x0_4, rfl, HA, HJ4, HB⟩ := hcut
    cases kq with
    | zero => exact absurd HA.out (by simp [mark_Length.j1])
    | succ kj4 =>
     have H := HA.out
     clear HA
     simp only [mark_Length.j1] at H
     have H' := Aside0.mk H
     clear H
     go_wp2
     go_loopg [0, 19] kj4 (fun kq v0 v19 w' => ∃ (x0_3 : Int) (x19_3 : Int), v0 = .int .i64 x0_3 ∧ v19 = .int .i64 x19_3 ∧ Aside0 (mark_Length.l0 kq x0_3 l1 (l1.length : Int) x19_3 = some r) ∧ Aside0 (kq ≤ kj4) ∧ Aside0 (Below w.heap.size w w'))
     case atStart => exact ⟨(x0_4), (0), (by first | rfl | (simp; done) | (simp [*]; done)), (by first | rfl | (simp; done) | (simp [*]; done)), H', ⟨Nat.le_refl _⟩, ⟨by repeat (first | (with_reducible first | exact HB.out | apply below_alloc | apply pw_below_drewN | apply below_drew1) | exact HB.out)⟩⟩
     case round =>
      clear H'
      try clear c1
      try clear p2
      try clear c4
      try clear c4b0
      try clear c6
      try clear p2
      obtain ⟨x0_3, x19_3, rfl, rfl, HA, HK3, HB⟩ := hrel
      cases gk with
      | zero => exact absurd HA.out (by simp [mark_Length.l0])
      | succ k3 =>
       have H := HA.out
       clear HA
       simp only [mark_Length.l0] at H
       by_cases c7 : x19_3 < (l1.length : Int)
       ·rw [if_pos c7] at H
        have c7b0 : decide (x19_3 < (l1.length : Int)) = true := decide_eq_true c7
        clear c7
        by_cases c8 : 0 ≤ x19_3
        ·rw [if_pos c8] at H
         have c8b0 : decide (0 ≤ x19_3) = true := decide_eq_true c8
         clear c8
         by_cases c9 : x19_3 < (l1.length : Int)
         ·rw [if_pos c9] at H
          have c9b0 : decide (x19_3 < (l1.length : Int)) = true := decide_eq_true c9
          clear c9
          replace H := Option.bind_eq_some_iff.mp H
          obtain ⟨t163, A100, H⟩ := H
          replace H : (mark_Length.l1 k3 x0_3 l1 (l1.length : Int) x19_3 t163 (t163.length : Int) 0) = some r := H
          have A10 := Aside0.mk A100
          clear A100
          have H' := Aside0.mk H
          clear H
          have p162 : 0 ≤ (x19_3 : Int) := of_decide_eq_true (by first | (with_reducible assumption) | assumption)
          have q162 : x19_3 < (l1.length : Int) := of_decide_eq_true (by first | (with_reducible assumption) | assumption)
          obtain ⟨ad162, A162_0, c162_0, e162, hx162_0, hl162_0, hi162_0⟩ := at_L1 HR1.out x19_3 p162 q162
          cases e162
          replace hx162_0 := (HB.out.cell (World.block_lt_of_cell? w _ hx162_0)).trans hx162_0
          have HR162_0 := Aside0.mk hi162_0
          have HC162_0 := Aside0.mk hl162_0
          clear hi162_0 hl162_0
          replace p162 := eq_true p162
          replace q162 := eq_true q162
          go_wp2_with (first | ((with_reducible refine gate_callee (f := 25) rfl ?_); refine goesL_ (some 24) rfl rfl Tryd.func25 (by kernel_rfl) rfl #[.slice A162_0 (rd_L1 l1 x19_3).length c162_0] rfl (by (try simp only [List.map_toArray, List.map_cons, List.map_nil]); first | done | rfl | (simp only [List.length_drop, List.length_take]; rfl)) ?_; (with_reducible refine (line_Split.calls _ _ (rd_L1 l1 x19_3) t163 _ ?side1 ?side2 A10.out).mono ?_); (case side1 => repeat (first | exact (Kd.C_below HR162_0.out HB.out) | (with_reducible refine Kd.C_alloc ?_ _) | (with_reducible refine Kd.C_drewN ?_ _) | (with_reducible refine Kd.C_drew ?_))); (case side2 => exact HC162_0.out); rintro e w11 ⟨v164, rfl, ho0, hb⟩; refine ⟨_, rfl, ?_⟩; have n0_ := Aside0.mk (Kd.N_lower (Kd.N_mono (ok' := fun k_ => True) ho0 (fun k_ hk_ => trivial)) (below_size (by repeat (first | (with_reducible first | exact HB.out | apply below_alloc | apply pw_below_drewN | apply below_drew1) | exact HB.out)))); have n1_ := Aside0.mk (below_step (by repeat (first | (with_reducible first | exact HB.out | apply below_alloc | apply pw_below_drewN | apply below_drew1) | exact HB.out)) hb); clear HB; have HO165 := n0_; have HB := n1_; clear n0_ n1_; (try clear hb); (try clear hb2); (try clear hk); (try clear hi); (try clear ho0); obtain ⟨Ao12, co12, eo12⟩ := Kd.N_slice HO165.out; subst eo12))
          go_loopg [0, 26] k3 (fun kq v0 v26 w' => ∃ (x0_4 : Int) (x26_4 : Int), v0 = .int .i64 x0_4 ∧ v26 = .int .i64 x26_4 ∧ Aside0 (mark_Length.l1 kq x0_4 l1 (l1.length : Int) x19_3 t163 (t163.length : Int) x26_4 = some r) ∧ Aside0 (kq ≤ k3) ∧ Aside0 (Kd.N (Kd.slice 5 (Kd.int .u8)) 22 w' w.heap.size (fun _ => True) (.slice Ao12 t163.length co12) t163) ∧ Aside0 (Below w.heap.size w w'))
          case atStart => exact ⟨(x0_3), (0), (by first | rfl | (simp; done) | (simp [*]; done)), (by first | rfl | (simp; done) | (simp [*]; done)), H', ⟨Nat.le_refl _⟩, ⟨by (with_reducible repeat (first | apply Kd.N_alloc | apply Kd.N_drewN | apply Kd.N_drew)); exact HO165.out⟩, ⟨by repeat (first | (with_reducible first | exact HB.out | apply below_alloc | apply pw_below_drewN | apply below_drew1) | exact HB.out)⟩⟩
          case round =>
           clear H'
           try clear c1
           try clear p1
           try clear q1
           try clear hx1
           try clear c2
           try clear p2
           try clear c4
           try clear c4b0
           try clear c6
           try clear c7
           try clear c7b0
           try clear c8
           try clear c8b0
           try clear c9
           try clear c9b0
           try clear hx162_0
           try clear p162
           try clear p2
           try clear q162
           obtain ⟨x0_4, x26_4, rfl, rfl, HA, HK4, HO_24, HB⟩ := hrel
           cases gk with
           | zero => exact absurd HA.out (by simp [mark_Length.l1])
           | succ k4 =>
            have H := HA.out
            clear HA
            simp only [mark_Length.l1] at H
            by_cases c13 : x26_4 < (t163.length : Int)
            ·rw [if_pos c13] at H
             have c13b0 : decide (x26_4 < (t163.length : Int)) = true := decide_eq_true c13
             clear c13
             by_cases c14 : 0 ≤ x26_4
             ·rw [if_pos c14] at H
              have c14b0 : decide (0 ≤ x26_4) = true := decide_eq_true c14
              clear c14
              by_cases c15 : x26_4 < (t163.length : Int)
              ·rw [if_pos c15] at H
               have c15b0 : decide (x26_4 < (t163.length : Int)) = true := decide_eq_true c15
               clear c15
               replace H := Option.bind_eq_some_iff.mp H
               obtain ⟨⟨t167, t168⟩, A160, H⟩ := H
               replace H : (if t167 > 0 then (mark_Length.l1 k4 (mx x0_4 (wrap64 (t167 + 1))) l1 (l1.length : Int) x19_3 t163 (t163.length : Int) (wrap64 (x26_4 + 1))) else (mark_Length.l1 k4 x0_4 l1 (l1.length : Int) x19_3 t163 (t163.length : Int) (wrap64 (x26_4 + 1)))) = some r := H
               have A16 := Aside0.mk A160
               clear A160
               by_cases c17 : t167 > 0
               ·rw [if_pos c17] at H
                have c17b0 : decide (0 < t167) = true := decide_eq_true c17
                clear c17
                obtain ⟨ji18, hji18⟩ : ∃ j_ : Int, (mx x0_4 (wrap64 (t167 + 1))) = j_ := ⟨_, rfl⟩
                replace H : (mark_Length.l1 k4 ji18 l1 (l1.length : Int) x19_3 t163 (t163.length : Int) (wrap64 (x26_4 + 1))) = some r := by first | (rw [hji18] at H; exact H) | (simp only [hji18] at H ⊢; exact H)
                (try rw [hji18] at A16)
                have hji18_ : (if x0_4 < (wrap64 (t167 + 1)) then (wrap64 (t167 + 1)) else x0_4) = ji18 := hji18
                have H' := Aside0.mk H
                clear H
                have p166 : 0 ≤ (x26_4 : Int) := of_decide_eq_true (by first | (with_reducible assumption) | assumption)
                have q166 : x26_4 < (t163.length : Int) := of_decide_eq_true (by first | (with_reducible assumption) | assumption)
                obtain ⟨ad166, A166_0, c166_0, e166, hx166_0, hl166_0, hi166_0⟩ := at_L1 (Kd.N_reads' HO_24.out).2.2 x26_4 p166 q166
                cases e166
                obtain ⟨ce166, hce166, hMe166, hcc166⟩ := Kd.N_get HO_24.out [] x26_4 p166 (by first | exact q166 | exact of_decide_eq_true (by first | (with_reducible assumption) | assumption) | (have e_ := (Kd.N_reads' HO_24.out).1; omega))
                obtain ⟨ua166_0, uc166_0, rfl, ul166_0, ge166_0⟩ := Kd.FK_slice_open hMe166
                have hv166_0 := hcc166 0 _ rfl
                rw [Nat.add_zero, show ((Kd.slice 5 (Kd.int .u8))).sz = 1 from rfl, Nat.mul_one] at hv166_0
                replace hv166_0 := Option.some.inj (hv166_0.symm.trans hx166_0)
                injection hv166_0 with hva_ hvn_ hvc_
                rw [hva_] at ge166_0
                rw [hvc_] at ul166_0
                have HL166_0 := Aside0.mk (show Kd.V (Kd.int .u8) 5 _ w.heap.size _ _ (rd_L1 t163 x26_4) from Kd.V_mk ul166_0 ge166_0)
                clear hva_ hvn_ hvc_ ge166_0 ul166_0
                clear hcc166 hce166
                have HR166_0 := Aside0.mk hi166_0
                have HC166_0 := Aside0.mk hl166_0
                clear hi166_0 hl166_0
                replace p166 := eq_true p166
                replace q166 := eq_true q166
                go_wp2_with (first | ((with_reducible refine gate_callee (f := 31) rfl ?_); refine goesL_ (some 32) rfl rfl Tryd.func31 (by kernel_rfl) rfl #[.slice A166_0 (rd_L1 t163 x26_4).length c166_0] rfl (by (try simp only [List.map_toArray, List.map_cons, List.map_nil]); first | done | rfl | (simp only [List.length_drop, List.length_take]; rfl)) ?_; (with_reducible refine (mark_signs.calls k4 _ _ (rd_L1 t163 x26_4) t167 t168 _ ?side1 ?side2 A16.out).mono ?_); (case side1 => repeat (first | exact (by repeat (first | (with_reducible exact HR166_0.out) | (with_reducible refine Kd.C_alloc ?_ _) | (with_reducible refine Kd.C_drewN ?_ _) | (with_reducible refine Kd.C_drew ?_) | exact HR166_0.out)) | (with_reducible refine Kd.C_alloc ?_ _) | (with_reducible refine Kd.C_drewN ?_ _) | (with_reducible refine Kd.C_drew ?_))); (case side2 => exact HC166_0.out); rintro e w19 ⟨rfl, hb⟩; refine ⟨_, rfl, ?_⟩; have n0_ := Aside0.mk (Kd.N_below (by (with_reducible repeat (first | apply Kd.N_alloc | apply Kd.N_drewN | apply Kd.N_drew)); exact HO_24.out) hb); have n1_ := Aside0.mk (Kd.V_below (by (with_reducible repeat (first | apply Kd.V_alloc | apply Kd.V_drewN | apply Kd.V_drew)); exact HL166_0.out) hb); have n2_ := Aside0.mk (Kd.C_below (by repeat (first | (with_reducible exact HR166_0.out) | (with_reducible refine Kd.C_alloc ?_ _) | (with_reducible refine Kd.C_drewN ?_ _) | (with_reducible refine Kd.C_drew ?_) | exact HR166_0.out)) hb); have n3_ := Aside0.mk (below_step (by repeat (first | (with_reducible first | exact HB.out | apply below_alloc | apply pw_below_drewN | apply below_drew1) | exact HB.out)) hb); clear HO_24; clear HL166_0; clear HR166_0; clear HB; have HO_24 := n0_; have HL166_0 := n1_; have HR166_0 := n2_; have HB := n3_; clear n0_ n1_ n2_ n3_; (try clear hb); (try clear hb2); (try clear hk); (try clear hi)))
                go_roundg k4
                case measure => have := HJ2.out; have := HJ4.out; have := HK3.out; have := HK4.out; omega
                case rel => exact ⟨(ji18), (wrap64 (x26_4 + 1)), (by first | rfl | (simp; done) | (simp only [← hji18] <;> (first | rfl | simp)) | (simp [*]; done)), (by first | rfl | (simp; done) | (simp [*]; done)), H', ⟨by have := HJ2.out; have := HJ4.out; have := HK3.out; have := HK4.out; omega⟩, ⟨by (with_reducible repeat (first | apply Kd.N_alloc | apply Kd.N_drewN | apply Kd.N_drew)); exact HO_24.out⟩, ⟨by repeat (first | (with_reducible first | exact HB.out | apply below_alloc | apply pw_below_drewN | apply below_drew1) | exact HB.out)⟩⟩
               ·rw [if_neg c17] at H
                have c17b0 : decide (0 < t167) = false := decide_eq_false c17
                clear c17
                have H' := Aside0.mk H
                clear H
                (try clear hx166_0)
                (repeat (first | clear HS0_ | clear HS1_ | clear HS2_ | clear HS3_ | clear HS4_ | clear HS5_ | clear HS6_ | clear HS7_ | clear HS8_ | clear HS9_ | clear HS10_ | clear HS11_ | clear HS12_ | clear HS13_ | clear HS14_ | clear HS15_ | clear HS16_ | clear HS17_ | clear HS18_ | clear HS19_ | clear HS20_ | clear HS21_ | clear HS22_ | clear HS23_))
                (try clear hHeld)
                have p166 : 0 ≤ (x26_4 : Int) := of_decide_eq_true (by first | (with_reducible assumption) | assumption)
                have q166 : x26_4 < (t163.length : Int) := of_decide_eq_true (by first | (with_reducible assumption) | assumption)
                obtain ⟨ad166, A166_0, c166_0, e166, hx166_0, hl166_0, hi166_0⟩ := at_L1 (Kd.N_reads' HO_24.out).2.2 x26_4 p166 q166
                cases e166
                obtain ⟨ce166, hce166, hMe166, hcc166⟩ := Kd.N_get HO_24.out [] x26_4 p166 (by first | exact q166 | exact of_decide_eq_true (by first | (with_reducible assumption) | assumption) | (have e_ := (Kd.N_reads' HO_24.out).1; omega))
                obtain ⟨ua166_0, uc166_0, rfl, ul166_0, ge166_0⟩ := Kd.FK_slice_open hMe166
                have hv166_0 := hcc166 0 _ rfl
                rw [Nat.add_zero, show ((Kd.slice 5 (Kd.int .u8))).sz = 1 from rfl, Nat.mul_one] at hv166_0
                replace hv166_0 := Option.some.inj (hv166_0.symm.trans hx166_0)
                injection hv166_0 with hva_ hvn_ hvc_
                rw [hva_] at ge166_0
                rw [hvc_] at ul166_0
                have HL166_0 := Aside0.mk (show Kd.V (Kd.int .u8) 5 _ w.heap.size _ _ (rd_L1 t163 x26_4) from Kd.V_mk ul166_0 ge166_0)
                clear hva_ hvn_ hvc_ ge166_0 ul166_0
                clear hcc166 hce166
                have HR166_0 := Aside0.mk hi166_0
                have HC166_0 := Aside0.mk hl166_0
                clear hi166_0 hl166_0
                replace p166 := eq_true p166
                replace q166 := eq_true q166
                go_wp2_with (first | ((with_reducible refine gate_callee (f := 31) rfl ?_); refine goesL_ (some 32) rfl rfl Tryd.func31 (by kernel_rfl) rfl #[.slice A166_0 (rd_L1 t163 x26_4).length c166_0] rfl (by (try simp only [List.map_toArray, List.map_cons, List.map_nil]); first | done | rfl | (simp only [List.length_drop, List.length_take]; rfl)) ?_; (with_reducible refine (mark_signs.calls k4 _ _ (rd_L1 t163 x26_4) t167 t168 _ ?side1 ?side2 A16.out).mono ?_); (case side1 => repeat (first | exact (by repeat (first | (with_reducible exact HR166_0.out) | (with_reducible refine Kd.C_alloc ?_ _) | (with_reducible refine Kd.C_drewN ?_ _) | (with_reducible refine Kd.C_drew ?_) | exact HR166_0.out)) | (with_reducible refine Kd.C_alloc ?_ _) | (with_reducible refine Kd.C_drewN ?_ _) | (with_reducible refine Kd.C_drew ?_))); (case side2 => exact HC166_0.out); rintro e w20 ⟨rfl, hb⟩; refine ⟨_, rfl, ?_⟩; have n0_ := Aside0.mk (Kd.N_below (by (with_reducible repeat (first | apply Kd.N_alloc | apply Kd.N_drewN | apply Kd.N_drew)); exact HO_24.out) hb); have n1_ := Aside0.mk (Kd.V_below (by (with_reducible repeat (first | apply Kd.V_alloc | apply Kd.V_drewN | apply Kd.V_drew)); exact HL166_0.out) hb); have n2_ := Aside0.mk (Kd.C_below (by repeat (first | (with_reducible exact HR166_0.out) | (with_reducible refine Kd.C_alloc ?_ _) | (with_reducible refine Kd.C_drewN ?_ _) | (with_reducible refine Kd.C_drew ?_) | exact HR166_0.out)) hb); have n3_ := Aside0.mk (below_step (by repeat (first | (with_reducible first | exact HB.out | apply below_alloc | apply pw_below_drewN | apply below_drew1) | exact HB.out)) hb); clear HO_24; clear HL166_0; clear HR166_0; clear HB; have HO_24 := n0_; have HL166_0 := n1_; have HR166_0 := n2_; have HB := n3_; clear n0_ n1_ n2_ n3_; (try clear hb); (try clear hb2); (try clear hk); (try clear hi)))
                go_roundg k4
                case measure => have := HJ2.out; have := HJ4.out; have := HK3.out; have := HK4.out; omega
                case rel => exact ⟨(x0_4), (wrap64 (x26_4 + 1)), (by first | rfl | (simp; done) | (simp [*]; done)), (by first | rfl | (simp; done) | (simp [*]; done)), H', ⟨by have := HJ2.out; have := HJ4.out; have := HK3.out; have := HK4.out; omega⟩, ⟨by (with_reducible repeat (first | apply Kd.N_alloc | apply Kd.N_drewN | apply Kd.N_drew)); exact HO_24.out⟩, ⟨by repeat (first | (with_reducible first | exact HB.out | apply below_alloc | apply pw_below_drewN | apply below_drew1) | exact HB.out)⟩⟩
              ·rw [if_neg c15] at H
               exact absurd H (by simp)
             ·rw [if_neg c14] at H
              exact absurd H (by simp)
            ·rw [if_neg c13] at H
             have c13b0 : decide (x26_4 < (t163.length : Int)) = false := decide_eq_false c13
             clear c13
             have H' := Aside0.mk H
             clear H
             go_wp2
             go_roundg k4
             case measure => have := HJ2.out; have := HJ4.out; have := HK3.out; have := HK4.out; omega
             case rel => exact ⟨(x0_4), (wrap64 (x19_3 + 1)), (by first | rfl | (simp; done) | (simp [*]; done)), (by first | rfl | (simp; done) | (simp [*]; done)), H', ⟨by have := HJ2.out; have := HJ4.out; have := HK3.out; have := HK4.out; omega⟩, ⟨by repeat (first | (with_reducible first | exact HB.out | apply below_alloc | apply pw_below_drewN | apply below_drew1) | exact HB.out)⟩⟩
         ·rw [if_neg c9] at H
          exact absurd H (by simp)
        ·rw [if_neg c8] at H
         exact absurd H (by simp)
       ·rw [if_neg c7] at H
        have c7b0 : decide (x19_3 < (l1.length : Int)) = false := decide_eq_false c7
        clear c7
        obtain rfl := Option.some.inj H
        go_wp2
        go_ret
        exact ⟨by first | rfl | (simp [errW_none, errW_some] <;> rfl) | (simp [*, errW_none, errW_some] <;> rfl), by repeat (first | (with_reducible first | exact HB.out | apply below_alloc | apply pw_below_drewN | apply below_drew1) | exact HB.out)⟩

/-! ### scarfref18_Length: function 17 -/
mutual
def scarfref18_Length.j0 : Nat → Int → List (List Int) → Int → Bool → Option (Int)
 | 0, _, _, _, _ => none
 | k + 1, x0, x1, x5, x15 => if x15 = true then (scarfref18_Length.j1 k x1 x0) else (scarfref18_Length.j1 k x1 x5)
def scarfref18_Length.j1 : Nat → List (List Int) → Int → Option (Int)
 | 0, _, _ => none
 | k + 1, x1, x5 => scarfref18_Length.l0 k x1 x5 0
def scarfref18_Length.l0 : Nat → List (List Int) → Int → Int → Option (Int)
 | 0, _, _, _ => none
 | k + 1, x1, x5, x6 => if x6 < (x1.length : Int) then (if 0 ≤ x6 then ((scarfref02_Split.f k (rd_L1 x1 x6)).bind fun t170 => (scarfref18_Length.l1 k x1 x5 x6 t170 0)) else (none)) else (some x5)
def scarfref18_Length.l1 : Nat → List (List Int) → Int → Int → List (List Int) → Int → Option (Int)
 | 0, _, _, _, _, _ => none
 | k + 1, x1, x5, x6, x7, x8 => if x8 < (x7.length : Int) then (if 0 ≤ x8 then ((scarfref18_runs.f k (rd_L1 x7 x8)).bind fun t174 => (if t174 > 0 then (if t174 ≥ x5 then (scarfref18_Length.l1 k x1 (wrap64 (t174 + 1)) x6 x7 (wrap64 (x8 + 1))) else (scarfref18_Length.l1 k x1 x5 x6 x7 (wrap64 (x8 + 1)))) else (scarfref18_Length.l1 k x1 x5 x6 x7 (wrap64 (x8 + 1))))) else (none)) else (scarfref18_Length.l0 k x1 x5 (wrap64 (x6 + 1)))
end
def scarfref18_Length.f (k : Nat) (a0 : Int) (l1 : List (List Int)) : Option (Int) := if a0 ≥ 1 then (scarfref18_Length.j0 k a0 l1 7 (decide (a0 ≤ 1000))) else (scarfref18_Length.j0 k a0 l1 7 false)
theorem scarfref18_Length.mono_l : ∀ k, (∀ y0 y1 y2 y3, LeO (scarfref18_Length.j0 k y0 y1 y2 y3) (scarfref18_Length.j0 (k + 1) y0 y1 y2 y3)) ∧ (∀ y0 y1, LeO (scarfref18_Length.j1 k y0 y1) (scarfref18_Length.j1 (k + 1) y0 y1)) ∧ (∀ y0 y1 y2, LeO (scarfref18_Length.l0 k y0 y1 y2) (scarfref18_Length.l0 (k + 1) y0 y1 y2)) ∧ (∀ y0 y1 y2 y3 y4, LeO (scarfref18_Length.l1 k y0 y1 y2 y3 y4) (scarfref18_Length.l1 (k + 1) y0 y1 y2 y3 y4))
 | 0 => ⟨fun _ _ _ _ r h => by simp [scarfref18_Length.j0] at h, fun _ _ r h => by simp [scarfref18_Length.j1] at h, fun _ _ _ r h => by simp [scarfref18_Length.l0] at h, fun _ _ _ _ _ r h => by simp [scarfref18_Length.l1] at h⟩
 | k + 1 => by
  obtain ⟨ih0, ih1, ih2, ih3⟩ := scarfref18_Length.mono_l k
  refine ⟨?_, ?_, ?_, ?_⟩
  ·intro y0 y1 y2 y3
   unfold scarfref18_Length.j0
   repeat' first
   | (with_reducible exact ih0 _ _ _ _)
   | (with_reducible exact ih1 _ _)
   | (with_reducible exact ih2 _ _ _)
   | (with_reducible exact ih3 _ _ _ _ _)
   | (with_reducible exact scarfref02_Split.mono _ _)
   | (with_reducible exact scarfref18_runs.mono _ _)
   | (with_reducible exact LeO.refl _)
   | (with_reducible exact LeO.none _)
   | (with_reducible refine LeO.ite ?_ ?_)
   | (with_reducible refine LeO.bind ?_ (fun _ => ?_))
   | exact ih0 _ _ _ _
   | exact ih1 _ _
   | exact ih2 _ _ _
   | exact ih3 _ _ _ _ _
   | exact scarfref02_Split.mono _ _
   | exact scarfref18_runs.mono _ _
   | exact LeO.none _
   | refine LeO.ite ?_ ?_
   | refine LeO.bind ?_ (fun _ => ?_)
  ·intro y0 y1
   unfold scarfref18_Length.j1
   repeat' first
   | (with_reducible exact ih0 _ _ _ _)
   | (with_reducible exact ih1 _ _)
   | (with_reducible exact ih2 _ _ _)
   | (with_reducible exact ih3 _ _ _ _ _)
   | (with_reducible exact scarfref02_Split.mono _ _)
   | (with_reducible exact scarfref18_runs.mono _ _)
   | (with_reducible exact LeO.refl _)
   | (with_reducible exact LeO.none _)
   | (with_reducible refine LeO.ite ?_ ?_)
   | (with_reducible refine LeO.bind ?_ (fun _ => ?_))
   | exact ih0 _ _ _ _
   | exact ih1 _ _
   | exact ih2 _ _ _
   | exact ih3 _ _ _ _ _
   | exact scarfref02_Split.mono _ _
   | exact scarfref18_runs.mono _ _
   | exact LeO.none _
   | refine LeO.ite ?_ ?_
   | refine LeO.bind ?_ (fun _ => ?_)
  ·intro y0 y1 y2
   unfold scarfref18_Length.l0
   repeat' first
   | (with_reducible exact ih0 _ _ _ _)
   | (with_reducible exact ih1 _ _)
   | (with_reducible exact ih2 _ _ _)
   | (with_reducible exact ih3 _ _ _ _ _)
   | (with_reducible exact scarfref02_Split.mono _ _)
   | (with_reducible exact scarfref18_runs.mono _ _)
   | (with_reducible exact LeO.refl _)
   | (with_reducible exact LeO.none _)
   | (with_reducible refine LeO.ite ?_ ?_)
   | (with_reducible refine LeO.bind ?_ (fun _ => ?_))
   | exact ih0 _ _ _ _
   | exact ih1 _ _
   | exact ih2 _ _ _
   | exact ih3 _ _ _ _ _
   | exact scarfref02_Split.mono _ _
   | exact scarfref18_runs.mono _ _
   | exact LeO.none _
   | refine LeO.ite ?_ ?_
   | refine LeO.bind ?_ (fun _ => ?_)
  ·intro y0 y1 y2 y3 y4
   unfold scarfref18_Length.l1
   repeat' first
   | (with_reducible exact ih0 _ _ _ _)
   | (with_reducible exact ih1 _ _)
   | (with_reducible exact ih2 _ _ _)
   | (with_reducible exact ih3 _ _ _ _ _)
   | (with_reducible exact scarfref02_Split.mono _ _)
   | (with_reducible exact scarfref18_runs.mono _ _)
   | (with_reducible exact LeO.refl _)
   | (with_reducible exact LeO.none _)
   | (with_reducible refine LeO.ite ?_ ?_)
   | (with_reducible refine LeO.bind ?_ (fun _ => ?_))
   | exact ih0 _ _ _ _
   | exact ih1 _ _
   | exact ih2 _ _ _
   | exact ih3 _ _ _ _ _
   | exact scarfref02_Split.mono _ _
   | exact scarfref18_runs.mono _ _
   | exact LeO.none _
   | refine LeO.ite ?_ ?_
   | refine LeO.bind ?_ (fun _ => ?_)
theorem scarfref18_Length.mono : ∀ a0 a1 k, LeO (scarfref18_Length.f k a0 a1) (scarfref18_Length.f (k + 1) a0 a1) := by
 intro a0 a1 k
 obtain ⟨ih0, ih1, ih2, ih3⟩ := scarfref18_Length.mono_l k
 unfold scarfref18_Length.f
 repeat' first
   | (with_reducible exact ih0 _ _ _ _)
   | (with_reducible exact ih1 _ _)
   | (with_reducible exact ih2 _ _ _)
   | (with_reducible exact ih3 _ _ _ _ _)
   | (with_reducible exact scarfref02_Split.mono _ _)
   | (with_reducible exact scarfref18_runs.mono _ _)
   | (with_reducible exact LeO.refl _)
   | (with_reducible exact LeO.none _)
   | (with_reducible refine LeO.ite ?_ ?_)
   | (with_reducible refine LeO.bind ?_ (fun _ => ?_))
   | exact ih0 _ _ _ _
   | exact ih1 _ _
   | exact ih2 _ _ _
   | exact ih3 _ _ _ _ _
   | exact scarfref02_Split.mono _ _
   | exact scarfref18_runs.mono _ _
   | exact LeO.none _
   | refine LeO.ite ?_ ?_
   | refine LeO.bind ?_ (fun _ => ?_)
set_option maxHeartbeats 8000000 in
set_option maxRecDepth 100000 in
theorem scarfref18_Length.calls (k : Nat) (a0 : Int) (A1 : Option Addr) (c1 : Nat) (l1 : List (List Int)) (r : Int) (w : World) (hr1 : Kd.C (Kd.slice 5 (Kd.int .u8)) w A1 l1.length l1) (hc1 : l1.length ≤ c1) (h : scarfref18_Length.f k a0 l1 = some r) :
  Calls Tryd.prog 17 #[.int .i64 a0, .slice A1 l1.length c1] w fun e w' => e = .returned (.int .i64 r) ∧ Below w.heap.size w w' := by
 have HR1 := Aside0.mk hr1
 have HC1 := Aside0.mk hc1
 clear hr1 hc1
 have HB := Aside0.mk (Below.refl w.heap.size w)
 have H : (if a0 ≥ 1 then (scarfref18_Length.j0 k a0 l1 7 (decide (a0 ≤ 1000))) else (scarfref18_Length.j0 k a0 l1 7 false)) = some r := h
 clear h
 have HC3 := Aside0.mk H
 clear H
 go_enter Tryd.func17, Tryd.ntmps17
 go_upto_region 2 with (fail)
 go_cut [15] (fun v15 wc => ∃ (kq : Nat) (x15_2 : Bool), v15 = .bool x15_2 ∧ Aside0 (scarfref18_Length.j0 kq a0 l1 7 x15_2 = some r) ∧ Aside0 (kq ≤ k) ∧ Aside0 (Below w.heap.size w wc))
 case first =>
  have H := HC3.out
  clear HC3
  by_cases c4 : a0 ≥ 1
  ·rw [if_pos c4] at H
   have c4b0 : decide (1 ≤ a0) = true := decide_eq_true c4
   clear c4
   (first | rw [c4b0] | (simp only [i64_w, i32_w]; rw [c4b0]) | skip)
   have H' := Aside0.mk H
   clear H
   go_wp2
   go_meet
   case rel => exact ⟨_, (decide (a0 ≤ 1000)), (by first | rfl | (simp; done) | (simp [*]; done)), H', ⟨by first | omega | exact Nat.le_refl _⟩, ⟨by repeat (first | (with_reducible first | exact HB.out | apply below_alloc | apply pw_below_drewN | apply below_drew1) | exact HB.out)⟩⟩
  ·rw [if_neg c4] at H
   have c4b0 : decide (1 ≤ a0) = false := decide_eq_false c4
   clear c4
   (first | rw [c4b0] | (simp only [i64_w, i32_w]; rw [c4b0]) | skip)
   have H' := Aside0.mk H
   clear H
   go_wp2
   go_meet
   case rel => exact ⟨_, (false), (by first | rfl | (simp; done) | (simp [*]; done)), H', ⟨by first | omega | exact Nat.le_refl _⟩, ⟨by repeat (first | (with_reducible first | exact HB.out | apply below_alloc | apply pw_below_drewN | apply below_drew1) | exact HB.out)⟩⟩
 case rest =>
  clear HC3
  try clear c1
  try clear p2
  try clear c4
  try clear c4b0
  obtain ⟨kq, x15_2, rfl, HA, HJ2, HB⟩ := hcut
  cases kq with
  | zero => exact absurd HA.out (by simp [scarfref18_Length.j0])
  | succ kj2 =>
   have H := HA.out
   clear HA
   simp only [scarfref18_Length.j0] at H
   have HC5 := Aside0.mk H
   clear H
   go_upto_if 15 with (fail)
   go_cut [5] (fun v5 wc => ∃ (kq : Nat) (x5_4 : Int), v5 = .int .i64 x5_4 ∧ Aside0 (scarfref18_Length.j1 kq l1 x5_4 = some r) ∧ Aside0 (kq ≤ kj2) ∧ Aside0 (Below w.heap.size w wc))
   case first =>
    have H := HC5.out
    clear HC5
    by_cases c6 : x15_2 = true
    ·subst c6
     have H1 : (scarfref18_Length.j1 kj2 l1 a0) = some r := by rw [if_pos rfl] at H; exact H
     clear H
     have H := H1
     clear H1
     have H' := Aside0.mk H
     clear H
     go_wp2
     go_meet
     case rel => exact ⟨_, (a0), (by first | rfl | (simp; done) | (simp [*]; done)), H', ⟨by have := HJ2.out; first | omega | exact Nat.le_refl _⟩, ⟨by repeat (first | (with_reducible first | exact HB.out | apply below_alloc | apply pw_below_drewN | apply below_drew1) | exact HB.out)⟩⟩
    ·replace c6 := Bool.eq_false_iff.mpr c6
     subst c6
     have H1 : (scarfref18_Length.j1 kj2 l1 7) = some r := by rw [if_neg (show ¬ (false = true) by decide)] at H; exact H
     clear H
     have H := H1
     clear H1
     have H' := Aside0.mk H
     clear H
     go_wp2
     go_meet
     case rel => exact ⟨_, (7), (by first | rfl | (simp; done) | (simp [*]; done)), H', ⟨by have := HJ2.out; first | omega | exact Nat.le_refl _⟩, ⟨by repeat (first | (with_reducible first | exact HB.out | apply below_alloc | apply pw_below_drewN | apply below_drew1) | exact HB.out)⟩⟩
   case rest =>
    clear HC5
    try clear c1
    try clear p2
    try clear c4
    try clear c4b0
    try clear c6
    try clear p2
    obtain ⟨kq, x5_4, rfl, HA, HJ4, HB⟩ := hcut
    cases kq with
    | zero => exact absurd HA.out (by simp [scarfref18_Length.j1])
    | succ kj4 =>
     have H := HA.out
     clear HA
     simp only [scarfref18_Length.j1] at H
     have H' := Aside0.mk H
     clear H
     go_wp2
     go_loopg [5, 6] kj4 (fun kq v5 v6 w' => ∃ (x5_3 : Int) (x6_3 : Int), v5 = .int .i64 x5_3 ∧ v6 = .int .i64 x6_3 ∧ Aside0 (scarfref18_Length.l0 kq l1 x5_3 x6_3 = some r) ∧ Aside0 (kq ≤ kj4) ∧ Aside0 (Below w.heap.size w w'))
     case atStart => exact ⟨(x5_4), (0), (by first | rfl | (simp; done) | (simp [*]; done)), (by first | rfl | (simp; done) | (simp [*]; done)), H', ⟨Nat.le_refl _⟩, ⟨by repeat (first | (with_reducible first | exact HB.out | apply below_alloc | apply pw_below_drewN | apply below_drew1) | exact HB.out)⟩⟩
     case round =>
      clear H'
      try clear c1
      try clear p2
      try clear c4
      try clear c4b0
      try clear c6
      try clear p2
      obtain ⟨x5_3, x6_3, rfl, rfl, HA, HK3, HB⟩ := hrel
      cases gk with
      | zero => exact absurd HA.out (by simp [scarfref18_Length.l0])
      | succ k3 =>
       have H := HA.out
       clear HA
       simp only [scarfref18_Length.l0] at H
       by_cases c7 : x6_3 < (l1.length : Int)
       ·rw [if_pos c7] at H
        have c7b0 : decide (x6_3 < (l1.length : Int)) = true := decide_eq_true c7
        clear c7
        by_cases c8 : 0 ≤ x6_3
        ·rw [if_pos c8] at H
         have c8b0 : decide (0 ≤ x6_3) = true := decide_eq_true c8
         clear c8
         replace H := Option.bind_eq_some_iff.mp H
         obtain ⟨t170, A90, H⟩ := H
         replace H : (scarfref18_Length.l1 k3 l1 x5_3 x6_3 t170 0) = some r := H
         have A9 := Aside0.mk A90
         clear A90
         have H' := Aside0.mk H
         clear H
         have p169 : 0 ≤ (x6_3 : Int) := of_decide_eq_true (by first | (with_reducible assumption) | assumption)
         have q169 : x6_3 < (l1.length : Int) := of_decide_eq_true (by first | (with_reducible assumption) | assumption)
         obtain ⟨ad169, A169_0, c169_0, e169, hx169_0, hl169_0, hi169_0⟩ := at_L1 HR1.out x6_3 p169 q169
         cases e169
         replace hx169_0 := (HB.out.cell (World.block_lt_of_cell? w _ hx169_0)).trans hx169_0
         have HR169_0 := Aside0.mk hi169_0
         have HC169_0 := Aside0.mk hl169_0
         clear hi169_0 hl169_0
         replace p169 := eq_true p169
         replace q169 := eq_true q169
         go_wp2_with (first | ((with_reducible refine gate_callee (f := 27) rfl ?_); refine goesL_ (some 27) rfl rfl Tryd.func27 (by kernel_rfl) rfl #[.slice A169_0 (rd_L1 l1 x6_3).length c169_0] rfl (by (try simp only [List.map_toArray, List.map_cons, List.map_nil]); first | done | rfl | (simp only [List.length_drop, List.length_take]; rfl)) ?_; (with_reducible refine (scarfref02_Split.calls k3 _ _ (rd_L1 l1 x6_3) t170 _ ?side1 ?side2 A9.out).mono ?_); (case side1 => repeat (first | exact (Kd.C_below HR169_0.out HB.out) | (with_reducible refine Kd.C_alloc ?_ _) | (with_reducible refine Kd.C_drewN ?_ _) | (with_reducible refine Kd.C_drew ?_))); (case side2 => exact HC169_0.out); rintro e w10 ⟨v171, rfl, ho0, hb⟩; refine ⟨_, rfl, ?_⟩; have n0_ := Aside0.mk (Kd.S_lower ho0 (below_size (by repeat (first | (with_reducible first | exact HB.out | apply below_alloc | apply pw_below_drewN | apply below_drew1) | exact HB.out)))); have n1_ := Aside0.mk (below_step (by repeat (first | (with_reducible first | exact HB.out | apply below_alloc | apply pw_below_drewN | apply below_drew1) | exact HB.out)) hb); clear HB; have HO172 := n0_; have HB := n1_; clear n0_ n1_; (try clear hb); (try clear hb2); (try clear hk); (try clear hi); (try clear ho0)))
         go_loopg [5, 8] k3 (fun kq v5 v8 w' => ∃ (x5_4 : Int) (x8_4 : Int), v5 = .int .i64 x5_4 ∧ v8 = .int .i64 x8_4 ∧ Aside0 (scarfref18_Length.l1 kq l1 x5_4 x6_3 t170 x8_4 = some r) ∧ Aside0 (kq ≤ k3) ∧ Aside0 (Kd.S (Kd.slice 5 (Kd.int .u8)) 22 w' w.heap.size (fun _ => True) v171 t170) ∧ Aside0 (Below w.heap.size w w'))
         case atStart => exact ⟨(x5_3), (0), (by first | rfl | (simp; done) | (simp [*]; done)), (by first | rfl | (simp; done) | (simp [*]; done)), H', ⟨Nat.le_refl _⟩, ⟨by (with_reducible repeat (first | apply Kd.S_alloc | apply Kd.S_drewN | apply Kd.S_drew)); exact HO172.out⟩, ⟨by repeat (first | (with_reducible first | exact HB.out | apply below_alloc | apply pw_below_drewN | apply below_drew1) | exact HB.out)⟩⟩
         case round =>
          clear H'
          try clear c1
          try clear p1
          try clear q1
          try clear hx1
          try clear c2
          try clear p2
          try clear c4
          try clear c4b0
          try clear c6
          try clear c7
          try clear c7b0
          try clear c8
          try clear c8b0
          try clear hx169_0
          try clear p169
          try clear p2
          try clear q169
          obtain ⟨x5_4, x8_4, rfl, rfl, HA, HK4, HO_7, HB⟩ := hrel
          cases gk with
          | zero => exact absurd HA.out (by simp [scarfref18_Length.l1])
          | succ k4 =>
           have H := HA.out
           clear HA
           simp only [scarfref18_Length.l1] at H
           by_cases c11 : x8_4 < (t170.length : Int)
           ·rw [if_pos c11] at H
            have c11b0 : decide (x8_4 < (t170.length : Int)) = true := decide_eq_true c11
            clear c11
            by_cases c12 : 0 ≤ x8_4
            ·rw [if_pos c12] at H
             have c12b0 : decide (0 ≤ x8_4) = true := decide_eq_true c12
             clear c12
             replace H := Option.bind_eq_some_iff.mp H
             obtain ⟨t174, A130, H⟩ := H
             replace H : (if t174 > 0 then (if t174 ≥ x5_4 then (scarfref18_Length.l1 k4 l1 (wrap64 (t174 + 1)) x6_3 t170 (wrap64 (x8_4 + 1))) else (scarfref18_Length.l1 k4 l1 x5_4 x6_3 t170 (wrap64 (x8_4 + 1)))) else (scarfref18_Length.l1 k4 l1 x5_4 x6_3 t170 (wrap64 (x8_4 + 1)))) = some r := H
             have A13 := Aside0.mk A130
             clear A130
             by_cases c14 : t174 > 0
             ·rw [if_pos c14] at H
              have c14b0 : decide (0 < t174) = true := decide_eq_true c14
              clear c14
              by_cases c15 : t174 ≥ x5_4
              ·rw [if_pos c15] at H
               have c15b0 : decide (x5_4 ≤ t174) = true := decide_eq_true c15
               clear c15
               have H' := Aside0.mk H
               clear H
               obtain ⟨Ao16, co16, eo16⟩ := Kd.S_slice HO_7.out
               subst eo16
               have p173 : 0 ≤ (x8_4 : Int) := of_decide_eq_true (by first | (with_reducible assumption) | assumption)
               have q173 : x8_4 < (t170.length : Int) := of_decide_eq_true (by first | (with_reducible assumption) | assumption)
               obtain ⟨ad173, A173_0, c173_0, e173, hx173_0, hl173_0, hi173_0⟩ := at_L1 (Kd.S_reads' HO_7.out).2.2 x8_4 p173 q173
               cases e173
               obtain ⟨ce173, hce173, hMe173, hcc173⟩ := Kd.S_get HO_7.out [] x8_4 p173 (by first | exact q173 | exact of_decide_eq_true (by first | (with_reducible assumption) | assumption) | (have e_ := (Kd.S_reads' HO_7.out).1; omega))
               obtain ⟨ve173_0, rfl, ge173_0⟩ := hMe173
               have hv173_0 := hcc173 0 _ rfl
               rw [Nat.add_zero, show ((Kd.slice 5 (Kd.int .u8))).sz = 1 from rfl, Nat.mul_one] at hv173_0
               replace hv173_0 := Option.some.inj (hv173_0.symm.trans hx173_0)
               rw [hv173_0] at ge173_0
               have HL173_0 := Aside0.mk (show Kd.R (Kd.int .u8) 5 _ _ _ _ (rd_L1 t170 x8_4) from ge173_0)
               clear hv173_0 ge173_0
               clear hcc173 hce173
               have HR173_0 := Aside0.mk hi173_0
               have HC173_0 := Aside0.mk hl173_0
               clear hi173_0 hl173_0
               replace p173 := eq_true p173
               replace q173 := eq_true q173
               go_wp2_with (first | ((with_reducible refine gate_callee (f := 32) rfl ?_); refine goesL_ (some 38) rfl rfl Tryd.func32 (by kernel_rfl) rfl #[.slice A173_0 (rd_L1 t170 x8_4).length c173_0] rfl (by (try simp only [List.map_toArray, List.map_cons, List.map_nil]); first | done | rfl | (simp only [List.length_drop, List.length_take]; rfl)) ?_; (with_reducible refine (scarfref18_runs.calls k4 _ _ (rd_L1 t170 x8_4) t174 _ ?side1 ?side2 A13.out).mono ?_); (case side1 => repeat (first | exact (by repeat (first | (with_reducible exact HR173_0.out) | (with_reducible refine Kd.C_alloc ?_ _) | (with_reducible refine Kd.C_drewN ?_ _) | (with_reducible refine Kd.C_drew ?_) | exact HR173_0.out)) | (with_reducible refine Kd.C_alloc ?_ _) | (with_reducible refine Kd.C_drewN ?_ _) | (with_reducible refine Kd.C_drew ?_))); (case side2 => exact HC173_0.out); rintro e w' ⟨rfl, ⟨nd, rfl⟩⟩; refine ⟨_, rfl, ?_⟩))
               go_roundg k4
               case measure => have := HJ2.out; have := HJ4.out; have := HK3.out; have := HK4.out; omega
               case rel => exact ⟨(wrap64 (t174 + 1)), (wrap64 (x8_4 + 1)), (by first | rfl | (simp; done) | (simp [*]; done)), (by first | rfl | (simp; done) | (simp [*]; done)), H', ⟨by have := HJ2.out; have := HJ4.out; have := HK3.out; have := HK4.out; omega⟩, ⟨by (with_reducible repeat (first | apply Kd.S_alloc | apply Kd.S_drewN | apply Kd.S_drew)); exact HO_7.out⟩, ⟨by repeat (first | (with_reducible first | exact HB.out | apply below_alloc | apply pw_below_drewN | apply below_drew1) | exact HB.out)⟩⟩
              ·rw [if_neg c15] at H
               have c15b0 : decide (x5_4 ≤ t174) = false := decide_eq_false c15
               clear c15
               have H' := Aside0.mk H
               clear H
               obtain ⟨Ao17, co17, eo17⟩ := Kd.S_slice HO_7.out
               subst eo17
               (try clear hx173_0)
               (repeat (first | clear HS0_ | clear HS1_ | clear HS2_ | clear HS3_ | clear HS4_ | clear HS5_ | clear HS6_ | clear HS7_ | clear HS8_ | clear HS9_ | clear HS10_ | clear HS11_ | clear HS12_ | clear HS13_ | clear HS14_ | clear HS15_ | clear HS16_ | clear HS17_ | clear HS18_ | clear HS19_ | clear HS20_ | clear HS21_ | clear HS22_ | clear HS23_))
               (try clear hHeld)
               have p173 : 0 ≤ (x8_4 : Int) := of_decide_eq_true (by first | (with_reducible assumption) | assumption)
               have q173 : x8_4 < (t170.length : Int) := of_decide_eq_true (by first | (with_reducible assumption) | assumption)
               obtain ⟨ad173, A173_0, c173_0, e173, hx173_0, hl173_0, hi173_0⟩ := at_L1 (Kd.S_reads' HO_7.out).2.2 x8_4 p173 q173
               cases e173
               obtain ⟨ce173, hce173, hMe173, hcc173⟩ := Kd.S_get HO_7.out [] x8_4 p173 (by first | exact q173 | exact of_decide_eq_true (by first | (with_reducible assumption) | assumption) | (have e_ := (Kd.S_reads' HO_7.out).1; omega))
               obtain ⟨ve173_0, rfl, ge173_0⟩ := hMe173
               have hv173_0 := hcc173 0 _ rfl
               rw [Nat.add_zero, show ((Kd.slice 5 (Kd.int .u8))).sz = 1 from rfl, Nat.mul_one] at hv173_0
               replace hv173_0 := Option.some.inj (hv173_0.symm.trans hx173_0)
               rw [hv173_0] at ge173_0
               have HL173_0 := Aside0.mk (show Kd.R (Kd.int .u8) 5 _ _ _ _ (rd_L1 t170 x8_4) from ge173_0)
               clear hv173_0 ge173_0
               clear hcc173 hce173
               have HR173_0 := Aside0.mk hi173_0
               have HC173_0 := Aside0.mk hl173_0
               clear hi173_0 hl173_0
               replace p173 := eq_true p173
               replace q173 := eq_true q173
               go_wp2_with (first | ((with_reducible refine gate_callee (f := 32) rfl ?_); refine goesL_ (some 38) rfl rfl Tryd.func32 (by kernel_rfl) rfl #[.slice A173_0 (rd_L1 t170 x8_4).length c173_0] rfl (by (try simp only [List.map_toArray, List.map_cons, List.map_nil]); first | done | rfl | (simp only [List.length_drop, List.length_take]; rfl)) ?_; (with_reducible refine (scarfref18_runs.calls k4 _ _ (rd_L1 t170 x8_4) t174 _ ?side1 ?side2 A13.out).mono ?_); (case side1 => repeat (first | exact (by repeat (first | (with_reducible exact HR173_0.out) | (with_reducible refine Kd.C_alloc ?_ _) | (with_reducible refine Kd.C_drewN ?_ _) | (with_reducible refine Kd.C_drew ?_) | exact HR173_0.out)) | (with_reducible refine Kd.C_alloc ?_ _) | (with_reducible refine Kd.C_drewN ?_ _) | (with_reducible refine Kd.C_drew ?_))); (case side2 => exact HC173_0.out); rintro e w' ⟨rfl, ⟨nd, rfl⟩⟩; refine ⟨_, rfl, ?_⟩))
               go_roundg k4
               case measure => have := HJ2.out; have := HJ4.out; have := HK3.out; have := HK4.out; omega
               case rel => exact ⟨(x5_4), (wrap64 (x8_4 + 1)), (by first | rfl | (simp; done) | (simp [*]; done)), (by first | rfl | (simp; done) | (simp [*]; done)), H', ⟨by have := HJ2.out; have := HJ4.out; have := HK3.out; have := HK4.out; omega⟩, ⟨by (with_reducible repeat (first | apply Kd.S_alloc | apply Kd.S_drewN | apply Kd.S_drew)); exact HO_7.out⟩, ⟨by repeat (first | (with_reducible first | exact HB.out | apply below_alloc | apply pw_below_drewN | apply below_drew1) | exact HB.out)⟩⟩
             ·rw [if_neg c14] at H
              have c14b0 : decide (0 < t174) = false := decide_eq_false c14
              clear c14
              have H' := Aside0.mk H
              clear H
              obtain ⟨Ao18, co18, eo18⟩ := Kd.S_slice HO_7.out
              subst eo18
              (try clear hx173_0)
              (try clear hx173_0)
              (repeat (first | clear HS0_ | clear HS1_ | clear HS2_ | clear HS3_ | clear HS4_ | clear HS5_ | clear HS6_ | clear HS7_ | clear HS8_ | clear HS9_ | clear HS10_ | clear HS11_ | clear HS12_ | clear HS13_ | clear HS14_ | clear HS15_ | clear HS16_ | clear HS17_ | clear HS18_ | clear HS19_ | clear HS20_ | clear HS21_ | clear HS22_ | clear HS23_))
              (try clear hHeld)
              have p173 : 0 ≤ (x8_4 : Int) := of_decide_eq_true (by first | (with_reducible assumption) | assumption)
              have q173 : x8_4 < (t170.length : Int) := of_decide_eq_true (by first | (with_reducible assumption) | assumption)
              obtain ⟨ad173, A173_0, c173_0, e173, hx173_0, hl173_0, hi173_0⟩ := at_L1 (Kd.S_reads' HO_7.out).2.2 x8_4 p173 q173
              cases e173
              obtain ⟨ce173, hce173, hMe173, hcc173⟩ := Kd.S_get HO_7.out [] x8_4 p173 (by first | exact q173 | exact of_decide_eq_true (by first | (with_reducible assumption) | assumption) | (have e_ := (Kd.S_reads' HO_7.out).1; omega))
              obtain ⟨ve173_0, rfl, ge173_0⟩ := hMe173
              have hv173_0 := hcc173 0 _ rfl
              rw [Nat.add_zero, show ((Kd.slice 5 (Kd.int .u8))).sz = 1 from rfl, Nat.mul_one] at hv173_0
              replace hv173_0 := Option.some.inj (hv173_0.symm.trans hx173_0)
              rw [hv173_0] at ge173_0
              have HL173_0 := Aside0.mk (show Kd.R (Kd.int .u8) 5 _ _ _ _ (rd_L1 t170 x8_4) from ge173_0)
              clear hv173_0 ge173_0
              clear hcc173 hce173
              have HR173_0 := Aside0.mk hi173_0
              have HC173_0 := Aside0.mk hl173_0
              clear hi173_0 hl173_0
              replace p173 := eq_true p173
              replace q173 := eq_true q173
              go_wp2_with (first | ((with_reducible refine gate_callee (f := 32) rfl ?_); refine goesL_ (some 38) rfl rfl Tryd.func32 (by kernel_rfl) rfl #[.slice A173_0 (rd_L1 t170 x8_4).length c173_0] rfl (by (try simp only [List.map_toArray, List.map_cons, List.map_nil]); first | done | rfl | (simp only [List.length_drop, List.length_take]; rfl)) ?_; (with_reducible refine (scarfref18_runs.calls k4 _ _ (rd_L1 t170 x8_4) t174 _ ?side1 ?side2 A13.out).mono ?_); (case side1 => repeat (first | exact (by repeat (first | (with_reducible exact HR173_0.out) | (with_reducible refine Kd.C_alloc ?_ _) | (with_reducible refine Kd.C_drewN ?_ _) | (with_reducible refine Kd.C_drew ?_) | exact HR173_0.out)) | (with_reducible refine Kd.C_alloc ?_ _) | (with_reducible refine Kd.C_drewN ?_ _) | (with_reducible refine Kd.C_drew ?_))); (case side2 => exact HC173_0.out); rintro e w' ⟨rfl, ⟨nd, rfl⟩⟩; refine ⟨_, rfl, ?_⟩))
              go_roundg k4
              case measure => have := HJ2.out; have := HJ4.out; have := HK3.out; have := HK4.out; omega
              case rel => exact ⟨(x5_4), (wrap64 (x8_4 + 1)), (by first | rfl | (simp; done) | (simp [*]; done)), (by first | rfl | (simp; done) | (simp [*]; done)), H', ⟨by have := HJ2.out; have := HJ4.out; have := HK3.out; have := HK4.out; omega⟩, ⟨by (with_reducible repeat (first | apply Kd.S_alloc | apply Kd.S_drewN | apply Kd.S_drew)); exact HO_7.out⟩, ⟨by repeat (first | (with_reducible first | exact HB.out | apply below_alloc | apply pw_below_drewN | apply below_drew1) | exact HB.out)⟩⟩
            ·rw [if_neg c12] at H
             exact absurd H (by simp)
           ·rw [if_neg c11] at H
            have c11b0 : decide (x8_4 < (t170.length : Int)) = false := decide_eq_false c11
            clear c11
            have H' := Aside0.mk H
            clear H
            obtain ⟨Ao19, co19, eo19⟩ := Kd.S_slice HO_7.out
            subst eo19
            go_wp2
            go_roundg k4
            case measure => have := HJ2.out; have := HJ4.out; have := HK3.out; have := HK4.out; omega
            case rel => exact ⟨(x5_4), (wrap64 (x6_3 + 1)), (by first | rfl | (simp; done) | (simp [*]; done)), (by first | rfl | (simp; done) | (simp [*]; done)), H', ⟨by have := HJ2.out; have := HJ4.out; have := HK3.out; have := HK4.out; omega⟩, ⟨by repeat (first | (with_reducible first | exact HB.out | apply below_alloc | apply pw_below_drewN | apply below_drew1) | exact HB.out)⟩⟩
        ·rw [if_neg c8] at H
         exact absurd H (by simp)
       ·rw [if_neg c7] at H
        have c7b0 : decide (x6_3 < (l1.length : Int)) = false := decide_eq_false c7
        clear c7
        obtain rfl := Option.some.inj H
        go_wp2
        go_ret
        exact ⟨by first | rfl | (simp [errW_none, errW_some] <;> rfl) | (simp [*, errW_none, errW_some] <;> rfl), by repeat (first | (with_reducible first | exact HB.out | apply below_alloc | apply pw_below_drewN | apply below_drew1) | exact HB.out)⟩

-- NOT PRINTED: function 4 (scarflaw18_MarkLabels)

-- NOT PRINTED: function 18 (scarflaw18_few)

end Go.Proofs.YtnnnbeimehfiiaaDoor.Q

/-! The reference's Split, both Lengths, the reference's Labelled: what they answer. -/
set_option linter.unusedVariables false
set_option linter.unusedSimpArgs false
namespace Go.Proofs.YtnnnbeimehfiiaaDoor.Q
open Go Go.RowKit Go.Proofs.YtnnnbeimehfiiaaDoorW.PrintWords Go.Proofs.YtnnnbeimehfiiaaDoorW.PrintLast Go.Proofs.YtnnnbeimehfiiaaDoorW.PrintMore
/-- From some fuel on, it answers v. -/
def Ev {α : Type} (g : Nat → Option α) (v : α) : Prop := ∃ n, ∀ k, n ≤ k → g k = some v
theorem Ev.pure {α : Type} (v : α) : Ev (fun _ => some v) v := ⟨0, fun _ _ => rfl⟩
theorem Ev.of {α : Type} {g : Nat → Option α} {v : α} (h : ∀ k, g k = some v) : Ev g v := ⟨0, fun k _ => h k⟩
theorem leo_up {α : Type} {f : Nat → Option α} (h : ∀ k, LeO (f k) (f (k + 1))) {a : Nat} {r : α} (hr : f a = some r) : ∀ m, f (a + m) = some r
  | 0 => hr
  | m + 1 => h (a + m) r (leo_up h hr m)
theorem Ev.up {α : Type} {f : Nat → Option α} (h : ∀ k, LeO (f k) (f (k + 1))) {a : Nat} {r : α} (hr : f a = some r) : Ev f r := ⟨a, fun k hk => by have := leo_up h hr (k - a); rwa [show a + (k - a) = k by omega] at this⟩
theorem Ev.bind {α β : Type} {g : Nat → Option α} {v : α} {f : Nat → α → Option β} {u : β} (h : Ev g v) (hf : Ev (fun k => f k v) u) : Ev (fun k => (g k).bind (f k)) u := by
  obtain ⟨n, hn⟩ := h
  obtain ⟨m, hm⟩ := hf
  exact ⟨max n m, fun k hk => by show (g k).bind (f k) = _; rw [hn k (by omega)]; exact hm k (by omega)⟩
theorem Ev.step {α : Type} {g : Nat → Option α} {v : α} (h : Ev (fun k => g (k + 1)) v) : Ev g v := by
  obtain ⟨n, hn⟩ := h
  refine ⟨n + 1, fun k hk => ?_⟩
  obtain ⟨j, rfl⟩ : ∃ j, k = j + 1 := ⟨k - 1, by omega⟩
  exact hn j (by omega)
theorem Ev.congr {α : Type} {g g' : Nat → Option α} {v : α} (h : Ev g v) (e : ∀ k, g' k = g k) : Ev g' v := by
  obtain ⟨n, hn⟩ := h
  exact ⟨n, fun k hk => (e k).trans (hn k hk)⟩
theorem Ev.has {α : Type} {g : Nat → Option α} {v : α} (h : Ev g v) : ∃ k, g k = some v := by
  obtain ⟨n, hn⟩ := h
  exact ⟨n, hn n (Nat.le_refl _)⟩
theorem trimB_snoc (r : List UInt8) (c : UInt8) : Lib.trimRightB (r ++ [c]) 32 = if c = 32 then Lib.trimRightB r 32 else r ++ [c] := by
  unfold Lib.trimRightB
  by_cases h : c = 32
  · simp [h]
  · simp [h, List.dropWhile_cons]
theorem trim_ev : ∀ (n : Nat) (u : List UInt8), u.length = n → n ≤ 100000 → Ev (fun k => scarfref18_Labelled.l1 k (u.map bnum)) ⟨(Lib.trimRightB u 32).toArray⟩
  | 0, u, h, _ => by
    obtain rfl := List.length_eq_zero_iff.1 h
    exact Ev.step (Ev.of fun k => by simp [scarfref18_Labelled.l1, strOfNums, Lib.trimRightB])
  | n + 1, u, h, hn => by
    rcases List.eq_nil_or_concat u with rfl | ⟨r, c, hu⟩
    · simp at h
    · obtain rfl : u = r ++ [c] := by simpa using hu
      have hr : r.length = n := by simpa using h
      have ih := trim_ev n r hr (by omega)
      have hw : wrap64 ((((r ++ [c]).map bnum).length : Int) - 1) = (n : Int) := by simp [hr]; unfold wrap64; omega
      have hl : (((r ++ [c]).map bnum).length : Int) = (n : Int) + 1 := by simp [hr]
      have hrd : rd ((r ++ [c]).map bnum) (n : Int) = bnum c := by
        rw [rd_get (by simp; omega)]; simp [hr]
      rw [trimB_snoc]
      by_cases hc : c = 32
      · rw [if_pos hc]
        refine Ev.step (Ev.congr ih fun k => ?_)
        rw [scarfref18_Labelled.l1, hw, hl, hrd, if_pos (by omega), if_pos (by omega), if_pos (by omega), if_pos (by rw [hc]; rfl), if_pos (by omega)]
        congr 1
        simp [← hr]
      · rw [if_neg hc]
        refine Ev.step (Ev.of fun k => ?_)
        have hc2 : ¬ bnum c = 32 := fun h => hc (UInt8.toNat_inj.1 (by unfold bnum at h; have : (32 : UInt8).toNat = 32 := rfl; omega))
        rw [scarfref18_Labelled.l1, hw, hl, hrd, if_pos (by omega), if_pos (by omega), if_pos (by omega), if_neg hc2, strOf_fix]
theorem bt_get {s : ByteArray} {i : Nat} {c : UInt8} (h : s.data.toList[i]? = some c) : bt s (i : Int) = bnum c := by
  have hlt : i < s.size := by have := (List.getElem?_eq_some_iff.1 h).1; simpa using this
  have := bt_at s (i : Int) (by simpa using hlt)
  rw [← this]
  have h2 := (List.getElem?_eq_some_iff.1 h).2
  simp only [bnum, ← h2, Int.toNat_natCast]
  simp [ByteArray.getElem_eq_getElem_data]
theorem lab_loop (s : ByteArray) (hs : s.size ≤ 100000) : ∀ (m i : Nat), min 200 s.size - i = m → i ≤ min 200 s.size → Ev (fun k => scarfref18_Labelled.l0 k s (((s.data.toList.take i).map fixC).map bnum) (i : Int)) (labB s)
  | 0, i, hm, hi => by
    have hts : s.data.toList.length = s.size := by simp
    have e : s.data.toList.take i = s.data.toList.take 200 := by
      by_cases h : s.size ≤ 200
      · rw [List.take_of_length_le (by omega), List.take_of_length_le (by omega)]
      · congr 1; omega
    have h1 := trim_ev _ ((s.data.toList.take 200).map fixC) rfl (by simp; omega)
    rw [e]
    refine Ev.step (Ev.step (Ev.congr h1 fun k => ?_))
    rw [scarfref18_Labelled.l0]
    by_cases h : (i : Int) < (s.size : Int)
    · rw [if_pos h, show decide ((i : Int) < 200) = false by simp; omega, scarfref18_Labelled.j1]; rfl
    · rw [if_neg h, scarfref18_Labelled.j1]; rfl
  | m + 1, i, hm, hi => by
    have hts : s.data.toList.length = s.size := by simp
    have hlt : i < s.data.toList.length := by omega
    obtain ⟨c, hc⟩ : ∃ c, s.data.toList[i]? = some c := ⟨_, List.getElem?_eq_getElem hlt⟩
    have ih := lab_loop s hs m (i + 1) (by omega) (by omega)
    have hx : ((s.data.toList.take (i + 1)).map fixC).map bnum = ((s.data.toList.take i).map fixC).map bnum ++ [bnum (fixC c)] := by
      rw [List.take_add_one, hc]; simp
    have hlen : (((s.data.toList.take i).map fixC).map bnum).length < 140737488355328 := by simp; omega
    rw [hx] at ih
    refine Ev.step (Ev.step (Ev.congr ih fun k => ?_))
    rw [scarfref18_Labelled.l0, if_pos (by omega), show decide ((i : Int) < 200) = true by simp; omega, scarfref18_Labelled.j1, if_pos rfl, if_pos (by omega), if_pos (by omega), bt_get hc, w64n (by omega)]
    by_cases h1 : bnum c < 32
    · rw [if_pos h1, if_pos hlen, fix_lo h1]; rfl
    · by_cases h2 : bnum c > 126
      · rw [if_neg h1, if_pos h2, if_pos hlen, fix_hi h2]; rfl
      · rw [if_neg h1, if_neg h2, if_pos hlen, fix_mid h1 h2]
theorem labelled_ev (s : ByteArray) (hs : s.size ≤ 100000) : Ev (fun k => scarfref18_Labelled.f k s) (labB s) := by
  have := lab_loop s hs _ 0 rfl (Nat.zero_le _)
  exact this
theorem linesOf_nl : ∀ (p r : List Int), (∀ x ∈ p, x ≠ 10) → linesOf (p ++ 10 :: r) = (p ++ [10]) :: linesOf r
  | [], r, _ => by simp [linesOf]
  | x :: p, r, h => by
    have ih := linesOf_nl p r (fun y hy => h y (List.mem_cons_of_mem _ hy))
    show (if x = 10 then [10] :: linesOf (p ++ 10 :: r) else match linesOf (p ++ 10 :: r) with | [] => [[x]] | y :: ys => (x :: y) :: ys) = _
    rw [if_neg (h x List.mem_cons_self), ih]
    rfl
theorem linesOf_one : ∀ (p : List Int), p ≠ [] → (∀ x ∈ p, x ≠ 10) → linesOf p = [p]
  | [], h, _ => absurd rfl h
  | [x], _, h => by simp [linesOf, h x List.mem_cons_self]
  | x :: y :: p, _, h => by
    have ih := linesOf_one (y :: p) (by simp) (fun z hz => h z (List.mem_cons_of_mem _ hz))
    unfold linesOf
    rw [if_neg (h x List.mem_cons_self), ih]
theorem split_loop (l : List Int) (hl : l.length ≤ 5000000000) : ∀ (m i : Nat) (x3 : List (List Int)) (x4 : List Int), l.length - i = m → i ≤ l.length → x3.length ≤ i → x4.length ≤ i → (∀ x ∈ x4, x ≠ 10) → (i = l.length → x4 = []) →
    Ev (fun k => scarfref02_Split.l0 k l x3 x4 (i : Int)) (x3 ++ linesOf (x4 ++ l.drop i))
  | 0, i, x3, x4, hm, hi, _, _, _, h0 => by
    have hil : i = l.length := by omega
    rw [h0 hil, List.drop_of_length_le (by omega)]
    refine Ev.step (Ev.of fun k => ?_)
    rw [scarfref02_Split.l0, if_neg (by omega)]
    simp [linesOf]
  | m + 1, i, x3, x4, hm, hi, h3, h4, hn, h0 => by
    have hlt : i < l.length := by omega
    have hd : l.drop i = l[i] :: l.drop (i + 1) := List.drop_eq_getElem_cons hlt
    have hw : wrap64 ((l.length : Int) - 1) = (l.length : Int) - 1 := by unfold wrap64; omega
    by_cases h10 : l[i] = 10
    · have ih := split_loop l hl m (i + 1) (x3 ++ [x4 ++ [10]]) [] (by omega) (by omega) (by simp; omega) (by simp) (by simp) (fun _ => rfl)
      rw [hd, h10, linesOf_nl x4 _ hn]
      rw [List.append_assoc, List.nil_append] at ih
      refine Ev.step (Ev.congr ih fun k => ?_)
      rw [scarfref02_Split.l0, if_pos (by omega), if_pos (by omega), if_pos (by omega), rd_get hlt, Option.bind_some, if_pos h10, if_pos (by omega), w64n (by omega), h10]
    · by_cases hlast : i + 1 = l.length
      · have ih := split_loop l hl m (i + 1) (x3 ++ [x4 ++ [l[i]]]) [] (by omega) (by omega) (by simp; omega) (by simp) (by simp) (fun _ => rfl)
        have hde : l.drop (i + 1) = [] := List.drop_of_length_le (by omega)
        rw [hd, hde, linesOf_one (x4 ++ [l[i]]) (by simp) (by
          intro x hx
          rcases List.mem_append.1 hx with hx | hx
          · exact hn x hx
          · rw [List.mem_singleton] at hx; rw [hx]; exact h10)]
        rw [hde] at ih
        simp only [List.append_nil, linesOf] at ih
        refine Ev.step (Ev.congr ih fun k => ?_)
        rw [scarfref02_Split.l0, if_pos (by omega), if_pos (by omega), if_pos (by omega), rd_get hlt, Option.bind_some, if_neg h10, if_pos (by rw [hw]; omega), if_pos (by omega), w64n (by omega)]
      · have ih := split_loop l hl m (i + 1) x3 (x4 ++ [l[i]]) (by omega) (by omega) (by omega) (by simp; omega) (by
          intro x hx
          rcases List.mem_append.1 hx with hx | hx
          · exact hn x hx
          · rw [List.mem_singleton] at hx; rw [hx]; exact h10) (fun h => absurd h hlast)
        rw [hd]
        rw [List.append_assoc] at ih
        refine Ev.step (Ev.congr ih fun k => ?_)
        rw [scarfref02_Split.l0, if_pos (by omega), if_pos (by omega), if_pos (by omega), rd_get hlt, Option.bind_some, if_neg h10, if_neg (by rw [hw]; omega), w64n (by omega)]
theorem split_ev (l : List Int) (hl : l.length ≤ 5000000000) : Ev (fun k => scarfref02_Split.f k l) (linesOf l) := by
  have := split_loop l hl _ 0 [] [] rfl (Nat.zero_le _) (Nat.le_refl _) (Nat.le_refl _) (by simp) (fun _ => rfl)
  show Ev (fun k => scarfref02_Split.l0 k l [] [] 0) _
  simpa using this
def stepL (n : Int) (x : List Int) : Int := if (sgn x).1 > 0 then mx n (((sgn x).1 : Nat) + 1 : Int) else n
def lenRow (n : Int) (l : List Int) : Int := (linesOf l).foldl stepL n
def lenAll (n : Int) (m : List (List Int)) : Int := m.foldl lenRow n
theorem stepL_b {n : Int} {x : List Int} (h : 1 ≤ n ∧ n ≤ 5000000001) (hx : x.length ≤ 5000000000) : 1 ≤ stepL n x ∧ stepL n x ≤ 5000000001 := by
  have := sgn_le x
  unfold stepL mx
  split
  · split <;> omega
  · exact h
theorem rdL_get {l : List (List Int)} {i : Nat} (h : i < l.length) : rd_L1 l (i : Int) = l[i] := by simp [rd_L1, List.getD_eq_getElem?_getD, List.getElem?_eq_getElem h]
theorem foldB : ∀ (l : List (List Int)) (n : Int), (1 ≤ n ∧ n ≤ 5000000001) → (∀ x ∈ l, x.length ≤ 5000000000) → 1 ≤ l.foldl stepL n ∧ l.foldl stepL n ≤ 5000000001
  | [], n, h, _ => h
  | x :: r, n, h, hx => foldB r _ (stepL_b h (hx x List.mem_cons_self)) (fun y hy => hx y (List.mem_cons_of_mem _ hy))
def okRow (l : List Int) : Prop := l.length ≤ 5000000000 ∧ ∀ x ∈ l, byte x
theorem okRow_lines {l : List Int} (h : okRow l) : ∀ x ∈ linesOf l, okRow x := fun x hx => ⟨Nat.le_trans (linesOf_mem l x hx) h.1, linesOf_all byte l x h.2 hx⟩
theorem len_in (m : List (List Int)) (i : Nat) (L : List (List Int)) (hL : L.length ≤ 5000000000) (hLr : ∀ x ∈ L, okRow x) (res : Int) (hi : i < m.length) (hm : m.length ≤ 5000000000) : ∀ (q j : Nat) (n : Int), L.length - j = q → j ≤ L.length → 1 ≤ n ∧ n ≤ 5000000001 →
    Ev (fun k => mark_Length.l0 k ((L.drop j).foldl stepL n) m (m.length : Int) ((i + 1 : Nat) : Int)) res → Ev (fun k => mark_Length.l1 k n m (m.length : Int) (i : Int) L (L.length : Int) (j : Int)) res
  | 0, j, n, hq, hj, hn, hk => by
    rw [List.drop_of_length_le (by omega)] at hk
    refine Ev.step (Ev.congr hk fun k => ?_)
    rw [mark_Length.l1, if_neg (by omega), w64n (by omega)]
    rfl
  | q + 1, j, n, hq, hj, hn, hk => by
    have hlt : j < L.length := by omega
    rw [List.drop_eq_getElem_cons hlt, List.foldl_cons] at hk
    have hr := hLr _ (List.getElem_mem hlt)
    have ih := len_in m i L hL hLr res hi hm q (j + 1) (stepL n L[j]) (by omega) (by omega) (stepL_b hn hr.1) hk
    obtain ⟨k0, hs⟩ := signs_ev L[j] hr.1 hr.2
    have hsE := Ev.up (fun k => mark_signs.mono L[j] k) hs
    refine Ev.step (Ev.congr (Ev.bind hsE (f := fun k t => if t.1 > 0 then mark_Length.l1 k (mx n (wrap64 (t.1 + 1))) m (m.length : Int) (i : Int) L (L.length : Int) (wrap64 ((j : Int) + 1)) else mark_Length.l1 k n m (m.length : Int) (i : Int) L (L.length : Int) (wrap64 ((j : Int) + 1))) (Ev.congr ih fun k => ?_)) fun k => ?_)
    · have h1 := sgn_le L[j]
      have h2 := hr.1
      simp only [w64n (show j ≤ 9223372036854775806 by omega)]
      rw [show wrap64 ((((sgn L[j]).1 : Nat) : Int) + 1) = (((sgn L[j]).1 : Nat) : Int) + 1 by unfold wrap64; omega]
      unfold stepL
      by_cases h : 0 < (sgn L[j]).1
      · rw [if_pos (show (((sgn L[j]).1 : Nat) : Int) > 0 by omega), if_pos h]
      · rw [if_neg (show ¬ (((sgn L[j]).1 : Nat) : Int) > 0 by omega), if_neg h]
    · rw [mark_Length.l1, if_pos (by omega), if_pos (by omega), if_pos (by omega), rdL_get hlt]
theorem len_out (m : List (List Int)) (hm : m.length ≤ 5000000000) (hr : ∀ l ∈ m, okRow l) : ∀ (q i : Nat) (n : Int), m.length - i = q → i ≤ m.length → 1 ≤ n ∧ n ≤ 5000000001 →
    Ev (fun k => mark_Length.l0 k n m (m.length : Int) (i : Int)) ((m.drop i).foldl lenRow n)
  | 0, i, n, hq, hi, _ => by
    rw [List.drop_of_length_le (by omega)]
    refine Ev.step (Ev.of fun k => ?_)
    rw [mark_Length.l0, if_neg (by omega)]
    rfl
  | q + 1, i, n, hq, hi, hn => by
    have hlt : i < m.length := by omega
    have ho := hr _ (List.getElem_mem hlt)
    have hln : (linesOf m[i]).length ≤ 5000000000 := Nat.le_trans (linesOf_len _) ho.1
    have ih := len_out m hm hr q (i + 1) (lenRow n m[i]) (by omega) (by omega) (foldB _ n hn (fun x hx => (okRow_lines ho x hx).1))
    rw [List.drop_eq_getElem_cons hlt, List.foldl_cons]
    have h1 := len_in m i (linesOf m[i]) hln (okRow_lines ho) _ hlt hm _ 0 n rfl (Nat.zero_le _) hn ih
    refine Ev.step (Ev.congr h1 fun k => ?_)
    rw [mark_Length.l0, if_pos (by omega), if_pos (by omega), if_pos (by omega), rdL_get hlt]
    have : line_Split.f m[i] = some (linesOf m[i]) := by
      unfold line_Split.f
      rw [if_pos]
      simp only [Bool.and_eq_true, List.all_eq_true, decide_eq_true_eq]
      exact ⟨fun x hx => ho.2 x hx, ho.1⟩
    rw [this]
    rfl
theorem length_ev (least : Int) (m : List (List Int)) (hm : m.length ≤ 5000000000) (hr : ∀ l ∈ m, okRow l) : Ev (fun k => mark_Length.f k least m) (lenAll (if 1 ≤ least ∧ least ≤ 1000 then least else 7) m) := by
  have h : ∀ n : Int, 1 ≤ n ∧ n ≤ 5000000001 → Ev (fun k => mark_Length.j1 k n m) (lenAll n m) := fun n hn => Ev.step (len_out m hm hr _ 0 n rfl (Nat.zero_le _) hn)
  by_cases h1 : least < 1
  · rw [if_neg (by omega)]
    exact Ev.congr (g := fun k => mark_Length.j0 k least m true) (Ev.step (Ev.congr (h 7 (by omega)) (fun k => rfl))) (fun k => by unfold mark_Length.f; rw [if_pos h1])
  · by_cases h2 : least > 1000
    · rw [if_neg (by omega)]
      exact Ev.congr (g := fun k => mark_Length.j0 k least m true) (Ev.step (Ev.congr (h 7 (by omega)) (fun k => rfl))) (fun k => by unfold mark_Length.f; rw [if_neg h1, show decide (least > 1000) = true by simpa using h2])
    · rw [if_pos (by omega)]
      exact Ev.congr (g := fun k => mark_Length.j0 k least m false) (Ev.step (Ev.congr (h least (by omega)) (fun k => rfl))) (fun k => by unfold mark_Length.f; rw [if_neg h1, show decide (least > 1000) = false by simpa using h2])
theorem rlen_in (m : List (List Int)) (i : Nat) (L : List (List Int)) (hL : L.length ≤ 5000000000) (hLr : ∀ x ∈ L, okRow x) (res : Int) (hi : i < m.length) (hm : m.length ≤ 5000000000) : ∀ (q j : Nat) (n : Int), L.length - j = q → j ≤ L.length → 1 ≤ n ∧ n ≤ 5000000001 →
    Ev (fun k => scarfref18_Length.l0 k m ((L.drop j).foldl stepL n) ((i + 1 : Nat) : Int)) res → Ev (fun k => scarfref18_Length.l1 k m n (i : Int) L (j : Int)) res
  | 0, j, n, hq, hj, hn, hk => by
    rw [List.drop_of_length_le (by omega)] at hk
    refine Ev.step (Ev.congr hk fun k => ?_)
    rw [scarfref18_Length.l1, if_neg (by omega), w64n (by omega)]
    rfl
  | q + 1, j, n, hq, hj, hn, hk => by
    have hlt : j < L.length := by omega
    rw [List.drop_eq_getElem_cons hlt, List.foldl_cons] at hk
    have hr := hLr _ (List.getElem_mem hlt)
    have ih := rlen_in m i L hL hLr res hi hm q (j + 1) (stepL n L[j]) (by omega) (by omega) (stepL_b hn hr.1) hk
    obtain ⟨k0, hs⟩ := runs_ev L[j] hr.1
    have hsE := Ev.up (fun k => scarfref18_runs.mono L[j] k) hs
    refine Ev.step (Ev.congr (Ev.bind hsE (f := fun k t => if t > 0 then (if t ≥ n then scarfref18_Length.l1 k m (wrap64 (t + 1)) (i : Int) L (wrap64 ((j : Int) + 1)) else scarfref18_Length.l1 k m n (i : Int) L (wrap64 ((j : Int) + 1))) else scarfref18_Length.l1 k m n (i : Int) L (wrap64 ((j : Int) + 1))) (Ev.congr ih fun k => ?_)) fun k => ?_)
    · have h1 := sgn_le L[j]
      have h2 := hr.1
      simp only [w64n (show j ≤ 9223372036854775806 by omega)]
      rw [show wrap64 ((((sgn L[j]).1 : Nat) : Int) + 1) = (((sgn L[j]).1 : Nat) : Int) + 1 by unfold wrap64; omega]
      unfold stepL mx
      by_cases h : 0 < (sgn L[j]).1
      · rw [if_pos (show (((sgn L[j]).1 : Nat) : Int) > 0 by omega), if_pos h]
        by_cases h3 : (((sgn L[j]).1 : Nat) : Int) ≥ n
        · rw [if_pos h3, if_pos (by omega)]
        · rw [if_neg h3, if_neg (by omega)]
      · rw [if_neg (show ¬ (((sgn L[j]).1 : Nat) : Int) > 0 by omega), if_neg h]
    · rw [scarfref18_Length.l1, if_pos (by omega), if_pos (by omega), rdL_get hlt]
theorem rlen_out (m : List (List Int)) (hm : m.length ≤ 5000000000) (hr : ∀ l ∈ m, okRow l) : ∀ (q i : Nat) (n : Int), m.length - i = q → i ≤ m.length → 1 ≤ n ∧ n ≤ 5000000001 →
    Ev (fun k => scarfref18_Length.l0 k m n (i : Int)) ((m.drop i).foldl lenRow n)
  | 0, i, n, hq, hi, _ => by
    rw [List.drop_of_length_le (by omega)]
    refine Ev.step (Ev.of fun k => ?_)
    rw [scarfref18_Length.l0, if_neg (by omega)]
    rfl
  | q + 1, i, n, hq, hi, hn => by
    have hlt : i < m.length := by omega
    have ho := hr _ (List.getElem_mem hlt)
    have hln : (linesOf m[i]).length ≤ 5000000000 := Nat.le_trans (linesOf_len _) ho.1
    have ih := rlen_out m hm hr q (i + 1) (lenRow n m[i]) (by omega) (by omega) (foldB _ n hn (fun x hx => (okRow_lines ho x hx).1))
    rw [List.drop_eq_getElem_cons hlt, List.foldl_cons]
    have h1 := rlen_in m i (linesOf m[i]) hln (okRow_lines ho) _ hlt hm _ 0 n rfl (Nat.zero_le _) hn ih
    refine Ev.step (Ev.congr (Ev.bind (split_ev m[i] ho.1) (f := fun k t => scarfref18_Length.l1 k m n (i : Int) t 0) h1) fun k => ?_)
    rw [scarfref18_Length.l0, if_pos (by omega), if_pos (by omega), rdL_get hlt]
theorem rlength_ev (least : Int) (m : List (List Int)) (hm : m.length ≤ 5000000000) (hr : ∀ l ∈ m, okRow l) : Ev (fun k => scarfref18_Length.f k least m) (lenAll (if 1 ≤ least ∧ least ≤ 1000 then least else 7) m) := by
  have h : ∀ n : Int, 1 ≤ n ∧ n ≤ 5000000001 → Ev (fun k => scarfref18_Length.j1 k m n) (lenAll n m) := fun n hn => Ev.step (rlen_out m hm hr _ 0 n rfl (Nat.zero_le _) hn)
  by_cases h1 : least ≥ 1
  · by_cases h2 : least ≤ 1000
    · rw [if_pos (by omega)]
      exact Ev.congr (g := fun k => scarfref18_Length.j0 k least m 7 true) (Ev.step (Ev.congr (h least (by omega)) (fun k => rfl))) (fun k => by unfold scarfref18_Length.f; rw [if_pos h1, show decide (least ≤ 1000) = true by simpa using h2])
    · rw [if_neg (by omega)]
      exact Ev.congr (g := fun k => scarfref18_Length.j0 k least m 7 false) (Ev.step (Ev.congr (h 7 (by omega)) (fun k => rfl))) (fun k => by unfold scarfref18_Length.f; rw [if_pos h1, show decide (least ≤ 1000) = false by simpa using h2])
  · rw [if_neg (by omega)]
    exact Ev.congr (g := fun k => scarfref18_Length.j0 k least m 7 false) (Ev.step (Ev.congr (h 7 (by omega)) (fun k => rfl))) (fun k => by unfold scarfref18_Length.f; rw [if_neg h1])
end Go.Proofs.YtnnnbeimehfiiaaDoor.Q

-- Written by a program of this session (wip/gen_mko.py) for this claim; Lean checks it.
/-! scarfref18.any; bytes.TrimSuffix at a newline; mark.markerOf: walked. -/
set_option linter.unusedVariables false
set_option linter.unusedSimpArgs false
namespace Go.Proofs.YtnnnbeimehfiiaaDoor.Q
open Go Go.RowKit Go.Proofs.YtnnnbeimehfiiaaDoorW.PrintWords Go.Proofs.YtnnnbeimehfiiaaDoorW.PrintLast Go.Proofs.YtnnnbeimehfiiaaDoorW.PrintMore
attribute [local go_sem] max2_int min2_int max_two min_two max_three min_three max_four min_four
set_option maxHeartbeats 8000000 in
set_option maxRecDepth 100000 in
theorem any_calls (n : Nat) (hn : 1 ≤ n) (A : Option Addr) (c : Nat) (l : List Int) (w : World) (hr : Kd.C B8 w A l.length l) (hc : l.length ≤ c) (hb : ∀ x ∈ l, byte x) (hlen : l.length ≤ 5000000000) :
    Calls Tryd.prog 28 #[.int .i64 (n : Int), .slice A l.length c] w fun e w' => e = .returned (.bool (anyOf n l)) ∧ Below w.heap.size w w' := by
  have HR := Aside0.mk hr; have HC := Aside0.mk hc; have HB := Aside0.mk hb; have HL := Aside0.mk hlen
  clear hr hc hb hlen
  have hB : Below w.heap.size w w := Below.refl _ _
  unfold anyOf
  go_enter Tryd.func28, Tryd.ntmps28
  cases e0 : isOf n l 60 with
  | true =>
    go_wp2_with (go_at_call 29; refine (is_calls n hn A c l _ _ (Kd.C_below HR.out hB) HC.out HB.out HL.out).mono ?_; rintro e w1 ⟨rfl, hb1⟩; replace hB := hB.trans (below_lo hb1 hB.size))
    go_ret
    exact ⟨by simp, hB⟩
  | false =>
    cases e1 : isOf n l 124 with
    | true =>
      go_wp2_with (go_at_call 29; refine (is_calls n hn A c l _ _ (Kd.C_below HR.out hB) HC.out HB.out HL.out).mono ?_; rintro e w1 ⟨rfl, hb1⟩; replace hB := hB.trans (below_lo hb1 hB.size))
      go_ret
      exact ⟨by simp, hB⟩
    | false =>
      cases e2 : isOf n l 61 with
      | true =>
        go_wp2_with (go_at_call 29; refine (is_calls n hn A c l _ _ (Kd.C_below HR.out hB) HC.out HB.out HL.out).mono ?_; rintro e w1 ⟨rfl, hb1⟩; replace hB := hB.trans (below_lo hb1 hB.size))
        go_ret
        exact ⟨by simp, hB⟩
      | false =>
        cases e3 : isOf n l 62 with
        | true =>
          go_wp2_with (go_at_call 29; refine (is_calls n hn A c l _ _ (Kd.C_below HR.out hB) HC.out HB.out HL.out).mono ?_; rintro e w1 ⟨rfl, hb1⟩; replace hB := hB.trans (below_lo hb1 hB.size))
          go_ret
          exact ⟨by simp, hB⟩
        | false =>
          go_wp2_with (go_at_call 29; refine (is_calls n hn A c l _ _ (Kd.C_below HR.out hB) HC.out HB.out HL.out).mono ?_; rintro e w1 ⟨rfl, hb1⟩; replace hB := hB.trans (below_lo hb1 hB.size))
          go_ret
          exact ⟨by simp, hB⟩
end Go.Proofs.YtnnnbeimehfiiaaDoor.Q

/-! The document's Read: what the walk needs. -/
set_option linter.unusedVariables false
set_option linter.unusedSimpArgs false
namespace Go.Proofs.YtnnnbeimehfiiaaDoor.Q
open Go Go.RowKit Go.Proofs.YtnnnbeimehfiiaaDoorW.PrintWords Go.Proofs.YtnnnbeimehfiiaaDoorW.SL
def sgk : Nat → Int
  | 0 => 60
  | 1 => 124
  | 2 => 61
  | _ => 62
def stk (ps : List Pt) (p : Pt) (k : Nat) : List Pt × Nat := if k = 0 then (ps, 0) else if k = 4 then (ps ++ [p], 0) else (ps ++ [p], k)
theorem stk_sign {N : Nat} {ps : List Pt} {p : Pt} {k : Nat} {x : List Int} (hk : k < 4) (hx : mkOf N x = sgk k) (hp : k = 0 → p = nwPt true) : rdStep N (stk ps p k) x = some (stk ps p (k + 1)) := by
  rcases k with _ | _ | _ | _ | k
  · rw [hp rfl]; simp [stk, rdStep, hx, sgk]
  · simp [stk, rdStep, hx, sgk]
  · simp [stk, rdStep, hx, sgk]
  · simp [stk, rdStep, hx, sgk]
  · omega
theorem stk_line {N : Nat} {ps : List Pt} {p : Pt} {k : Nat} {x : List Int} (hk : 1 ≤ k) (hk3 : k < 4) (hx : mkOf N x = 0) : rdStep N (stk ps p k) x = some (stk ps (addF p x k) k) := by
  rcases k with _ | _ | _ | _ | k
  · omega
  · simp [stk, rdStep, hx, onLast_snoc, addF, addSide]
  · simp [stk, rdStep, hx, onLast_snoc, addF, addSide]
  · simp [stk, rdStep, hx, onLast_snoc, addF, addSide]
  · omega
theorem stk_bad {N : Nat} (hN : 1 ≤ N) {ps : List Pt} {p : Pt} {k : Nat} {x : List Int} (hk : k < 4) (hx : mkOf N x ≠ 0) (hx2 : mkOf N x ≠ sgk k) : rdStep N (stk ps p k) x = none := by
  have hc := mkOf_cases hN x
  rcases k with _ | _ | _ | _ | k
  · rcases hc with h | h | h | h | h <;> simp_all [stk, rdStep, sgk]
  · rcases hc with h | h | h | h | h <;> simp_all [stk, rdStep, sgk]
  · rcases hc with h | h | h | h | h <;> simp_all [stk, rdStep, sgk]
  · rcases hc with h | h | h | h | h <;> simp_all [stk, rdStep, sgk]
  · omega
theorem plain_first {N : Nat} {ps : List Pt} {x : List Int} (hx : mkOf N x = 0) (hr : ps = [] ∨ ∃ fr p, ps = fr ++ [p] ∧ p.region = true) : rdStep N (ps, 0) x = some (ps ++ [⟨false, [] ++ x, [], [], []⟩], 0) := by
  rcases hr with rfl | ⟨fr, p, rfl, hp⟩
  · simp [rdStep, hx]
  · simp [rdStep, hx, hp]
theorem plain_more {N : Nat} {ps : List Pt} {T x : List Int} (hx : mkOf N x = 0) : rdStep N (ps ++ [⟨false, T, [], [], []⟩], 0) x = some (ps ++ [⟨false, T ++ x, [], [], []⟩], 0) := by
  simp [rdStep, hx, onLast_snoc, addText]
/-- A part whose rows are kept. -/
def kp1 (p : Pt) (cs : List Value) : FA := ⟨fun w Z => Kd.FK kP w Z p cs, fun h hs hZ => Kd.FK_mono (Kd.FK_step h (fun k hk hl => hs k hk hl)) hZ⟩
theorem AsI.less {w0 w : World} {F0 : List FA} {a : FA} {ps : List Pt} {vo : Value} (h : AsI w0 (a :: F0) ps vo w) : AsI w0 F0 ps vo w := by
  obtain ⟨Z, cells, S⟩ := h
  refine ⟨Z, cells, S.st, fun b hb => S.fr b ?_, S.old⟩
  rcases List.mem_cons.1 hb with rfl | hb
  · exact List.mem_cons_self
  · exact List.mem_cons_of_mem _ (List.mem_cons_of_mem _ hb)
/-- The text that is being gathered beside the parts. -/
def TxI (w0 : World) (F0 : List FA) (ps : List Pt) (vo : Value) (T : List Int) (vT : Value) (W : World) : Prop :=
  ∃ (Z : Nat → Prop) (cells : List Value), Stt w0 Z [row vT 5 1 T.length (us8 T), row vo 44 5 ps.length cells] (kpF ps cells :: F0) W
theorem TxI.start {w0 w : World} {F0 : List FA} {ps : List Pt} {vo : Value} (h : AsI w0 F0 ps vo w) : TxI w0 F0 ps vo [] (.slice none 0 0) w := by
  obtain ⟨Z, cells, S⟩ := h
  exact ⟨Z, cells, S.with (S.st.row_nil 5 1)⟩
theorem TxI.keep {w0 w w' : World} {F0 : List FA} {ps : List Pt} {vo vT : Value} {T : List Int} (h : TxI w0 F0 ps vo T vT w) (hb : Below w.heap.size w w') : TxI w0 F0 ps vo T vT w' := by
  obtain ⟨Z, cells, S⟩ := h
  exact ⟨Z, cells, S.keep hb⟩
theorem TxI.own {w0 w : World} {F0 : List FA} {ps : List Pt} {vo vT : Value} {T : List Int} (h : TxI w0 F0 ps vo T vT w) : w.ownsRow 0 5 1 vT T.length (us8 T) := by
  obtain ⟨Z, cells, S⟩ := h
  exact S.rowAt 0 rfl
theorem TxI.fr {w0 w : World} {F0 : List FA} {ps : List Pt} {vo vT : Value} {T : List Int} (h : TxI w0 F0 ps vo T vT w) : ∃ Z : Nat → Prop, ∀ a ∈ F0, a.P w Z := by
  obtain ⟨Z, cells, S⟩ := h
  exact ⟨Z, fun a ha => S.fr a (List.mem_cons_of_mem _ ha)⟩
theorem TxI.app {w0 w w1 : World} {F0 : List FA} {ps : List Pt} {vo vT v1 : Value} {T : List Int} (h : TxI w0 F0 ps vo T vT w) (x : List Int) (ho : w1.ownsRow 0 5 1 v1 (T.length + x.length) (us8 T ++ us8 x)) (hg : w.grownBy w1 vT.ownBlock) (hat : v1.ownBlock = vT.ownBlock ∨ v1.ownBlock = some w.heap.size) : TxI w0 F0 ps vo (T ++ x) v1 w1 := by
  obtain ⟨Z, cells, S⟩ := h
  have S2 := S.updRow 0 rfl ho hg (hat.imp id (fun h => ⟨_, h, Nat.le_refl _⟩))
  refine ⟨Z, cells, ?_⟩
  rw [show (T ++ x).length = T.length + x.length from List.length_append, show us8 (T ++ x) = us8 T ++ us8 x from List.map_append]
  exact S2
theorem TxI.done {w0 w : World} {F0 : List FA} {ps : List Pt} {vo vT : Value} {T : List Int} (h : TxI w0 F0 ps vo T vT w) : AsI w0 (kp1 ⟨false, T, [], [], []⟩ [.bool false, vT, .slice none 0 0, .slice none 0 0, .slice none 0 0] :: F0) ps vo w := by
  obtain ⟨Z, cells, S⟩ := h
  have S2 := Stt.freezeHead S
  refine ⟨_, cells, S2.st, fun a ha => ?_, S2.old⟩
  rcases List.mem_cons.1 ha with rfl | ha
  · exact S2.fr _ (by simp)
  · rcases List.mem_cons.1 ha with rfl | ha
    · obtain ⟨A1, c1, rfl, l1, f1⟩ := ownF_F (S2.fr (ownF vT 5 1 T.length (us8 T)) (by simp))
      have hn : ∀ Z' : Nat → Prop, ([] : List Int).length ≤ 0 ∧ Kd.F B8 w Z' none ([] : List Int).length [] := fun Z' => ⟨Nat.le_refl _, fun W' _ => Kd.C_nil B8 W'⟩
      exact kP_mkF w _ ⟨false, T, [], [], []⟩ ⟨l1, f1⟩ (hn _) (hn _) (hn _)
    · exact S2.fr a (by simp [ha])
/-- The box of the part in hand beside the parts. -/
def BxI (w0 : World) (F0 : List FA) (ps : List Pt) (vo : Value) (g : Nat) (p : Pt) (W : World) : Prop :=
  ∃ (Z : Nat → Prop) (cells : List Value) (vT v0 v1 v2 : Value),
    Stt w0 Z [row vT 5 1 p.text.length (us8 p.text), row v0 5 1 p.s0.length (us8 p.s0), row v1 5 1 p.s1.length (us8 p.s1), row v2 5 1 p.s2.length (us8 p.s2), blk g 44 #[.bool p.region, vT, v0, v1, v2], row vo 44 5 ps.length cells] (kpF ps cells :: F0) W
theorem BxI.keep {w0 w w' : World} {F0 : List FA} {ps : List Pt} {vo : Value} {g : Nat} {p : Pt} (h : BxI w0 F0 ps vo g p w) (hb : Below w.heap.size w w') : BxI w0 F0 ps vo g p w' := by
  obtain ⟨Z, cells, vT, v0, v1, v2, S⟩ := h
  exact ⟨Z, cells, vT, v0, v1, v2, S.keep hb⟩
theorem BxI.fr {w0 w : World} {F0 : List FA} {ps : List Pt} {vo : Value} {g : Nat} {p : Pt} (h : BxI w0 F0 ps vo g p w) : ∃ Z : Nat → Prop, ∀ a ∈ F0, a.P w Z := by
  obtain ⟨Z, cells, vT, v0, v1, v2, S⟩ := h
  exact ⟨Z, fun a ha => S.fr a (List.mem_cons_of_mem _ ha)⟩
theorem BxI.below {w0 w : World} {F0 : List FA} {ps : List Pt} {vo : Value} {g : Nat} {p : Pt} (h : BxI w0 F0 ps vo g p w) : Below w0.heap.size w0 w := by
  obtain ⟨Z, cells, vT, v0, v1, v2, S⟩ := h
  exact S.below
/-- Both boxes are made: the part's, and the signs', which is kept. -/
theorem BxI.start {w0 w : World} {F0 : List FA} {ps : List Pt} {vo : Value} (h : AsI w0 F0 ps vo w) (o : Obj) (cs : Array Value) (t : Nat) (ho : o = .cells cs t (0, 0)) :
    BxI w0 (bkF (w.heap.size + 1) t cs :: F0) ps vo w.heap.size (nwPt true) ((w.alloc (.cells #[.bool true, .slice none 0 0, .slice none 0 0, .slice none 0 0, .slice none 0 0] 44)).alloc o) := by
  subst ho
  obtain ⟨Z, cells, S⟩ := h
  have S1 := S.box (g := w.heap.size) (t := 44) (cs := #[.bool true, .slice none 0 0, .slice none 0 0, .slice none 0 0, .slice none 0 0]) rfl (heap_alloc_new w _) (below_alloc (Below.refl _ _) _)
  have e1 : (w.alloc (.cells #[.bool true, .slice none 0 0, .slice none 0 0, .slice none 0 0, .slice none 0 0] 44)).heap.size = w.heap.size + 1 := by simp
  generalize w.alloc (.cells #[.bool true, .slice none 0 0, .slice none 0 0, .slice none 0 0, .slice none 0 0] 44) = w1 at S1 e1 ⊢
  have hn := heap_alloc_new w1 (.cells cs t (0, 0))
  rw [e1] at hn
  have hlt := (Array.getElem?_eq_some_iff.1 hn).1
  have S2 := S1.call (w' := w1.alloc (.cells cs t (0, 0))) (below_alloc (Below.refl _ _) _) (F' := [bkF (w.heap.size + 1) t cs]) (by
    intro a ha; rw [List.mem_singleton] at ha; subst ha
    exact ⟨⟨by omega, hlt⟩, hn⟩)
  have S3 := S2.with ((((S2.st.row_nil 5 1).row_nil 5 1).row_nil 5 1).row_nil 5 1)
  refine ⟨_, cells, _, _, _, _, S3.st, fun a ha => S3.fr a ?_, S3.old⟩
  simp only [List.mem_cons, List.cons_append, List.nil_append] at ha ⊢
  rcases ha with h | h | h
  · exact .inr (.inl h)
  · exact .inl h
  · exact .inr (.inr h)
theorem BxI.app {w0 w : World} {F0 : List FA} {ps : List Pt} {vo : Value} {g : Nat} {p : Pt} (h : BxI w0 F0 ps vo g p w) (f : Nat) (hf : f < 4) (x : List Int) :
    ∃ v, w.cell? ⟨g, f + 1, none⟩ = some v ∧ w.ownsRow 0 5 1 v (fld p f).length (us8 (fld p f)) ∧
      ∀ (w1 : World) (v1 : Value), w1.ownsRow 0 5 1 v1 ((fld p f).length + x.length) (us8 (fld p f) ++ us8 x) → w.grownBy w1 v.ownBlock → (v1.ownBlock = v.ownBlock ∨ v1.ownBlock = some w.heap.size) →
        w1.cell? ⟨g, f + 1, none⟩ = some v ∧ w1.frozen? ⟨g, f + 1, none⟩ = false ∧ BxI w0 F0 ps vo g (addF p x f) (w1.setCell ⟨g, f + 1, none⟩ v1) := by
  obtain ⟨Z, cells, vT, v0, v1, v2, S⟩ := h
  have hb := S.at_blk 4 rfl
  rcases f with _ | _ | _ | _ | f
  · refine ⟨vT, (blk_cell hb 1).trans rfl, S.rowAt 0 rfl, fun w1 u ho hg hat => ?_⟩
    have S2 := S.updRow 0 rfl ho hg (hat.imp id (fun h => ⟨_, h, Nat.le_refl _⟩))
    have hb2 := S2.at_blk 4 rfl
    refine ⟨(blk_cell hb2 1).trans rfl, blk_frozen hb2 1, Z, cells, u, v0, v1, v2, ?_⟩
    have S3 := S2.of (S2.st.set (i := 4) rfl 1 u)
    simp only [addF, List.length_append, us8, List.map_append] at S3 ⊢
    exact S3
  · refine ⟨v0, (blk_cell hb 2).trans rfl, S.rowAt 1 rfl, fun w1 u ho hg hat => ?_⟩
    have S2 := S.updRow 1 rfl ho hg (hat.imp id (fun h => ⟨_, h, Nat.le_refl _⟩))
    have hb2 := S2.at_blk 4 rfl
    refine ⟨(blk_cell hb2 2).trans rfl, blk_frozen hb2 2, Z, cells, vT, u, v1, v2, ?_⟩
    have S3 := S2.of (S2.st.set (i := 4) rfl 2 u)
    simp only [addF, List.length_append, us8, List.map_append] at S3 ⊢
    exact S3
  · refine ⟨v1, (blk_cell hb 3).trans rfl, S.rowAt 2 rfl, fun w1 u ho hg hat => ?_⟩
    have S2 := S.updRow 2 rfl ho hg (hat.imp id (fun h => ⟨_, h, Nat.le_refl _⟩))
    have hb2 := S2.at_blk 4 rfl
    refine ⟨(blk_cell hb2 3).trans rfl, blk_frozen hb2 3, Z, cells, vT, v0, u, v2, ?_⟩
    have S3 := S2.of (S2.st.set (i := 4) rfl 3 u)
    simp only [addF, List.length_append, us8, List.map_append] at S3 ⊢
    exact S3
  · refine ⟨v2, (blk_cell hb 4).trans rfl, S.rowAt 3 rfl, fun w1 u ho hg hat => ?_⟩
    have S2 := S.updRow 3 rfl ho hg (hat.imp id (fun h => ⟨_, h, Nat.le_refl _⟩))
    have hb2 := S2.at_blk 4 rfl
    refine ⟨(blk_cell hb2 4).trans rfl, blk_frozen hb2 4, Z, cells, vT, v0, v1, u, ?_⟩
    have S3 := S2.of (S2.st.set (i := 4) rfl 4 u)
    simp only [addF, List.length_append, us8, List.map_append] at S3 ⊢
    exact S3
  · omega
/-- The part is whole: its cells, its rows kept from now on. -/
theorem BxI.done {w0 w : World} {F0 : List FA} {a0 : FA} {ps : List Pt} {vo : Value} {g : Nat} {p : Pt} (h : BxI w0 (a0 :: F0) ps vo g p w) :
    ∃ A1 c1 A2 c2 A3 c3 A4 c4, w.cell? ⟨g, 0, none⟩ = some (.bool p.region) ∧ w.cell? ⟨g, 1, none⟩ = some (.slice A1 p.text.length c1) ∧ w.cell? ⟨g, 2, none⟩ = some (.slice A2 p.s0.length c2) ∧ w.cell? ⟨g, 3, none⟩ = some (.slice A3 p.s1.length c3) ∧ w.cell? ⟨g, 4, none⟩ = some (.slice A4 p.s2.length c4) ∧
      AsI w0 (kp1 p [.bool p.region, .slice A1 p.text.length c1, .slice A2 p.s0.length c2, .slice A3 p.s1.length c3, .slice A4 p.s2.length c4] :: F0) ps vo w := by
  obtain ⟨Z, cells, vT, v0, v1, v2, S⟩ := h
  have hb := S.at_blk 4 rfl
  have S4 := (Stt.freezeHead (Stt.freezeHead (Stt.freezeHead (Stt.freezeHead S)))).drop
  obtain ⟨A4, c4, rfl, l4, f4⟩ := ownF_F (S4.fr (ownF v2 5 1 p.s2.length (us8 p.s2)) (by simp))
  obtain ⟨A3, c3, rfl, l3, f3⟩ := ownF_F (S4.fr (ownF v1 5 1 p.s1.length (us8 p.s1)) (by simp))
  obtain ⟨A2, c2, rfl, l2, f2⟩ := ownF_F (S4.fr (ownF v0 5 1 p.s0.length (us8 p.s0)) (by simp))
  obtain ⟨A1, c1, rfl, l1, f1⟩ := ownF_F (S4.fr (ownF vT 5 1 p.text.length (us8 p.text)) (by simp))
  refine ⟨A1, c1, A2, c2, A3, c3, A4, c4, (blk_cell hb 0).trans rfl, (blk_cell hb 1).trans rfl, (blk_cell hb 2).trans rfl, (blk_cell hb 3).trans rfl, (blk_cell hb 4).trans rfl, _, cells, S4.st, fun a ha => ?_, S4.old⟩
  rcases List.mem_cons.1 ha with rfl | ha
  · exact S4.fr _ (by simp)
  · rcases List.mem_cons.1 ha with rfl | ha
    · exact kP_mkF w _ p ⟨l1, f1⟩ ⟨l2, f2⟩ ⟨l3, f3⟩ ⟨l4, f4⟩
    · exact S4.fr a (by simp [ha])
theorem line_at {W : World} {Z : Nat → Prop} {AL : Option Addr} {cL : Nat} {L : List (List Int)} {i : Nat} {x : List Int} (h : (rdV kB AL cL L).P W Z) (hi : L[i]? = some x) (hx : x ≠ []) :
    ∃ al ax cX, AL = some al ∧ W.cell? (al.add i) = some (.slice (some ax) x.length cX) ∧ x.length ≤ cX ∧ Kd.C B8 W (some ax) x.length x ∧ (rdV B8 (some ax) cX x).P W Z := by
  have hlt := (List.getElem?_eq_some_iff.1 hi).1
  obtain ⟨al, cs, eA, hcl, hFK, hcc, _⟩ := Kd.F_get h.2 [] (i : Int) (by omega) (by omega)
  subst eA
  have hx2 : L.getD (i : Int).toNat [] = x := by simp [List.getD_eq_getElem?_getD, hi]
  rw [hx2] at hFK
  obtain ⟨A, c, rfl, hP⟩ := kB_openF hFK
  have h0 : W.cell? (al.add ((i : Int).toNat * 1)) = some (.slice A x.length c) := hcc 0 _ rfl
  have e : (i : Int).toNat * 1 = i := by simp
  rw [e] at h0
  have hC := Kd.F_now hP.2
  obtain ⟨ax, rfl, _⟩ := hC.2.2 (by cases x with | nil => exact absurd rfl hx | cons _ _ => simp)
  exact ⟨al, ax, c, rfl, h0, hP.1, hC, hP⟩
/-- The append of one part's literal to the document's parts. -/
theorem app_elem {P : Program} {ops : Array Oper} {o : Oper} {rest : List Oper} {a : Act} {Q : Exit → Act → World → Prop} {W : World} (hgd : o.guard = none) (s x : Operand) (bytes : Nat)
    (ho : o.op = .call { callee := .builtin .append, args := #[s, x], argTypes := #[27, 27] })
    (ht : P.underlying 27 = some (.slice 44)) (hinfo : (P.info? 44).map (fun i => (i.zero, i.size, i.bytes)) = some (some (.agg (rawPt false).toArray), 5, bytes)) (hb0 : bytes ≤ 1000)
    {w0 : World} {F0 : List FA} {ps : List Pt} {vo : Value} (hI : AsI w0 F0 ps vo W) (hl : ps.length ≤ 5000000) (m : Nat) (hm : ps.length = m) (p : Pt) (cs : List Value) (hl5 : cs.length = 5) (h1 : ∀ u ∈ cs, u.oneCell' = true) (hp : ∀ Z : Nat → Prop, (∀ a ∈ F0, a.P W Z) → Kd.FK kP W Z p cs)
    (hs : a.eval s = vo) (hx : a.eval x = .slice (some ⟨W.heap.size, 0, none⟩) 1 1)
    (h : ∀ A c w1, AsI w0 F0 (ps ++ [p]) (.slice A (m + 1) c) w1 → wpList P ops Q rest (a.put o.dst (.slice A (m + 1) c)) w1) : wpList P ops Q (o :: rest) a (W.alloc (.cells cs.toArray 44)) := by
  subst hm
  obtain ⟨i0, hi, hzz⟩ := Option.map_eq_some_iff.1 hinfo
  simp only [Prod.mk.injEq] at hzz
  obtain ⟨hz0, hz1, hz2⟩ := hzz
  obtain ⟨cells, hown2, hown3, hstep⟩ := hI.push p cs hl5 hp
  refine wpList_append_own_at _ hgd s x 27 ho 0 44 i0 (.agg (rawPt false).toArray) 5 bytes ht hi hz0 hz1 hz2 (by rfl) (by decide) vo ps.length cells hs hown2 ⟨W.heap.size, 0, none⟩ 1 1 cs hx (by omega) (fun j u hj => ?_) h1 (by simp only [maxLen]; omega)
    (Nat.le_trans (Nat.mul_le_mul (show ps.length + 1 ≤ 5000001 by omega) hb0) (by decide)) (Nat.zero_le _) (fun v' w' h1 h2 _ h4 => ?_)
  · rw [base_add]
    refine (blk_cell (heap_alloc_new W _) j).trans ?_
    simpa using hj
  · have hI2 := hstep w' v' h1 h2 (h4.imp id (fun h => ⟨_, h, Nat.le_refl _⟩))
    obtain ⟨A, c, rfl, _⟩ := own_form h1
    exact h A c w' hI2
def Szp (p : Pt) (j : Nat) : Prop := p.text.length ≤ 5000000 * j ∧ p.s0.length ≤ 5000000 * j ∧ p.s1.length ≤ 5000000 * j ∧ p.s2.length ≤ 5000000 * j
theorem szp_nw (j : Nat) : Szp (nwPt true) j := by simp [Szp]
theorem szp_add {p : Pt} {j : Nat} (h : Szp p j) (x : List Int) (hx : x.length ≤ 5000000) (f : Nat) : Szp (addF p x f) (j + 1) := by
  have := h
  unfold Szp at *
  rcases f with _ | _ | _ | f <;> simp only [addF, List.length_append] <;> omega
theorem szp_mono {p : Pt} {j j2 : Nat} (h : Szp p j) (hj : j ≤ j2) : Szp p j2 := by unfold Szp at *; omega
theorem sz_end {ps : List Pt} {p : Pt} {i j : Nat} (h : Sz ps i) (hp : Szp p j) (hij : i < j) : Sz (ps ++ [p]) j := ⟨by have := h.1; simp; omega, fun q hq => by
  rcases List.mem_append.1 hq with hq | hq
  · have := h.2 q hq; omega
  · rw [List.mem_singleton] at hq; subst hq; exact hp⟩
theorem sgk_cell {W : World} {gs k : Nat} {Z : Nat → Prop} (h : (bkF gs 61 #[.int .u8 60, .int .u8 124, .int .u8 61, .int .u8 62]).P W Z) (hk : k < 4) : W.cell? ⟨gs, k, none⟩ = some (.int .u8 (sgk k)) := by
  refine (blk_cell h.2 k).trans ?_
  rcases k with _ | _ | _ | _ | k
  · rfl
  · rfl
  · rfl
  · rfl
  · omega
theorem addF_region (p : Pt) (x : List Int) (f : Nat) : (addF p x f).region = p.region := by rcases f with _ | _ | _ | f <;> rfl
end Go.Proofs.YtnnnbeimehfiiaaDoor.Q

-- Written by a program of this session (wip/gen_rref.py) for this claim; Lean checks it.
/-! The document's Read, walked. -/
set_option linter.unusedVariables false
set_option linter.unusedSimpArgs false
namespace Go.Proofs.YtnnnbeimehfiiaaDoor.Q
open Go Go.RowKit Go.Proofs.YtnnnbeimehfiiaaDoorW.PrintWords Go.Proofs.YtnnnbeimehfiiaaDoorW.PrintLast Go.Proofs.YtnnnbeimehfiiaaDoorW.PrintMore Go.Proofs.YtnnnbeimehfiiaaDoorW.SL
attribute [local go_sem] max2_int min2_int max_two min_two max_three min_three max_four min_four
def rref.T18 : Bool × List (List Nat × List Nat) := (true, [([], []), ([], []), ([1], [1]), ([0, 2], [0, 2]), ([3], [3]), ([4], [4]), ([4], [4]), ([4], [4]), ([6, 7, 4], [4, 6, 7]), ([8, 4], [4, 8]), ([4], [4]), ([10, 4], [4, 10]), ([11, 4], [4, 11]), ([5, 9, 12, 4, 4], [4, 5, 9, 12]), ([13, 4], [4, 13]), ([4, 14], [4, 14])])
def rref.B18 : List Nat := [0, 0, 2, 7, 15, 31, 31, 31, 223, 479, 31, 1055, 3103, 8191, 16383, 32767]
theorem rref.tab18 : rtab .any (opsOf Tryd.f10 18) = rref.T18 := by kernel_rfl
theorem rref.bits18 : waitsOk rref.T18.2 rref.B18 = true := by kernel_rfl
def rref.T22 : Bool × List (List Nat × List Nat) := (true, [([], []), ([], []), ([], []), ([2, 1], [1, 2]), ([3], [3]), ([], []), ([], []), ([5, 6], [5, 6]), ([7], [7]), ([4, 8], [4, 8]), ([], []), ([10, 0, 0, 1, 2, 3, 4, 5, 6, 7, 8, 9], [0, 10]), ([11, 9, 9, 0, 1, 2, 3, 4, 5, 6, 7, 8, 9], [9, 11])])
def rref.B22 : List Nat := [0, 0, 0, 6, 14, 0, 0, 96, 224, 510, 0, 2047, 4095]
theorem rref.tab22 : rtab .any (opsOf Tryd.f10 22) = rref.T22 := by kernel_rfl
theorem rref.bits22 : waitsOk rref.T22.2 rref.B22 = true := by kernel_rfl
set_option maxHeartbeats 16000000 in
set_option maxRecDepth 100000 in
theorem rread_calls (n : Int) (A : Option Addr) (c : Nat) (b : List Int) (w : World) (hr : Kd.C B8 w A b.length b) (hc : b.length ≤ c) (hb : ∀ x ∈ b, byte x) (hlen : b.length ≤ 5000000) :
  Calls Tryd.prog 10 #[.int .i64 n, .slice A b.length c] w fun e w' => ∃ (A' : Option Addr) (c' : Nat), e = .returned (.tuple #[.slice A' (readOf n b).1.length c', .int .i64 (readOf n b).2]) ∧ (readOf n b).1.length ≤ c' ∧ Kd.C kP w' A' (readOf n b).1.length (readOf n b).1 ∧ Below w.heap.size w w' := by
 have HR := Aside0.mk hr; have HC := Aside0.mk hc; have HB := Aside0.mk hb; have HLEN := Aside0.mk hlen
 clear hr hc hb hlen
 by_cases hn : n ≥ 1 ∧ n ≤ 16777216
 · obtain ⟨N, hN⟩ := Int.eq_ofNat_of_zero_le (by omega : 0 ≤ n)
   have hN1 : 1 ≤ N := by omega
   have hres : readOf n b = match rdAll N (linesOf b) ([], 0) with | some (ps, st) => if st = 0 then (ps, 0) else ([], 5) | none => ([], 5) := by
     unfold readOf; rw [if_pos hn, hN]; rfl
   obtain ⟨R, hR⟩ : ∃ R, readOf n b = R := ⟨_, rfl⟩
   rw [hR] at hres ⊢
   have HRES := Aside0.mk hres
   subst hN
   have hnl := eq_false (show ¬ (N : Int) < 1 by omega)
   have hng := eq_false (show ¬ (16777216 : Int) < (N : Int) by omega)
   have hnl2 := eq_true (show (1 : Int) ≤ (N : Int) by omega)
   have hng2 := eq_true (show (N : Int) ≤ 16777216 by omega)
   clear hres hR hn
   obtain ⟨kS, hS⟩ := (split_ev b (by have := HLEN.out; omega)).has
   obtain ⟨L, hL⟩ : ∃ L, linesOf b = L := ⟨_, rfl⟩
   rw [hL] at HRES hS
   have HLN := Aside0.mk (show L.length ≤ 5000000 by rw [← hL]; exact Nat.le_trans (linesOf_len b) HLEN.out)
   have HLX := Aside0.mk (show ∀ x ∈ L, x ≠ [] ∧ (∀ y ∈ x, byte y) ∧ x.length ≤ 5000000 by rw [← hL]; exact fun x hx => ⟨linesOf_ne b x hx, linesOf_all byte b x HB.out hx, Nat.le_trans (linesOf_mem b x hx) HLEN.out⟩)
   replace hL := Aside0.mk hL
   replace hS := Aside0.mk hS
   replace hN1 := Aside0.mk hN1
   go_enter Tryd.func10, Tryd.ntmps10
   go_wp2_with (go_at_call 27; refine (scarfref02_Split.calls kS A c b L _ HR.out HC.out hS.out).mono ?_; rintro e w2 ⟨vl, rfl, hR, hb2⟩; obtain ⟨AL, cL, rfl, hrd⟩ := rd_S hR; replace hR := Aside0.mk hR)
   have hF0 : ∀ a ∈ [rdV kB AL cL L], a.P w2 (fun k => k < w2.heap.size) := by
     intro a ha; rw [List.mem_singleton] at ha; subst ha
     exact FA.step _ hrd (fun _ _ _ => rfl) (fun k hk => hk.2)
   have HS := Aside0.mk (AsI.start (Stt.start w2 hF0))
   have hB2 := Aside0.mk hb2
   clear hF0 hrd hb2
   go_loopg [7, 8] L.length (fun kq v7 v8 W => ∃ (ps : List Pt) (ii : Int) (i : Nat), v8 = .int .i64 ii ∧ Aside0 (ii = (i : Int)) ∧ i ≤ L.length ∧ kq = L.length - i ∧ Aside0 (rdAll N (L.take i) ([], 0) = some (ps, 0)) ∧ Aside0 (Sz ps i) ∧ Aside0 (∀ x, L[i]? = some x → mkOf N x = 0 → ps = [] ∨ ∃ fr p, ps = fr ++ [p] ∧ p.region = true) ∧ Aside0 (AsI w2 [rdV kB AL cL L] ps v7 W))
   case atStart => exact ⟨[], 0, 0, rfl, ⟨rfl⟩, Nat.zero_le _, rfl, ⟨rfl⟩, ⟨sz_nil⟩, ⟨fun _ _ _ => .inl rfl⟩, HS⟩
   case round =>
    obtain ⟨ps, ii, i, rfl, hii, hi, hgk, hall, hsz, hreg, hI⟩ := hrel
    obtain ⟨wb, rfl⟩ : ∃ q, q = wr := ⟨_, rfl⟩
    by_cases hin : ii < (L.length : Int)
    · have p0 : 0 ≤ ii := by have := hii.out; omega
      have e0 : ii.toNat = i := by have := hii.out; omega
      obtain ⟨Z, hZ⟩ := hI.out.fr
      obtain ⟨x, hxi⟩ : ∃ x, L[i]? = some x := ⟨_, List.getElem?_eq_getElem (by have := hii.out; omega)⟩
      have hxm := HLX.out x (List.mem_of_getElem? hxi)
      obtain ⟨al, ax, cX, rfl, hx0, hxc, hxC, _⟩ := line_at (hZ _ List.mem_cons_self) hxi hxm.1
      rw [← e0] at hx0
      have HX := Aside0.mk (⟨hxi, hxm, hxc, hxC, hi, hgk⟩ : _ ∧ _ ∧ _ ∧ _ ∧ _ ∧ _)
      have HAN0 := any_calls N hN1.out (some ax) cX x wb hxC hxc hxm.2.1 (by have := hxm.2.2; omega)
      rw [anyOf_eq hN1.out x] at HAN0
      obtain ⟨Ao, co, eo⟩ := hI.out.form
      obtain ⟨m, hm⟩ : ∃ m, m = ps.length := ⟨_, rfl⟩
      rw [← hm] at eo
      subst eo
      replace hm := Aside0.mk hm
      have hi5 : i ≤ 5000000 := by have := HLN.out; omega
      have hps5 := Aside0.mk (Nat.le_trans hsz.out.1 hi5)
      have hinb := eq_true hin
      have p0b := eq_true p0
      replace e0 := Aside0.mk e0
      clear hZ hxi hxm hxc hxC hi hgk
      by_cases hx : mkOf N x = 0
      · rw [show decide (mkOf N x ≠ 0) = false by simp [hx]] at HAN0
        have HAN := Aside0.mk HAN0
        have hfirst := Aside0.mk (plain_first hx (hreg.out x HX.out.1 hx))
        replace hx := Aside0.mk hx
        clear HAN0
        go_wp2_with (go_at_call 28; refine HAN.out.mono ?_; rintro e w3 ⟨rfl, hb3⟩)
        have HT := Aside0.mk (TxI.start (hI.out.keep hb3))
        clear hx0 HAN hb3
        go_loopg [8, 9] (L.length - i) (fun kq v8 v9 W => ∃ (T : List Int) (jj : Int) (j : Nat), v8 = .int .i64 jj ∧ Aside0 (jj = (j : Int)) ∧ i ≤ j ∧ j ≤ L.length ∧ kq = L.length - j ∧ Aside0 (j = i ∧ T = [] ∨ i < j ∧ rdAll N (L.take j) ([], 0) = some (ps ++ [⟨false, T, [], [], []⟩], 0)) ∧ Aside0 (T.length ≤ 5000000 * j) ∧ Aside0 (TxI w2 [rdV kB (some al) cL L] ps (.slice Ao m co) T v9 W))
        case atStart => exact ⟨[], ii, i, rfl, hii, Nat.le_refl _, HX.out.2.2.2.2.1, rfl, ⟨.inl ⟨rfl, rfl⟩⟩, ⟨Nat.zero_le _⟩, HT⟩
        case round =>
          obtain ⟨T, jj, j, rfl, hjj, hij, hj, hgk2, hor, hT, hTx⟩ := hrel
          obtain ⟨wc, rfl⟩ : ∃ q, q = wr := ⟨_, rfl⟩
          obtain ⟨ak, ck, rfl, _⟩ := own_form hTx.out.own
          have q0 : 0 ≤ jj := by have := hjj.out; omega
          have hj5 : j ≤ 5000000 := by have := HLN.out; omega
          have hw1 : wrap64 (jj + 1) = jj + 1 := by have := hjj.out; unfold wrap64; omega
          have q0b := eq_true q0
          have HJ := Aside0.mk (⟨hij, hj, hgk2, hj5⟩ : _ ∧ _ ∧ _ ∧ _)
          clear hij hj hgk2 hj5
          by_cases hjn : jj < (L.length : Int)
          · have f0 : jj.toNat = j := by have := hjj.out; omega
            obtain ⟨Z, hZ⟩ := hTx.out.fr
            obtain ⟨y, hyj⟩ : ∃ y, L[j]? = some y := ⟨_, List.getElem?_eq_getElem (by have := hjj.out; omega)⟩
            have hym := HLX.out y (List.mem_of_getElem? hyj)
            obtain ⟨al', ay, cY, eal, hy0, hyc, hyC, _⟩ := line_at (hZ _ List.mem_cons_self) hyj hym.1
            injection eal with eal
            subst eal
            rw [← f0] at hy0
            have HAN0 := any_calls N hN1.out (some ay) cY y wc hyC hyc hym.2.1 (by have := hym.2.2; omega)
            rw [anyOf_eq hN1.out y] at HAN0
            have HY := Aside0.mk (⟨hym, hyc, hyC⟩ : _ ∧ _ ∧ _)
            have hjnb := eq_true hjn
            replace f0 := Aside0.mk f0
            replace hyj := Aside0.mk hyj
            clear hZ hym hyc hyC
            by_cases hy : mkOf N y = 0
            · rw [show decide (mkOf N y ≠ 0) = false by simp [hy]] at HAN0
              have HAN := Aside0.mk HAN0
              clear HAN0
              have hyes : rdAll N (L.take (j + 1)) ([], 0) = some (ps ++ [⟨false, T ++ y, [], [], []⟩], 0) := by
                rcases hor.out with ⟨h1, h2⟩ | ⟨_, h2⟩
                · rw [h1, rdAll_next hall.out HX.out.1, h2]
                  have h3 := hyj.out
                  rw [h1, HX.out.1] at h3
                  injection h3 with h3
                  rw [← h3]
                  exact hfirst.out
                · rw [rdAll_next h2 hyj.out]; exact plain_more hy
              replace hyes := Aside0.mk hyes
              replace hy := Aside0.mk hy
              have hln : T.length + y.length ≤ 140737488355328 := by have := hT.out; have := HY.out.1.2.2; have := HJ.out.2.2.2; omega
              replace hln := Aside0.mk hln
              go_wp2_with (first | (go_at_call 28; refine HAN.out.mono ?_; rintro e w4 ⟨rfl, hb4⟩; have hT4 := Aside0.mk (hTx.out.keep hb4); have hC4 := Aside0.mk (Kd.C_below HY.out.2.2 hb4); have hy4 := (hb4.cell (World.block_lt_of_cell? _ _ hy0)).trans hy0; clear hb4) | ((with_reducible refine gate_builtin (b := .append) (xs := #[.tmp 45, .tmp 49]) rfl ?_); at_builtin; go_must ((refine app_spread rfl (.tmp 45) (.tmp 49) rfl Tryd.underlying22 inf5 _ _ _ y ay cY rfl rfl hT4.out.own hC4.out hln.out ?_; intro v5_ w5 ho5 hg5 hat5; obtain ⟨A5, c5, rfl, _⟩ := own_form ho5; have hT5 := Aside0.mk (hT4.out.app y ho5 hg5 hat5); clear ho5 hg5 hat5))))
              go_roundg (L.length - (j + 1))
              case rel => exact ⟨T ++ y, wrap64 (jj + 1), j + 1, by first | rfl | (simp; done) | (simp [hw1]; done), ⟨by rw [hw1]; have := hjj.out; omega⟩, by have := HJ.out.1; omega, by have := hjj.out; omega, rfl, ⟨.inr ⟨by have := HJ.out.1; omega, hyes.out⟩⟩, ⟨by have := hT.out; have := HY.out.1.2.2; simp; omega⟩, hT5⟩
              case measure => have := hjj.out; have := HJ.out.2.2.1; omega
            · rw [show decide (mkOf N y ≠ 0) = true by simp [hy]] at HAN0
              have HAN := Aside0.mk HAN0
              clear HAN0
              replace hy := Aside0.mk hy
              have hcs : ∀ u ∈ [Value.bool false, .slice ak T.length ck, .slice none 0 0, .slice none 0 0, .slice none 0 0], u.oneCell' = true := by simp [Value.oneCell']
              replace hcs := Aside0.mk hcs
              go_wp2_with (first | (go_at_call 28; refine HAN.out.mono ?_; rintro e w4 ⟨rfl, hb4⟩; have hD := TxI.done (hTx.out.keep hb4); clear hb4) | ((with_reducible refine gate_builtin (b := .append) (xs := #[.tmp 53, .tmp 56]) rfl ?_); at_builtin; go_must ((refine app_elem rfl (.tmp 53) (.tmp 56) 104 rfl Tryd.underlying27 inf44 (by decide) hD hps5.out m hm.out.symm ⟨false, T, [], [], []⟩ [.bool false, .slice ak T.length ck, .slice none 0 0, .slice none 0 0, .slice none 0 0] rfl hcs.out (fun Z hZ => hZ _ List.mem_cons_self) rfl rfl ?_; intro A5 c5 w5 hI5; replace hI5 := Aside0.mk (AsI.less hI5)))))
              have hlt : i < j ∧ rdAll N (L.take j) ([], 0) = some (ps ++ [⟨false, T, [], [], []⟩], 0) := by
                rcases hor.out with h | h
                · exfalso; have h3 := hyj.out; rw [h.1, HX.out.1] at h3; injection h3 with h3; exact hy.out (h3 ▸ hx.out)
                · exact h
              go_roundg (L.length - j)
              case rel => exact ⟨_, jj, j, rfl, hjj, HJ.out.2.1, rfl, Aside0.mk hlt.2, ⟨sz_end hsz.out (by have := hT.out; simp [Szp]; exact this) hlt.1⟩, ⟨fun y' h1 h2 => by rw [hyj.out] at h1; injection h1 with h1; exact absurd (h1 ▸ h2) hy.out⟩, hI5⟩
              case measure => have := hlt.1; have := HJ.out.2.1; have := HX.out.2.2.2.2.2; omega
          · have hjnb := eq_false hjn
            have hjge := eq_true (show (L.length : Int) ≤ jj by omega)
            have hcs : ∀ u ∈ [Value.bool false, .slice ak T.length ck, .slice none 0 0, .slice none 0 0, .slice none 0 0], u.oneCell' = true := by simp [Value.oneCell']
            replace hcs := Aside0.mk hcs
            have hD := TxI.done hTx.out
            go_wp2_with ((with_reducible refine gate_builtin (b := .append) (xs := #[.tmp 53, .tmp 56]) rfl ?_); at_builtin; go_must ((refine app_elem rfl (.tmp 53) (.tmp 56) 104 rfl Tryd.underlying27 inf44 (by decide) hD hps5.out m hm.out.symm ⟨false, T, [], [], []⟩ [.bool false, .slice ak T.length ck, .slice none 0 0, .slice none 0 0, .slice none 0 0] rfl hcs.out (fun Z hZ => hZ _ List.mem_cons_self) rfl rfl ?_; intro A5 c5 w5 hI5; replace hI5 := Aside0.mk (AsI.less hI5))))
            have hlt : i < j ∧ rdAll N (L.take j) ([], 0) = some (ps ++ [⟨false, T, [], [], []⟩], 0) := by
              rcases hor.out with h | h
              · exfalso; have := HX.out.1; have h3 := h.1; have := hjj.out; have := hii.out; omega
              · exact h
            go_roundg (L.length - j)
            case rel => exact ⟨_, jj, j, rfl, hjj, HJ.out.2.1, rfl, Aside0.mk hlt.2, ⟨sz_end hsz.out (by have := hT.out; simp [Szp]; exact this) hlt.1⟩, ⟨fun y' h1 h2 => by have h3 := hjj.out; have h4 := (List.getElem?_eq_some_iff.1 h1).1; omega⟩, hI5⟩
            case measure => have := hlt.1; have := HJ.out.2.1; have := HX.out.2.2.2.2.2; omega
      · rw [show decide (mkOf N x ≠ 0) = true by simp [hx]] at HAN0
        have HAN := Aside0.mk HAN0
        replace hx := Aside0.mk hx
        clear HAN0
        go_wp2_with (go_at_call 28; refine HAN.out.mono ?_; rintro e w3 ⟨rfl, hb3⟩; have hI3 := Aside0.mk (hI.out.keep hb3); clear hb3)
        have HBx := Aside0.mk (BxI.start hI3.out (Obj.cells #[.int .u8 60, .int .u8 124, .int .u8 61, .int .u8 62] 61) #[.int .u8 60, .int .u8 124, .int .u8 61, .int .u8 62] 61 rfl)
        generalize ((w3.alloc (Obj.cells #[.bool true, .slice none 0 0, .slice none 0 0, .slice none 0 0, .slice none 0 0] 44)).alloc (Obj.cells #[.int .u8 60, .int .u8 124, .int .u8 61, .int .u8 62] 61)) = w4 at HBx ⊢
        generalize w3.heap.size + 1 = gs at HBx ⊢
        generalize w3.heap.size = g at HBx ⊢
        clear hI3 HAN hx0
        go_loopg [8, 12] 4 (fun kq v8 v12 W => ∃ (p : Pt) (kk : Int) (k : Nat) (jj : Int) (j : Nat), v8 = .int .i64 jj ∧ v12 = .int .i64 kk ∧ Aside0 (kk = (k : Int)) ∧ Aside0 (jj = (j : Int)) ∧ k ≤ 4 ∧ j ≤ L.length ∧ kq = 4 - k ∧ Aside0 (rdAll N (L.take j) ([], 0) = some (stk ps p k)) ∧ Aside0 (k = 0 → p = nwPt true ∧ j = i) ∧ Aside0 (1 ≤ k → i < j) ∧ Aside0 (p.region = true) ∧ Aside0 (k < 4 → ∀ y, L[j]? = some y → mkOf N y ≠ 0) ∧ Aside0 (Szp p j) ∧ Aside0 (BxI w2 [bkF gs 61 #[.int .u8 60, .int .u8 124, .int .u8 61, .int .u8 62], rdV kB (some al) cL L] ps (.slice Ao m co) g p W))
        case atStart => exact ⟨nwPt true, 0, 0, ii, i, rfl, rfl, ⟨rfl⟩, hii, by decide, HX.out.2.2.2.2.1, rfl, ⟨by rw [hall.out]; rfl⟩, ⟨fun _ => ⟨rfl, rfl⟩⟩, ⟨fun h => absurd h (by decide)⟩, ⟨rfl⟩, ⟨fun _ y h => by rw [HX.out.1] at h; injection h with h; exact h ▸ hx.out⟩, ⟨szp_nw i⟩, HBx⟩
        case round =>
          obtain ⟨p, kk, k, jj, j, rfl, rfl, hkk, hjj, hk4, hj, hgk2, hst, hp0, hp1, hpr, hmk, hsp, hBx⟩ := hrel
          obtain ⟨wc, rfl⟩ : ∃ q, q = wr := ⟨_, rfl⟩
          have q0 : 0 ≤ jj := by have := hjj.out; omega
          have k0 : 0 ≤ kk := by have := hkk.out; omega
          have q0b := eq_true q0
          have k0b := eq_true k0
          have hj5 : j ≤ 5000000 := by have := HLN.out; omega
          have hw1 : wrap64 (jj + 1) = jj + 1 := by have := hjj.out; unfold wrap64; omega
          have hwk : wrap64 (kk + 1) = kk + 1 := by have := hkk.out; unfold wrap64; omega
          have hij1 : i ≤ j := by
            rcases Nat.eq_zero_or_pos k with h | h
            · have := (hp0.out h).2; omega
            · have := hp1.out h; omega
          replace hij1 := Aside0.mk hij1
          have HJ := Aside0.mk (⟨hk4, hj, hgk2, hj5⟩ : _ ∧ _ ∧ _ ∧ _)
          clear hk4 hj hgk2 hj5
          by_cases hkl : kk < 4
          · have hklb := eq_true hkl
            have hk : k < 4 := by have := hkk.out; omega
            replace hk := Aside0.mk hk
            have hBd := Aside0.mk (hBx.out.keep (below_drew1 (Below.refl wc.heap.size wc)))
            by_cases hjn : jj < (L.length : Int)
            · have f0 : jj.toNat = j := by have := hjj.out; omega
              have fk : kk.toNat = k := by have := hkk.out; omega
              obtain ⟨Z, hZ⟩ := hBd.out.fr
              obtain ⟨y, hyj⟩ : ∃ y, L[j]? = some y := ⟨_, List.getElem?_eq_getElem (by have := hjj.out; omega)⟩
              have hym := HLX.out y (List.mem_of_getElem? hyj)
              obtain ⟨al', ay, cY, eal, hy0, hyc, hyC, _⟩ := line_at (hZ (rdV kB (some al) cL L) (by simp)) hyj hym.1
              injection eal with eal
              subst eal
              have hs0 := sgk_cell (hZ _ List.mem_cons_self) hk.out
              rw [← f0] at hy0
              rw [← fk] at hs0
              have HIS0 := is_calls N hN1.out (some ay) cY y (sgk k) wc.drew hyC hyc hym.2.1 (by have := hym.2.2; omega)
              rw [isOf_eq hN1.out y (show sgk k ≠ 0 by have := hk.out; rcases k with _ | _ | _ | _ | k <;> first | (simp [sgk]; done) | omega)] at HIS0
              have hs0' : wc.drew.cell? ⟨gs, kk.toNat, none⟩ = some (.int .u8 (sgk k)) := by rw [hs0, fk]
              replace hs0 := hs0'
              have hjnb := eq_true hjn
              have hjge := eq_false (show ¬ (L.length : Int) ≤ jj by omega)
              replace f0 := Aside0.mk f0
              replace fk := Aside0.mk fk
              replace hyj := Aside0.mk hyj
              have HY := Aside0.mk hym
              clear hZ hym hyc hyC hs0'
              by_cases hy : mkOf N y = sgk k
              · rw [show decide (mkOf N y = sgk k) = true by simp [hy]] at HIS0
                have HIS := Aside0.mk HIS0
                have hnext : rdAll N (L.take (j + 1)) ([], 0) = some (stk ps p (k + 1)) := by rw [rdAll_next hst.out hyj.out]; exact stk_sign hk.out hy (fun h => (hp0.out h).1)
                replace hnext := Aside0.mk hnext
                replace hy := Aside0.mk hy
                clear HIS0
                go_wp2
                have E0 := trivial
                refine start_ (n := 16) (S := fun w' => True) (ds := []) #[false, false, false, false, false, false, false, false, false, false, false, false, false, false, false, false] (by kernel_rfl) rfl rfl trivial (fun hHeld => ?_)
                refine with_tabW rref.tab18 rref.bits18 (fun HT_ HW_ => ?_)
                generalize wc.drew = wd at hy0 hs0 HIS hBd hHeld ⊢
                refine pure_ (i := 0) (N := some 64) (v := ?_) (a' := ?_) #[true, false, false, false, false, false, false, false, false, false, false, false, false, false, false, false] rfl rfl (any_of HT_.out (by kernel_rfl)) (fun _ _ _ h => h) (Or.inl ⟨by rfl, ?_⟩) ?_ ?_
                rotate_left
                · intro w'
                  go_simp
                  with_reducible rfl
                rotate_left
                · simp only [Act.put, List.setIfInBounds_toArray, List.set_cons_zero, List.set_cons_succ, i64_w, i32_w]
                  rfl
                refine pure_ (i := 1) (N := some 65) (v := ?_) (a' := ?_) #[true, true, false, false, false, false, false, false, false, false, false, false, false, false, false, false] rfl rfl (any_of HT_.out (by kernel_rfl)) (fun _ _ _ h => h) (Or.inl ⟨by rfl, ?_⟩) ?_ ?_
                rotate_left
                · intro w'
                  go_simp
                  with_reducible rfl
                rotate_left
                · simp only [Act.put, List.setIfInBounds_toArray, List.set_cons_zero, List.set_cons_succ, i64_w, i32_w]
                  rfl
                refine pure_ (i := 2) (N := some 66) (v := ?_) (a' := ?_) #[true, true, true, false, false, false, false, false, false, false, false, false, false, false, false, false] rfl rfl (any_of HT_.out (by kernel_rfl)) (fun _ _ _ h => h) (Or.inl ⟨by rfl, ?_⟩) ?_ ?_
                rotate_left
                · intro w'
                  go_simp
                  with_reducible rfl
                rotate_left
                · simp only [Act.put, List.setIfInBounds_toArray, List.set_cons_zero, List.set_cons_succ, i64_w, i32_w]
                  rfl
                refine pure_ (i := 3) (N := some 67) (v := ?_) (a' := ?_) #[true, true, true, true, false, false, false, false, false, false, false, false, false, false, false, false] rfl rfl (any_of HT_.out (by kernel_rfl)) (fun _ _ _ h => h) (Or.inl ⟨by rfl, ?_⟩) ?_ ?_
                rotate_left
                · intro w'
                  go_simp
                  with_reducible rfl
                rotate_left
                · simp only [Act.put, List.setIfInBounds_toArray, List.set_cons_zero, List.set_cons_succ, i64_w, i32_w]
                  rfl
                refine pure_ (i := 4) (N := some 68) (v := ?_) (a' := ?_) #[true, true, true, true, true, false, false, false, false, false, false, false, false, false, false, false] rfl rfl (any_of HT_.out (by kernel_rfl)) (fun _ _ _ h => h) (Or.inl ⟨by rfl, ?_⟩) ?_ ?_
                rotate_left
                · intro w'
                  go_simp
                  with_reducible rfl
                rotate_left
                · simp only [Act.put, List.setIfInBounds_toArray, List.set_cons_zero, List.set_cons_succ, i64_w, i32_w]
                  rfl
                refine pure_ (i := 5) (N := some 69) (v := ?_) (a' := ?_) #[true, true, true, true, true, true, false, false, false, false, false, false, false, false, false, false] rfl rfl (any_of HT_.out (by kernel_rfl)) (fun _ _ _ h => h) (Or.inl ⟨by rfl, ?_⟩) ?_ ?_
                rotate_left
                · intro w'
                  go_simp
                  with_reducible rfl
                rotate_left
                · simp only [Act.put, List.setIfInBounds_toArray, List.set_cons_zero, List.set_cons_succ, i64_w, i32_w]
                  rfl
                refine pure_ (i := 6) (N := some 70) (v := ?_) (a' := ?_) #[true, true, true, true, true, true, true, false, false, false, false, false, false, false, false, false] rfl rfl (any_of HT_.out (by kernel_rfl)) (fun _ _ _ h => h) (Or.inl ⟨by rfl, ?_⟩) ?_ ?_
                rotate_left
                · intro w'
                  go_simp
                  with_reducible rfl
                rotate_left
                · simp only [Act.put, List.setIfInBounds_toArray, List.set_cons_zero, List.set_cons_succ, i64_w, i32_w]
                  rfl
                refine pure_ (i := 7) (N := some 71) (v := ?_) (a' := ?_) #[true, true, true, true, true, true, true, true, false, false, false, false, false, false, false, false] rfl rfl (any_of HT_.out (by kernel_rfl)) (fun _ _ _ h => h) (Or.inl ⟨by rfl, ?_⟩) ?_ ?_
                rotate_left
                · intro w'
                  go_simp
                  with_reducible rfl
                rotate_left
                · simp only [Act.put, List.setIfInBounds_toArray, List.set_cons_zero, List.set_cons_succ, i64_w, i32_w]
                  rfl
                refine pure_ (i := 8) (N := some 72) (v := ?_) (a' := ?_) #[true, true, true, true, true, true, true, true, true, false, false, false, false, false, false, false] rfl rfl (any_of HT_.out (by kernel_rfl)) (fun _ _ _ h => h) (Or.inl ⟨by rfl, ?_⟩) ?_ ?_
                rotate_left
                · intro w'
                  go_simp
                  with_reducible rfl
                rotate_left
                · simp only [Act.put, List.setIfInBounds_toArray, List.set_cons_zero, List.set_cons_succ, i64_w, i32_w]
                  rfl
                refine pure_ (i := 10) (N := some 74) (v := ?_) (a' := ?_) #[true, true, true, true, true, true, true, true, true, false, true, false, false, false, false, false] rfl rfl (any_of HT_.out (by kernel_rfl)) (fun _ _ _ h => h) (Or.inl ⟨by rfl, ?_⟩) ?_ ?_
                rotate_left
                · intro w'
                  go_simp
                  with_reducible rfl
                rotate_left
                · simp only [Act.put, List.setIfInBounds_toArray, List.set_cons_zero, List.set_cons_succ, i64_w, i32_w]
                  rfl
                refine pure_ (i := 11) (N := some 75) (v := ?_) (a' := ?_) #[true, true, true, true, true, true, true, true, true, false, true, true, false, false, false, false] rfl rfl (any_of HT_.out (by kernel_rfl)) (fun _ _ _ h => h) (Or.inl ⟨by rfl, ?_⟩) ?_ ?_
                rotate_left
                · intro w'
                  go_simp
                  with_reducible rfl
                rotate_left
                · simp only [Act.put, List.setIfInBounds_toArray, List.set_cons_zero, List.set_cons_succ, i64_w, i32_w]
                  rfl
                refine inv_at [9, 12, 13, 14, 15] (fun a0_ b a w' => a = putSel a0_ b [(9, 73, .slice (some ay) y.length cY), (12, 76, .int .u8 (sgk k)), (13, 77, .bool true), (14, 78, .bool false), (15, 79, .bool false)] ∧ (b 13 = false → w' = wd) ∧ (b 13 = true → Below wd.heap.size wd w')) HT_.out HW_.out (by kernel_rfl) (by kernel_rfl) ?_ ?_ ?_
                · exact ⟨by simp only [putSel, Bool.false_eq_true, if_false], fun _ => rfl, fun h_ => absurd h_ (by decide)⟩
                · skip
                  clear E0
                  refine steps_cons ?_ ?_
                  · rintro b a w' ⟨ha, Q_E0, Q_E1⟩ hb_ hon hoff
                    refine ⟨_, rfl, fun K hK => ?_⟩
                    have e72 : a.tmps[72]? = some (.pointer (some (al.add jj.toNat))) := by rw [ha]; exact (putSel_off rfl).trans rfl
                    have e68 : a.tmps[68]? = some (.bool false) := by rw [ha]; exact (putSel_off rfl).trans rfl
                    replace ha := Aside0.mk ha
                    have E0 := Aside0.mk (Q_E0 (hoff 13 (by kernel_rfl)))
                    have hw_ := E0.out
                    have hc_ := hy0
                    rw [← hw_] at hc_
                    refine value_ (w1 := w') (v := .slice (some ay) y.length cY) (wanted_on rfl rfl rfl (e68.trans (by first | rfl | (simp [*]; done)))) rfl ?_ ?_
                    · go_simp
                      (try simp only [i64_w])
                      try rfl
                    refine hK.out _ _ ⟨(by rw [ha.out]; exact putSel_upk 0 hb_ rfl rfl rfl), Q_E0, fun h0_ => absurd ((hoff 13 (by kernel_rfl)).symm.trans h0_) (by decide)⟩
                  refine steps_cons ?_ ?_
                  · rintro b a w' ⟨ha, Q_E0, Q_E1⟩ hb_ hon hoff
                    refine ⟨_, rfl, fun K hK => ?_⟩
                    have e75 : a.tmps[75]? = some (.pointer (some ⟨gs, kk.toNat, none⟩)) := by rw [ha]; exact (putSel_off rfl).trans rfl
                    have e68 : a.tmps[68]? = some (.bool false) := by rw [ha]; exact (putSel_off rfl).trans rfl
                    replace ha := Aside0.mk ha
                    have E0 := Aside0.mk (Q_E0 (hoff 13 (by kernel_rfl)))
                    have hw_ := E0.out
                    have hc_ := hs0
                    rw [← hw_] at hc_
                    refine value_ (w1 := w') (v := .int .u8 (sgk k)) (wanted_on rfl rfl rfl (e68.trans (by first | rfl | (simp [*]; done)))) rfl ?_ ?_
                    · go_simp
                      (try simp only [i64_w])
                      try rfl
                    refine hK.out _ _ ⟨(by rw [ha.out]; exact putSel_upk 1 hb_ rfl rfl rfl), Q_E0, fun h0_ => absurd ((hoff 13 (by kernel_rfl)).symm.trans h0_) (by decide)⟩
                  refine steps_cons ?_ ?_
                  · rintro b a w' ⟨ha, Q_E0, Q_E1⟩ hb_ hon hoff
                    refine ⟨_, rfl, fun K hK => ?_⟩
                    have e69 : a.tmps[69]? = some (.int .i64 (N : Int)) := by rw [ha]; exact (putSel_off rfl).trans rfl
                    have e73 : a.tmps[73]? = some (.slice (some ay) y.length cY) := by rw [ha]; exact putSel_on (e := (9, 73, .slice (some ay) y.length cY)) 0 rfl rfl (hon 9 (by kernel_rfl)) rfl
                    have e76 : a.tmps[76]? = some (.int .u8 (sgk k)) := by rw [ha]; exact putSel_on (e := (12, 76, .int .u8 (sgk k))) 1 rfl rfl (hon 12 (by kernel_rfl)) rfl
                    have e68 : a.tmps[68]? = some (.bool false) := by rw [ha]; exact (putSel_off rfl).trans rfl
                    replace ha := Aside0.mk ha
                    have E0 := Aside0.mk (Q_E0 hb_)
                    have hw_ := E0.out
                    refine goes_ Tryd.func29 (by kernel_rfl) rfl #[.int .i64 (N : Int), .slice (some ay) y.length cY, .int .u8 (sgk k)] (wanted_on rfl rfl rfl (e68.trans (by first | rfl | (simp [*]; done)))) rfl rfl (by first | (simp only [List.map_toArray, List.map_cons, List.map_nil, Act.eval, Array.getD_eq_getD_getElem?, Option.getD_some, e69, e73, e76, e68]; done) | (simp only [List.map_toArray, List.map_cons, List.map_nil, Act.eval, Array.getD_eq_getD_getElem?, Option.getD_some, e69, e73, e76, e68]; rfl)) ?_
                    refine (hw_ ▸ HIS.out).mono ?_
                    rintro e w24 ⟨rfl, hb⟩
                    refine ⟨_, rfl, ?_⟩
                    have E3_ : Below wd.heap.size wd w24 := hw_ ▸ hb
                    refine hK.out _ _ ⟨(by rw [ha.out]; exact putSel_upk 2 hb_ rfl rfl rfl), fun h0_ => absurd ((up_self b 13).symm.trans h0_) (by decide), fun _ => E3_⟩
                  refine steps_cons ?_ ?_
                  · rintro b a w' ⟨ha, Q_E0, Q_E1⟩ hb_ hon hoff
                    refine ⟨_, rfl, fun K hK => ?_⟩
                    have e77 : a.tmps[77]? = some (.bool true) := by rw [ha]; exact putSel_on (e := (13, 77, .bool true)) 2 rfl rfl (hon 13 (by kernel_rfl)) rfl
                    have e68 : a.tmps[68]? = some (.bool false) := by rw [ha]; exact (putSel_off rfl).trans rfl
                    replace ha := Aside0.mk ha
                    have E1 := Aside0.mk (Q_E1 (hon 13 (by kernel_rfl)))
                    refine value_ (w1 := w') (v := .bool false) (wanted_on rfl rfl rfl (e68.trans (by first | rfl | (simp [*]; done)))) rfl ?_ ?_
                    · go_simp
                      (try simp only [i64_w])
                      try rfl
                    refine hK.out _ _ ⟨(by rw [ha.out]; exact putSel_upk 3 hb_ rfl rfl rfl), fun h0_ => absurd ((hon 13 (by kernel_rfl)).symm.trans h0_) (by decide), Q_E1⟩
                  refine steps_cons ?_ ?_
                  · rintro b a w' ⟨ha, Q_E0, Q_E1⟩ hb_ hon hoff
                    refine ⟨_, rfl, fun K hK => ?_⟩
                    have e68 : a.tmps[68]? = some (.bool false) := by rw [ha]; exact (putSel_off rfl).trans rfl
                    have e78 : a.tmps[78]? = some (.bool false) := by rw [ha]; exact putSel_on (e := (14, 78, .bool false)) 3 rfl rfl (hon 14 (by kernel_rfl)) rfl
                    replace ha := Aside0.mk ha
                    have E1 := Aside0.mk (Q_E1 (hon 13 (by kernel_rfl)))
                    refine value_ (w1 := w') (v := .bool false) (by rfl) rfl ?_ ?_
                    · go_simp
                      (try simp only [i64_w])
                      try rfl
                    refine hK.out _ _ ⟨(by rw [ha.out]; exact putSel_upk 4 hb_ rfl rfl rfl), fun h0_ => absurd ((hon 13 (by kernel_rfl)).symm.trans h0_) (by decide), Q_E1⟩
                  exact steps_nil
                · rintro b a w' hall ⟨ha, Q_E0, Q_E1⟩
                  clear E0
                  have hb9_ := hall 9 (by kernel_rfl)
                  have hb12_ := hall 12 (by kernel_rfl)
                  have hb13_ := hall 13 (by kernel_rfl)
                  have hb14_ := hall 14 (by kernel_rfl)
                  have hb15_ := hall 15 (by kernel_rfl)
                  subst ha
                  simp only [putSel, hb9_, hb12_, hb13_, hb14_, hb15_, if_true, Act.put, List.setIfInBounds_toArray, List.set_cons_zero, List.set_cons_succ]
                  clear Q_E0
                  have E1 := Aside0.mk (Q_E1 hb13_)
                  clear Q_E1
                  clear hall hb9_ hb12_ hb13_ hb14_ hb15_
                  have hB5 := Aside0.mk (hBd.out.keep E1.out)
                  clear hy0 hs0 HIS hBd E1 hjge
                  go_wp2
                  go_loopg [8] (L.length - (j + 1)) (fun kq v8 W => ∃ (q : Pt) (jj2 : Int) (j2 : Nat), v8 = .int .i64 jj2 ∧ Aside0 (jj2 = (j2 : Int)) ∧ j + 1 ≤ j2 ∧ j2 ≤ L.length ∧ kq = L.length - j2 ∧ Aside0 (rdAll N (L.take j2) ([], 0) = some (stk ps q (k + 1))) ∧ Aside0 (q.region = true) ∧ Aside0 (Szp q j2) ∧ Aside0 (BxI w2 [bkF gs 61 #[.int .u8 60, .int .u8 124, .int .u8 61, .int .u8 62], rdV kB (some al) cL L] ps (.slice Ao m co) g q W))
                  case atStart => exact ⟨p, wrap64 (jj + 1), j + 1, by first | rfl | (simp; done) | (simp [hw1]; done), ⟨by rw [hw1]; have := hjj.out; omega⟩, Nat.le_refl _, by have := hjj.out; omega, rfl, hnext, hpr, ⟨szp_mono hsp.out (by omega)⟩, hB5⟩
                  case round =>
                    obtain ⟨q, jj2, j2, rfl, hjj2, hj12, hj2, hgk3, hst2, hqr, hsq, hBx2⟩ := hrel
                    obtain ⟨we, rfl⟩ : ∃ q, q = wr := ⟨_, rfl⟩
                    replace hw1 := Aside0.mk hw1
                    have r0 : 0 ≤ jj2 := by have := hjj2.out; omega
                    have r0b := eq_true r0
                    have hw2 : wrap64 (jj2 + 1) = jj2 + 1 := by have := hjj2.out; have := HLN.out; unfold wrap64; omega
                    have HQ := Aside0.mk (⟨hj12, hj2, hgk3⟩ : _ ∧ _ ∧ _)
                    clear hj12 hj2 hgk3
                    by_cases hk3 : kk < 3
                    · have hk3b := eq_true hk3
                      by_cases hzn : jj2 < (L.length : Int)
                      · have hznb := eq_true hzn
                        have f2 : jj2.toNat = j2 := by have := hjj2.out; omega
                        obtain ⟨Z, hZ⟩ := hBx2.out.fr
                        obtain ⟨z, hzj⟩ : ∃ z, L[j2]? = some z := ⟨_, List.getElem?_eq_getElem (by have := hjj2.out; omega)⟩
                        have hzm := HLX.out z (List.mem_of_getElem? hzj)
                        obtain ⟨al', az, cZ, eal, hz0, hzc, hzC, _⟩ := line_at (hZ (rdV kB (some al) cL L) (by simp)) hzj hzm.1
                        injection eal with eal
                        subst eal
                        rw [← f2] at hz0
                        have HAN0 := any_calls N hN1.out (some az) cZ z we hzC hzc hzm.2.1 (by have := hzm.2.2; omega)
                        rw [anyOf_eq hN1.out z] at HAN0
                        have HZ := Aside0.mk (⟨hzm, hzc, hzC⟩ : _ ∧ _ ∧ _)
                        replace f2 := Aside0.mk f2
                        replace hzj := Aside0.mk hzj
                        clear hZ hzm hzc hzC
                        by_cases hz : mkOf N z = 0
                        · rw [show decide (mkOf N z ≠ 0) = false by simp [hz]] at HAN0
                          have HAN := Aside0.mk HAN0
                          have hyes : rdAll N (L.take (j2 + 1)) ([], 0) = some (stk ps (addF q z (k + 1)) (k + 1)) := by rw [rdAll_next hst2.out hzj.out]; exact stk_line (by omega) (by have := hkk.out; omega) hz
                          replace hyes := Aside0.mk hyes
                          replace hz := Aside0.mk hz
                          clear HAN0
                          go_wp2_with (go_at_call 28; refine HAN.out.mono ?_; rintro e w6 ⟨rfl, hb6⟩; have hB6 := Aside0.mk (hBx2.out.keep hb6); have hC6 := Aside0.mk (Kd.C_below HZ.out.2.2 hb6); have hz6 := (hb6.cell (World.block_lt_of_cell? _ _ hz0)).trans hz0; clear hb6)
                          have hzd : w6.drew.cell? (al.add jj2.toNat) = some (.slice (some az) z.length cZ) := hz6
                          have hBe := hB6.out.keep (below_drew1 (Below.refl w6.heap.size w6))
                          obtain ⟨vk, hcell, hown, hstep⟩ := hBe.app (k + 1) (by have := hkk.out; omega) z
                          obtain ⟨ak, ck, rfl, _⟩ := own_form hown
                          have ea : k + 1 + 1 = 2 + kk.toNat := by have := fk.out; omega
                          rw [ea] at hcell hstep
                          have hln : (fld q (k + 1)).length + z.length ≤ 140737488355328 := by
                            have := sz_fld (m := 5000000 * j2) hsq.out (k + 1)
                            have := HZ.out.1.2.2; have := HLN.out; have := HQ.out.2.1; omega
                          replace hln := Aside0.mk hln
                          have hst_ : ∀ w1 v1, P1 w6.drew (.slice ak (fld q (k + 1)).length ck) (fld q (k + 1)) z v1 w1 → _ := fun w1 v1 h => hstep w1 v1 h.1 h.2.1 h.2.2
                          replace hst_ := Aside0.mk hst_
                          replace hown := Aside0.mk hown
                          have hXw := Aside0.mk (Kd.C_below hC6.out (below_drew1 (Below.refl w6.heap.size w6)))
                          clear hstep hz6 hBe ea hz0 HAN
                          have E0 := trivial
                          refine start_ (n := 13) (S := fun w' => True) (ds := []) #[false, false, false, false, false, false, false, false, false, false, false, false, false] (by kernel_rfl) rfl rfl trivial (fun hHeld => ?_)
                          refine with_tabW rref.tab22 rref.bits22 (fun HT_ HW_ => ?_)
                          generalize w6.drew = wd at hcell hzd hown hst_ hXw hHeld ⊢
                          refine pure_ (i := 0) (N := some 99) (v := ?_) (a' := ?_) #[true, false, false, false, false, false, false, false, false, false, false, false, false] rfl rfl (any_of HT_.out (by kernel_rfl)) (fun _ _ _ h => h) (Or.inl ⟨by rfl, ?_⟩) ?_ ?_
                          rotate_left
                          · intro w'
                            go_simp
                            with_reducible rfl
                          rotate_left
                          · simp only [Act.put, List.setIfInBounds_toArray, List.set_cons_zero, List.set_cons_succ, i64_w, i32_w]
                            rfl
                          refine pure_ (i := 1) (N := some 100) (v := ?_) (a' := ?_) #[true, true, false, false, false, false, false, false, false, false, false, false, false] rfl rfl (any_of HT_.out (by kernel_rfl)) (fun _ _ _ h => h) (Or.inl ⟨by rfl, ?_⟩) ?_ ?_
                          rotate_left
                          · intro w'
                            go_simp
                            with_reducible rfl
                          rotate_left
                          · simp only [Act.put, List.setIfInBounds_toArray, List.set_cons_zero, List.set_cons_succ, i64_w, i32_w]
                            rfl
                          refine pure_ (i := 2) (N := some 101) (v := ?_) (a' := ?_) #[true, true, true, false, false, false, false, false, false, false, false, false, false] rfl rfl (any_of HT_.out (by kernel_rfl)) (fun _ _ _ h => h) (Or.inl ⟨by rfl, ?_⟩) ?_ ?_
                          rotate_left
                          · intro w'
                            go_simp
                            with_reducible rfl
                          rotate_left
                          · simp only [Act.put, List.setIfInBounds_toArray, List.set_cons_zero, List.set_cons_succ, i64_w, i32_w]
                            rfl
                          refine pure_ (i := 3) (N := some 102) (v := ?_) (a' := ?_) #[true, true, true, true, false, false, false, false, false, false, false, false, false] rfl rfl (any_of HT_.out (by kernel_rfl)) (fun _ _ _ h => h) (Or.inl ⟨by rfl, ?_⟩) ?_ ?_
                          rotate_left
                          · intro w'
                            go_simp
                            with_reducible rfl
                          rotate_left
                          · simp only [Act.put, List.setIfInBounds_toArray, List.set_cons_zero, List.set_cons_succ, i64_w, i32_w]
                            rfl
                          refine pure_ (i := 5) (N := some 104) (v := ?_) (a' := ?_) #[true, true, true, true, false, true, false, false, false, false, false, false, false] rfl rfl (any_of HT_.out (by kernel_rfl)) (fun _ _ _ h => h) (Or.inl ⟨by rfl, ?_⟩) ?_ ?_
                          rotate_left
                          · intro w'
                            go_simp
                            with_reducible rfl
                          rotate_left
                          · simp only [Act.put, List.setIfInBounds_toArray, List.set_cons_zero, List.set_cons_succ, i64_w, i32_w]
                            rfl
                          refine pure_ (i := 6) (N := some 105) (v := ?_) (a' := ?_) #[true, true, true, true, false, true, true, false, false, false, false, false, false] rfl rfl (any_of HT_.out (by kernel_rfl)) (fun _ _ _ h => h) (Or.inl ⟨by rfl, ?_⟩) ?_ ?_
                          rotate_left
                          · intro w'
                            go_simp
                            with_reducible rfl
                          rotate_left
                          · simp only [Act.put, List.setIfInBounds_toArray, List.set_cons_zero, List.set_cons_succ, i64_w, i32_w]
                            rfl
                          refine pure_ (i := 7) (N := some 106) (v := ?_) (a' := ?_) #[true, true, true, true, false, true, true, true, false, false, false, false, false] rfl rfl (any_of HT_.out (by kernel_rfl)) (fun _ _ _ h => h) (Or.inl ⟨by rfl, ?_⟩) ?_ ?_
                          rotate_left
                          · intro w'
                            go_simp
                            with_reducible rfl
                          rotate_left
                          · simp only [Act.put, List.setIfInBounds_toArray, List.set_cons_zero, List.set_cons_succ, i64_w, i32_w]
                            rfl
                          refine pure_ (i := 10) (N := some 109) (v := ?_) (a' := ?_) #[true, true, true, true, false, true, true, true, false, false, true, false, false] rfl rfl (any_of HT_.out (by kernel_rfl)) (fun _ _ _ h => h) (Or.inl ⟨by rfl, ?_⟩) ?_ ?_
                          rotate_left
                          · intro w'
                            go_simp
                            with_reducible rfl
                          rotate_left
                          · simp only [Act.put, List.setIfInBounds_toArray, List.set_cons_zero, List.set_cons_succ, i64_w, i32_w]
                            rfl
                          refine inv_at [4, 8, 9, 11, 12] (fun a0_ b a w' => ∃ (vv : Value), a = putSel a0_ b [(4, 103, .slice ak (fld q (k + 1)).length ck), (8, 107, .slice (some az) z.length cZ), (9, 108, vv), (11, 110, .pointer (some ⟨g, 2 + kk.toNat, none⟩))] ∧ (b 9 = false → w' = wd) ∧ (b 9 = true → b 12 = false → P1 wd (.slice ak (fld q (k + 1)).length ck) (fld q (k + 1)) z vv w') ∧ (b 12 = true → P2 wd (.slice ak (fld q (k + 1)).length ck) (fld q (k + 1)) z ⟨g, 2 + kk.toNat, none⟩ vv w')) HT_.out HW_.out (by kernel_rfl) (by kernel_rfl) ?_ ?_ ?_
                          · exact ⟨.bool false, by simp only [putSel, Bool.false_eq_true, if_false], fun _ => rfl, fun h_ => absurd h_ (by decide), fun h_ => absurd h_ (by decide)⟩
                          · skip
                            clear E0
                            refine steps_cons ?_ ?_
                            · rintro b a w' ⟨vv, ha, Q_E0, Q_E1, Q_E2⟩ hb_ hon hoff
                              refine ⟨_, rfl, fun K hK => ?_⟩
                              have e102 : a.tmps[102]? = some (.pointer (some ⟨g, 2 + kk.toNat, none⟩)) := by rw [ha]; exact (putSel_off rfl).trans rfl
                              replace ha := Aside0.mk ha
                              have E0 := Aside0.mk (Q_E0 (hoff 9 (by kernel_rfl)))
                              have hw_ := E0.out
                              have hc_ := hcell
                              rw [← hw_] at hc_
                              refine value_ (w1 := w') (v := .slice ak (fld q (k + 1)).length ck) (by rfl) rfl ?_ ?_
                              · go_simp
                                (try simp only [i64_w])
                                try rfl
                              refine hK.out _ _ ⟨vv, (by rw [ha.out]; exact putSel_upk 0 hb_ rfl rfl rfl), Q_E0, fun h0_ _ => absurd ((hoff 9 (by kernel_rfl)).symm.trans h0_) (by decide), fun h0_ => absurd ((hoff 12 (by kernel_rfl)).symm.trans h0_) (by decide)⟩
                            refine steps_cons ?_ ?_
                            · rintro b a w' ⟨vv, ha, Q_E0, Q_E1, Q_E2⟩ hb_ hon hoff
                              refine ⟨_, rfl, fun K hK => ?_⟩
                              have e106 : a.tmps[106]? = some (.pointer (some (al.add jj2.toNat))) := by rw [ha]; exact (putSel_off rfl).trans rfl
                              replace ha := Aside0.mk ha
                              have E0 := Aside0.mk (Q_E0 (hoff 9 (by kernel_rfl)))
                              have hw_ := E0.out
                              have hc_ := hzd
                              rw [← hw_] at hc_
                              refine value_ (w1 := w') (v := .slice (some az) z.length cZ) (by rfl) rfl ?_ ?_
                              · go_simp
                                (try simp only [i64_w])
                                try rfl
                              refine hK.out _ _ ⟨vv, (by rw [ha.out]; exact putSel_upk 1 hb_ rfl rfl rfl), Q_E0, fun h0_ _ => absurd ((hoff 9 (by kernel_rfl)).symm.trans h0_) (by decide), fun h0_ => absurd ((hoff 12 (by kernel_rfl)).symm.trans h0_) (by decide)⟩
                            refine steps_cons ?_ ?_
                            · rintro b a w' ⟨vv, ha, Q_E0, Q_E1, Q_E2⟩ hb_ hon hoff
                              refine ⟨_, rfl, fun K hK => ?_⟩
                              have e103 : a.tmps[103]? = some (.slice ak (fld q (k + 1)).length ck) := by rw [ha]; exact putSel_on (e := (4, 103, .slice ak (fld q (k + 1)).length ck)) 0 rfl rfl (hon 4 (by kernel_rfl)) rfl
                              have e107 : a.tmps[107]? = some (.slice (some az) z.length cZ) := by rw [ha]; exact putSel_on (e := (8, 107, .slice (some az) z.length cZ)) 1 rfl rfl (hon 8 (by kernel_rfl)) rfl
                              replace ha := Aside0.mk ha
                              have E0 := Aside0.mk (Q_E0 hb_)
                              have hw_ := E0.out
                              refine app_spread_step (by rfl) (.tmp 103) (.tmp 107) rfl Tryd.underlying22 inf5 (.slice ak (fld q (k + 1)).length ck) _ (us8 (fld q (k + 1))) z az cZ (eval_of e103) (eval_of e107) (hw_ ▸ hown.out) (hw_ ▸ hXw.out) hln.out ?_
                              intro v1 w1 ho hg hat
                              have S3_ : P1 wd (.slice ak (fld q (k + 1)).length ck) (fld q (k + 1)) z v1 w1 := ⟨ho, hw_ ▸ hg, hw_ ▸ hat⟩
                              refine hK.out _ _ ⟨v1, (by rw [ha.out]; exact putSel_upk 2 hb_ rfl rfl rfl), fun h0_ => absurd ((up_self b 9).symm.trans h0_) (by decide), fun _ _ => S3_, fun h0_ => absurd ((hoff 12 (by kernel_rfl)).symm.trans h0_) (by decide)⟩
                            refine steps_cons ?_ ?_
                            · rintro b a w' ⟨vv, ha, Q_E0, Q_E1, Q_E2⟩ hb_ hon hoff
                              refine ⟨_, rfl, fun K hK => ?_⟩
                              have e109 : a.tmps[109]? = some (.pointer (some ⟨g, 2, none⟩)) := by rw [ha]; exact (putSel_off rfl).trans rfl
                              have e99 : a.tmps[99]? = some (.int .i64 kk) := by rw [ha]; exact (putSel_off rfl).trans rfl
                              replace ha := Aside0.mk ha
                              have E1 := Aside0.mk (Q_E1 (hon 9 (by kernel_rfl)) (hoff 12 (by kernel_rfl)))
                              refine value_ (w1 := w') (v := .pointer (some ⟨g, 2 + kk.toNat, none⟩)) (by rfl) rfl ?_ ?_
                              · go_simp
                                (try simp only [i64_w])
                                try rfl
                              refine hK.out _ _ ⟨vv, (by rw [ha.out]; exact putSel_upk 3 hb_ rfl rfl rfl), fun h0_ => absurd ((hon 9 (by kernel_rfl)).symm.trans h0_) (by decide), Q_E1, fun h0_ => absurd ((hoff 12 (by kernel_rfl)).symm.trans h0_) (by decide)⟩
                            refine steps_cons ?_ ?_
                            · rintro b a w' ⟨vv, ha, Q_E0, Q_E1, Q_E2⟩ hb_ hon hoff
                              refine ⟨_, rfl, fun K hK => ?_⟩
                              have e110 : a.tmps[110]? = some (.pointer (some ⟨g, 2 + kk.toNat, none⟩)) := by rw [ha]; exact putSel_on (e := (11, 110, .pointer (some ⟨g, 2 + kk.toNat, none⟩))) 3 rfl rfl (hon 11 (by kernel_rfl)) rfl
                              have e108 : a.tmps[108]? = some (vv) := by rw [ha]; exact putSel_on (e := (9, 108, vv)) 2 rfl rfl (hon 9 (by kernel_rfl)) rfl
                              replace ha := Aside0.mk ha
                              have E1 := Aside0.mk (Q_E1 (hon 9 (by kernel_rfl)) hb_)
                              obtain ⟨A_, c_, en_⟩ := E1.out.form
                              obtain ⟨hc_, hf_, _⟩ := hst_.out w' vv E1.out
                              refine skip_ (w1 := w'.setCell ⟨g, 2 + kk.toNat, none⟩ vv) (by rfl) rfl ?_ ?_
                              · rw [en_] at e108 ⊢
                                go_simp
                                try rfl
                              have S3_ := E1.out
                              refine hK.out _ _ ⟨vv, (by rw [ha.out]; exact putSel_none (v := undef) rfl), fun h0_ => absurd ((hon 9 (by kernel_rfl)).symm.trans h0_) (by decide), fun _ h1_ => absurd ((up_self b 12).symm.trans h1_) (by decide), fun _ => ⟨w', S3_, rfl⟩⟩
                            exact steps_nil
                          · rintro b a w' hall ⟨vv, ha, Q_E0, Q_E1, Q_E2⟩
                            clear E0
                            have hb4_ := hall 4 (by kernel_rfl)
                            have hb8_ := hall 8 (by kernel_rfl)
                            have hb9_ := hall 9 (by kernel_rfl)
                            have hb11_ := hall 11 (by kernel_rfl)
                            have hb12_ := hall 12 (by kernel_rfl)
                            subst ha
                            simp only [putSel, hb4_, hb8_, hb9_, hb11_, hb12_, if_true, Act.put, List.setIfInBounds_toArray, List.set_cons_zero, List.set_cons_succ]
                            clear Q_E0
                            clear Q_E1
                            have E2 := Aside0.mk (Q_E2 hb12_)
                            clear Q_E2
                            clear hall hb4_ hb8_ hb9_ hb11_ hb12_
                            obtain ⟨w1_, h1_, rfl⟩ := E2.out
                            obtain ⟨_, _, hI5⟩ := hst_.out w1_ vv h1_
                            go_wp2
                            go_roundg (L.length - (j2 + 1))
                            case rel => exact ⟨addF q z (k + 1), wrap64 (jj2 + 1), j2 + 1, by first | rfl | (simp; done) | (simp [hw2]; done), ⟨by rw [hw2]; have := hjj2.out; omega⟩, by have := HQ.out.1; omega, by have := hjj2.out; omega, rfl, hyes, ⟨by rw [addF_region]; exact hqr.out⟩, ⟨szp_add hsq.out z HZ.out.1.2.2 (k + 1)⟩, ⟨hI5⟩⟩
                            case measure => have := hjj2.out; have := HQ.out.2.2; omega
                        · rw [show decide (mkOf N z ≠ 0) = true by simp [hz]] at HAN0
                          have HAN := Aside0.mk HAN0
                          clear HAN0
                          replace hz := Aside0.mk hz
                          go_wp2_with (go_at_call 28; refine HAN.out.mono ?_; rintro e w6 ⟨rfl, hb6⟩; have hB6 := Aside0.mk (hBx2.out.keep hb6); clear hb6)
                          go_roundg (4 - (k + 1))
                          case rel => exact ⟨q, wrap64 (kk + 1), k + 1, jj2, j2, rfl, by first | rfl | (simp; done) | (simp [hwk]; done), ⟨by rw [hwk]; have := hkk.out; omega⟩, hjj2, by have := hk.out; omega, HQ.out.2.1, rfl, hst2, ⟨fun h => absurd h (by omega)⟩, ⟨fun _ => by have := HQ.out.1; have := hij1.out; omega⟩, hqr, ⟨fun _ y' h => by rw [hzj.out] at h; injection h with h; exact h ▸ hz.out⟩, hsq, hB6⟩
                          case measure => have := hk.out; have := HJ.out.2.2.1; omega
                      · have hznb := eq_false hzn
                        go_wp2
                        go_roundg (4 - (k + 1))
                        case rel => exact ⟨q, wrap64 (kk + 1), k + 1, jj2, j2, rfl, by first | rfl | (simp; done) | (simp [hwk]; done), ⟨by rw [hwk]; have := hkk.out; omega⟩, hjj2, by have := hk.out; omega, HQ.out.2.1, rfl, hst2, ⟨fun h => absurd h (by omega)⟩, ⟨fun _ => by have := HQ.out.1; have := hij1.out; omega⟩, hqr, ⟨fun _ y' h => by have h3 := hjj2.out; have h4 := (List.getElem?_eq_some_iff.1 h).1; omega⟩, hsq, hBx2⟩
                        case measure => have := hk.out; have := HJ.out.2.2.1; omega
                    · have hk3b := eq_false hk3
                      go_wp2
                      go_roundg (4 - (k + 1))
                      case rel => exact ⟨q, wrap64 (kk + 1), k + 1, jj2, j2, rfl, by first | rfl | (simp; done) | (simp [hwk]; done), ⟨by rw [hwk]; have := hkk.out; omega⟩, hjj2, by have := hk.out; omega, HQ.out.2.1, rfl, hst2, ⟨fun h => absurd h (by omega)⟩, ⟨fun _ => by have := HQ.out.1; have := hij1.out; omega⟩, hqr, ⟨fun h => by have := hkk.out; omega⟩, hsq, hBx2⟩
                      case measure => have := hk.out; have := HJ.out.2.2.1; omega
              · rw [show decide (mkOf N y = sgk k) = false by simp [hy]] at HIS0
                have HIS := Aside0.mk HIS0
                replace hy := Aside0.mk hy
                clear HIS0
                go_wp2
                have E0 := trivial
                refine start_ (n := 16) (S := fun w' => True) (ds := []) #[false, false, false, false, false, false, false, false, false, false, false, false, false, false, false, false] (by kernel_rfl) rfl rfl trivial (fun hHeld => ?_)
                refine with_tabW rref.tab18 rref.bits18 (fun HT_ HW_ => ?_)
                generalize wc.drew = wd at hy0 hs0 HIS hBd hHeld ⊢
                refine pure_ (i := 0) (N := some 64) (v := ?_) (a' := ?_) #[true, false, false, false, false, false, false, false, false, false, false, false, false, false, false, false] rfl rfl (any_of HT_.out (by kernel_rfl)) (fun _ _ _ h => h) (Or.inl ⟨by rfl, ?_⟩) ?_ ?_
                rotate_left
                · intro w'
                  go_simp
                  with_reducible rfl
                rotate_left
                · simp only [Act.put, List.setIfInBounds_toArray, List.set_cons_zero, List.set_cons_succ, i64_w, i32_w]
                  rfl
                refine pure_ (i := 1) (N := some 65) (v := ?_) (a' := ?_) #[true, true, false, false, false, false, false, false, false, false, false, false, false, false, false, false] rfl rfl (any_of HT_.out (by kernel_rfl)) (fun _ _ _ h => h) (Or.inl ⟨by rfl, ?_⟩) ?_ ?_
                rotate_left
                · intro w'
                  go_simp
                  with_reducible rfl
                rotate_left
                · simp only [Act.put, List.setIfInBounds_toArray, List.set_cons_zero, List.set_cons_succ, i64_w, i32_w]
                  rfl
                refine pure_ (i := 2) (N := some 66) (v := ?_) (a' := ?_) #[true, true, true, false, false, false, false, false, false, false, false, false, false, false, false, false] rfl rfl (any_of HT_.out (by kernel_rfl)) (fun _ _ _ h => h) (Or.inl ⟨by rfl, ?_⟩) ?_ ?_
                rotate_left
                · intro w'
                  go_simp
                  with_reducible rfl
                rotate_left
                · simp only [Act.put, List.setIfInBounds_toArray, List.set_cons_zero, List.set_cons_succ, i64_w, i32_w]
                  rfl
                refine pure_ (i := 3) (N := some 67) (v := ?_) (a' := ?_) #[true, true, true, true, false, false, false, false, false, false, false, false, false, false, false, false] rfl rfl (any_of HT_.out (by kernel_rfl)) (fun _ _ _ h => h) (Or.inl ⟨by rfl, ?_⟩) ?_ ?_
                rotate_left
                · intro w'
                  go_simp
                  with_reducible rfl
                rotate_left
                · simp only [Act.put, List.setIfInBounds_toArray, List.set_cons_zero, List.set_cons_succ, i64_w, i32_w]
                  rfl
                refine pure_ (i := 4) (N := some 68) (v := ?_) (a' := ?_) #[true, true, true, true, true, false, false, false, false, false, false, false, false, false, false, false] rfl rfl (any_of HT_.out (by kernel_rfl)) (fun _ _ _ h => h) (Or.inl ⟨by rfl, ?_⟩) ?_ ?_
                rotate_left
                · intro w'
                  go_simp
                  with_reducible rfl
                rotate_left
                · simp only [Act.put, List.setIfInBounds_toArray, List.set_cons_zero, List.set_cons_succ, i64_w, i32_w]
                  rfl
                refine pure_ (i := 5) (N := some 69) (v := ?_) (a' := ?_) #[true, true, true, true, true, true, false, false, false, false, false, false, false, false, false, false] rfl rfl (any_of HT_.out (by kernel_rfl)) (fun _ _ _ h => h) (Or.inl ⟨by rfl, ?_⟩) ?_ ?_
                rotate_left
                · intro w'
                  go_simp
                  with_reducible rfl
                rotate_left
                · simp only [Act.put, List.setIfInBounds_toArray, List.set_cons_zero, List.set_cons_succ, i64_w, i32_w]
                  rfl
                refine pure_ (i := 6) (N := some 70) (v := ?_) (a' := ?_) #[true, true, true, true, true, true, true, false, false, false, false, false, false, false, false, false] rfl rfl (any_of HT_.out (by kernel_rfl)) (fun _ _ _ h => h) (Or.inl ⟨by rfl, ?_⟩) ?_ ?_
                rotate_left
                · intro w'
                  go_simp
                  with_reducible rfl
                rotate_left
                · simp only [Act.put, List.setIfInBounds_toArray, List.set_cons_zero, List.set_cons_succ, i64_w, i32_w]
                  rfl
                refine pure_ (i := 7) (N := some 71) (v := ?_) (a' := ?_) #[true, true, true, true, true, true, true, true, false, false, false, false, false, false, false, false] rfl rfl (any_of HT_.out (by kernel_rfl)) (fun _ _ _ h => h) (Or.inl ⟨by rfl, ?_⟩) ?_ ?_
                rotate_left
                · intro w'
                  go_simp
                  with_reducible rfl
                rotate_left
                · simp only [Act.put, List.setIfInBounds_toArray, List.set_cons_zero, List.set_cons_succ, i64_w, i32_w]
                  rfl
                refine pure_ (i := 8) (N := some 72) (v := ?_) (a' := ?_) #[true, true, true, true, true, true, true, true, true, false, false, false, false, false, false, false] rfl rfl (any_of HT_.out (by kernel_rfl)) (fun _ _ _ h => h) (Or.inl ⟨by rfl, ?_⟩) ?_ ?_
                rotate_left
                · intro w'
                  go_simp
                  with_reducible rfl
                rotate_left
                · simp only [Act.put, List.setIfInBounds_toArray, List.set_cons_zero, List.set_cons_succ, i64_w, i32_w]
                  rfl
                refine pure_ (i := 10) (N := some 74) (v := ?_) (a' := ?_) #[true, true, true, true, true, true, true, true, true, false, true, false, false, false, false, false] rfl rfl (any_of HT_.out (by kernel_rfl)) (fun _ _ _ h => h) (Or.inl ⟨by rfl, ?_⟩) ?_ ?_
                rotate_left
                · intro w'
                  go_simp
                  with_reducible rfl
                rotate_left
                · simp only [Act.put, List.setIfInBounds_toArray, List.set_cons_zero, List.set_cons_succ, i64_w, i32_w]
                  rfl
                refine pure_ (i := 11) (N := some 75) (v := ?_) (a' := ?_) #[true, true, true, true, true, true, true, true, true, false, true, true, false, false, false, false] rfl rfl (any_of HT_.out (by kernel_rfl)) (fun _ _ _ h => h) (Or.inl ⟨by rfl, ?_⟩) ?_ ?_
                rotate_left
                · intro w'
                  go_simp
                  with_reducible rfl
                rotate_left
                · simp only [Act.put, List.setIfInBounds_toArray, List.set_cons_zero, List.set_cons_succ, i64_w, i32_w]
                  rfl
                refine inv_at [9, 12, 13, 14, 15] (fun a0_ b a w' => a = putSel a0_ b [(9, 73, .slice (some ay) y.length cY), (12, 76, .int .u8 (sgk k)), (13, 77, .bool false), (14, 78, .bool true), (15, 79, .bool true)] ∧ (b 13 = false → w' = wd) ∧ (b 13 = true → Below wd.heap.size wd w')) HT_.out HW_.out (by kernel_rfl) (by kernel_rfl) ?_ ?_ ?_
                · exact ⟨by simp only [putSel, Bool.false_eq_true, if_false], fun _ => rfl, fun h_ => absurd h_ (by decide)⟩
                · skip
                  clear E0
                  refine steps_cons ?_ ?_
                  · rintro b a w' ⟨ha, Q_E0, Q_E1⟩ hb_ hon hoff
                    refine ⟨_, rfl, fun K hK => ?_⟩
                    have e72 : a.tmps[72]? = some (.pointer (some (al.add jj.toNat))) := by rw [ha]; exact (putSel_off rfl).trans rfl
                    have e68 : a.tmps[68]? = some (.bool false) := by rw [ha]; exact (putSel_off rfl).trans rfl
                    replace ha := Aside0.mk ha
                    have E0 := Aside0.mk (Q_E0 (hoff 13 (by kernel_rfl)))
                    have hw_ := E0.out
                    have hc_ := hy0
                    rw [← hw_] at hc_
                    refine value_ (w1 := w') (v := .slice (some ay) y.length cY) (wanted_on rfl rfl rfl (e68.trans (by first | rfl | (simp [*]; done)))) rfl ?_ ?_
                    · go_simp
                      (try simp only [i64_w])
                      try rfl
                    refine hK.out _ _ ⟨(by rw [ha.out]; exact putSel_upk 0 hb_ rfl rfl rfl), Q_E0, fun h0_ => absurd ((hoff 13 (by kernel_rfl)).symm.trans h0_) (by decide)⟩
                  refine steps_cons ?_ ?_
                  · rintro b a w' ⟨ha, Q_E0, Q_E1⟩ hb_ hon hoff
                    refine ⟨_, rfl, fun K hK => ?_⟩
                    have e75 : a.tmps[75]? = some (.pointer (some ⟨gs, kk.toNat, none⟩)) := by rw [ha]; exact (putSel_off rfl).trans rfl
                    have e68 : a.tmps[68]? = some (.bool false) := by rw [ha]; exact (putSel_off rfl).trans rfl
                    replace ha := Aside0.mk ha
                    have E0 := Aside0.mk (Q_E0 (hoff 13 (by kernel_rfl)))
                    have hw_ := E0.out
                    have hc_ := hs0
                    rw [← hw_] at hc_
                    refine value_ (w1 := w') (v := .int .u8 (sgk k)) (wanted_on rfl rfl rfl (e68.trans (by first | rfl | (simp [*]; done)))) rfl ?_ ?_
                    · go_simp
                      (try simp only [i64_w])
                      try rfl
                    refine hK.out _ _ ⟨(by rw [ha.out]; exact putSel_upk 1 hb_ rfl rfl rfl), Q_E0, fun h0_ => absurd ((hoff 13 (by kernel_rfl)).symm.trans h0_) (by decide)⟩
                  refine steps_cons ?_ ?_
                  · rintro b a w' ⟨ha, Q_E0, Q_E1⟩ hb_ hon hoff
                    refine ⟨_, rfl, fun K hK => ?_⟩
                    have e69 : a.tmps[69]? = some (.int .i64 (N : Int)) := by rw [ha]; exact (putSel_off rfl).trans rfl
                    have e73 : a.tmps[73]? = some (.slice (some ay) y.length cY) := by rw [ha]; exact putSel_on (e := (9, 73, .slice (some ay) y.length cY)) 0 rfl rfl (hon 9 (by kernel_rfl)) rfl
                    have e76 : a.tmps[76]? = some (.int .u8 (sgk k)) := by rw [ha]; exact putSel_on (e := (12, 76, .int .u8 (sgk k))) 1 rfl rfl (hon 12 (by kernel_rfl)) rfl
                    have e68 : a.tmps[68]? = some (.bool false) := by rw [ha]; exact (putSel_off rfl).trans rfl
                    replace ha := Aside0.mk ha
                    have E0 := Aside0.mk (Q_E0 hb_)
                    have hw_ := E0.out
                    refine goes_ Tryd.func29 (by kernel_rfl) rfl #[.int .i64 (N : Int), .slice (some ay) y.length cY, .int .u8 (sgk k)] (wanted_on rfl rfl rfl (e68.trans (by first | rfl | (simp [*]; done)))) rfl rfl (by first | (simp only [List.map_toArray, List.map_cons, List.map_nil, Act.eval, Array.getD_eq_getD_getElem?, Option.getD_some, e69, e73, e76, e68]; done) | (simp only [List.map_toArray, List.map_cons, List.map_nil, Act.eval, Array.getD_eq_getD_getElem?, Option.getD_some, e69, e73, e76, e68]; rfl)) ?_
                    refine (hw_ ▸ HIS.out).mono ?_
                    rintro e w24 ⟨rfl, hb⟩
                    refine ⟨_, rfl, ?_⟩
                    have E3_ : Below wd.heap.size wd w24 := hw_ ▸ hb
                    refine hK.out _ _ ⟨(by rw [ha.out]; exact putSel_upk 2 hb_ rfl rfl rfl), fun h0_ => absurd ((up_self b 13).symm.trans h0_) (by decide), fun _ => E3_⟩
                  refine steps_cons ?_ ?_
                  · rintro b a w' ⟨ha, Q_E0, Q_E1⟩ hb_ hon hoff
                    refine ⟨_, rfl, fun K hK => ?_⟩
                    have e77 : a.tmps[77]? = some (.bool false) := by rw [ha]; exact putSel_on (e := (13, 77, .bool false)) 2 rfl rfl (hon 13 (by kernel_rfl)) rfl
                    have e68 : a.tmps[68]? = some (.bool false) := by rw [ha]; exact (putSel_off rfl).trans rfl
                    replace ha := Aside0.mk ha
                    have E1 := Aside0.mk (Q_E1 (hon 13 (by kernel_rfl)))
                    refine value_ (w1 := w') (v := .bool true) (wanted_on rfl rfl rfl (e68.trans (by first | rfl | (simp [*]; done)))) rfl ?_ ?_
                    · go_simp
                      (try simp only [i64_w])
                      try rfl
                    refine hK.out _ _ ⟨(by rw [ha.out]; exact putSel_upk 3 hb_ rfl rfl rfl), fun h0_ => absurd ((hon 13 (by kernel_rfl)).symm.trans h0_) (by decide), Q_E1⟩
                  refine steps_cons ?_ ?_
                  · rintro b a w' ⟨ha, Q_E0, Q_E1⟩ hb_ hon hoff
                    refine ⟨_, rfl, fun K hK => ?_⟩
                    have e68 : a.tmps[68]? = some (.bool false) := by rw [ha]; exact (putSel_off rfl).trans rfl
                    have e78 : a.tmps[78]? = some (.bool true) := by rw [ha]; exact putSel_on (e := (14, 78, .bool true)) 3 rfl rfl (hon 14 (by kernel_rfl)) rfl
                    replace ha := Aside0.mk ha
                    have E1 := Aside0.mk (Q_E1 (hon 13 (by kernel_rfl)))
                    refine value_ (w1 := w') (v := .bool true) (by rfl) rfl ?_ ?_
                    · go_simp
                      (try simp only [i64_w])
                      try rfl
                    refine hK.out _ _ ⟨(by rw [ha.out]; exact putSel_upk 4 hb_ rfl rfl rfl), fun h0_ => absurd ((hon 13 (by kernel_rfl)).symm.trans h0_) (by decide), Q_E1⟩
                  exact steps_nil
                · rintro b a w' hall ⟨ha, Q_E0, Q_E1⟩
                  clear E0
                  have hb9_ := hall 9 (by kernel_rfl)
                  have hb12_ := hall 12 (by kernel_rfl)
                  have hb13_ := hall 13 (by kernel_rfl)
                  have hb14_ := hall 14 (by kernel_rfl)
                  have hb15_ := hall 15 (by kernel_rfl)
                  subst ha
                  simp only [putSel, hb9_, hb12_, hb13_, hb14_, hb15_, if_true, Act.put, List.setIfInBounds_toArray, List.set_cons_zero, List.set_cons_succ]
                  clear Q_E0
                  have E1 := Aside0.mk (Q_E1 hb13_)
                  clear Q_E1
                  clear hall hb9_ hb12_ hb13_ hb14_ hb15_
                  go_wp2
                  refine bodyPost_ret (results_tmp2 rfl _ _ _) rfl ?_
                  have hR0 : R = ([], 5) := by
                    rw [HRES.out, rdAll_none (show rdAll N (L.take (j + 1)) ([], 0) = none by rw [rdAll_next hst.out hyj.out]; exact stk_bad hN1.out hk.out (hmk.out hk.out y hyj.out) hy.out)]
                  rw [hR0]
                  have hbz : Below w2.heap.size w2 w' := hBd.out.below.trans (below_lo E1.out hBd.out.below.size)
                  exact ⟨none, 0, rfl, Nat.zero_le _, Kd.C_nil kP _, hB2.out.trans (below_lo hbz hB2.out.size)⟩
            · have hjnb := eq_false hjn
              have hjge := eq_true (show (L.length : Int) ≤ jj by omega)
              go_wp2
              have E0 := trivial
              refine start_ (n := 16) (S := fun w' => True) (ds := []) #[false, false, false, false, false, false, false, false, false, false, false, false, false, false, false, false] (by kernel_rfl) rfl rfl trivial (fun hHeld => ?_)
              refine with_tabW rref.tab18 rref.bits18 (fun HT_ HW_ => ?_)
              generalize wc.drew = wd at hBd hHeld ⊢
              refine pure_ (i := 0) (N := some 64) (v := ?_) (a' := ?_) #[true, false, false, false, false, false, false, false, false, false, false, false, false, false, false, false] rfl rfl (any_of HT_.out (by kernel_rfl)) (fun _ _ _ h => h) (Or.inl ⟨by rfl, ?_⟩) ?_ ?_
              rotate_left
              · intro w'
                go_simp
                with_reducible rfl
              rotate_left
              · simp only [Act.put, List.setIfInBounds_toArray, List.set_cons_zero, List.set_cons_succ, i64_w, i32_w]
                rfl
              refine pure_ (i := 1) (N := some 65) (v := ?_) (a' := ?_) #[true, true, false, false, false, false, false, false, false, false, false, false, false, false, false, false] rfl rfl (any_of HT_.out (by kernel_rfl)) (fun _ _ _ h => h) (Or.inl ⟨by rfl, ?_⟩) ?_ ?_
              rotate_left
              · intro w'
                go_simp
                with_reducible rfl
              rotate_left
              · simp only [Act.put, List.setIfInBounds_toArray, List.set_cons_zero, List.set_cons_succ, i64_w, i32_w]
                rfl
              refine pure_ (i := 2) (N := some 66) (v := ?_) (a' := ?_) #[true, true, true, false, false, false, false, false, false, false, false, false, false, false, false, false] rfl rfl (any_of HT_.out (by kernel_rfl)) (fun _ _ _ h => h) (Or.inl ⟨by rfl, ?_⟩) ?_ ?_
              rotate_left
              · intro w'
                go_simp
                with_reducible rfl
              rotate_left
              · simp only [Act.put, List.setIfInBounds_toArray, List.set_cons_zero, List.set_cons_succ, i64_w, i32_w]
                rfl
              refine pure_ (i := 3) (N := some 67) (v := ?_) (a' := ?_) #[true, true, true, true, false, false, false, false, false, false, false, false, false, false, false, false] rfl rfl (any_of HT_.out (by kernel_rfl)) (fun _ _ _ h => h) (Or.inl ⟨by rfl, ?_⟩) ?_ ?_
              rotate_left
              · intro w'
                go_simp
                with_reducible rfl
              rotate_left
              · simp only [Act.put, List.setIfInBounds_toArray, List.set_cons_zero, List.set_cons_succ, i64_w, i32_w]
                rfl
              refine pure_ (i := 4) (N := some 68) (v := ?_) (a' := ?_) #[true, true, true, true, true, false, false, false, false, false, false, false, false, false, false, false] rfl rfl (any_of HT_.out (by kernel_rfl)) (fun _ _ _ h => h) (Or.inl ⟨by rfl, ?_⟩) ?_ ?_
              rotate_left
              · intro w'
                go_simp
                with_reducible rfl
              rotate_left
              · simp only [Act.put, List.setIfInBounds_toArray, List.set_cons_zero, List.set_cons_succ, i64_w, i32_w]
                rfl
              refine pure_ (i := 5) (N := some 69) (v := undef) (a' := ?_) #[true, true, true, true, true, true, false, false, false, false, false, false, false, false, false, false] rfl rfl (any_of HT_.out (by kernel_rfl)) (fun _ _ _ h => h) (Or.inr ⟨by rfl, rfl⟩) ?_ ?_
              rotate_left
              · simp only [Act.put, List.setIfInBounds_toArray, List.set_cons_zero, List.set_cons_succ, i64_w, i32_w]
                rfl
              refine pure_ (i := 6) (N := some 70) (v := undef) (a' := ?_) #[true, true, true, true, true, true, true, false, false, false, false, false, false, false, false, false] rfl rfl (any_of HT_.out (by kernel_rfl)) (fun _ _ _ h => h) (Or.inr ⟨by rfl, rfl⟩) ?_ ?_
              rotate_left
              · simp only [Act.put, List.setIfInBounds_toArray, List.set_cons_zero, List.set_cons_succ, i64_w, i32_w]
                rfl
              refine pure_ (i := 7) (N := some 71) (v := undef) (a' := ?_) #[true, true, true, true, true, true, true, true, false, false, false, false, false, false, false, false] rfl rfl (any_of HT_.out (by kernel_rfl)) (fun _ _ _ h => h) (Or.inr ⟨by rfl, rfl⟩) ?_ ?_
              rotate_left
              · simp only [Act.put, List.setIfInBounds_toArray, List.set_cons_zero, List.set_cons_succ, i64_w, i32_w]
                rfl
              refine pure_ (i := 8) (N := some 72) (v := undef) (a' := ?_) #[true, true, true, true, true, true, true, true, true, false, false, false, false, false, false, false] rfl rfl (any_of HT_.out (by kernel_rfl)) (fun _ _ _ h => h) (Or.inr ⟨by rfl, rfl⟩) ?_ ?_
              rotate_left
              · simp only [Act.put, List.setIfInBounds_toArray, List.set_cons_zero, List.set_cons_succ, i64_w, i32_w]
                rfl
              refine pure_ (i := 9) (N := some 73) (v := undef) (a' := ?_) #[true, true, true, true, true, true, true, true, true, true, false, false, false, false, false, false] rfl rfl (any_of HT_.out (by kernel_rfl)) (fun _ _ _ h => h) (Or.inr ⟨by rfl, rfl⟩) ?_ ?_
              rotate_left
              · simp only [Act.put, List.setIfInBounds_toArray, List.set_cons_zero, List.set_cons_succ, i64_w, i32_w]
                rfl
              refine pure_ (i := 10) (N := some 74) (v := undef) (a' := ?_) #[true, true, true, true, true, true, true, true, true, true, true, false, false, false, false, false] rfl rfl (any_of HT_.out (by kernel_rfl)) (fun _ _ _ h => h) (Or.inr ⟨by rfl, rfl⟩) ?_ ?_
              rotate_left
              · simp only [Act.put, List.setIfInBounds_toArray, List.set_cons_zero, List.set_cons_succ, i64_w, i32_w]
                rfl
              refine pure_ (i := 11) (N := some 75) (v := undef) (a' := ?_) #[true, true, true, true, true, true, true, true, true, true, true, true, false, false, false, false] rfl rfl (any_of HT_.out (by kernel_rfl)) (fun _ _ _ h => h) (Or.inr ⟨by rfl, rfl⟩) ?_ ?_
              rotate_left
              · simp only [Act.put, List.setIfInBounds_toArray, List.set_cons_zero, List.set_cons_succ, i64_w, i32_w]
                rfl
              refine pure_ (i := 12) (N := some 76) (v := undef) (a' := ?_) #[true, true, true, true, true, true, true, true, true, true, true, true, true, false, false, false] rfl rfl (any_of HT_.out (by kernel_rfl)) (fun _ _ _ h => h) (Or.inr ⟨by rfl, rfl⟩) ?_ ?_
              rotate_left
              · simp only [Act.put, List.setIfInBounds_toArray, List.set_cons_zero, List.set_cons_succ, i64_w, i32_w]
                rfl
              refine pure_ (i := 13) (N := some 77) (v := undef) (a' := ?_) #[true, true, true, true, true, true, true, true, true, true, true, true, true, true, false, false] rfl rfl (any_of HT_.out (by kernel_rfl)) (fun _ _ _ h => h) (Or.inr ⟨by rfl, rfl⟩) ?_ ?_
              rotate_left
              · simp only [Act.put, List.setIfInBounds_toArray, List.set_cons_zero, List.set_cons_succ, i64_w, i32_w]
                rfl
              refine pure_ (i := 14) (N := some 78) (v := undef) (a' := ?_) #[true, true, true, true, true, true, true, true, true, true, true, true, true, true, true, false] rfl rfl (any_of HT_.out (by kernel_rfl)) (fun _ _ _ h => h) (Or.inr ⟨by rfl, rfl⟩) ?_ ?_
              rotate_left
              · simp only [Act.put, List.setIfInBounds_toArray, List.set_cons_zero, List.set_cons_succ, i64_w, i32_w]
                rfl
              refine inv_at [15] (fun a0_ b a w' => a = putSel a0_ b [(15, 79, .bool true)] ∧ (w' = wd)) HT_.out HW_.out (by kernel_rfl) (by kernel_rfl) ?_ ?_ ?_
              · exact ⟨by simp only [putSel, Bool.false_eq_true, if_false], rfl⟩
              · skip
                clear E0
                refine steps_cons ?_ ?_
                · rintro b a w' ⟨ha, Q_E0⟩ hb_ hon hoff
                  refine ⟨_, rfl, fun K hK => ?_⟩
                  have e68 : a.tmps[68]? = some (.bool true) := by rw [ha]; exact (putSel_off rfl).trans rfl
                  have e78 : a.tmps[78]? = some (undef) := by rw [ha]; exact (putSel_off rfl).trans rfl
                  replace ha := Aside0.mk ha
                  have E0 := Aside0.mk Q_E0
                  refine value_ (w1 := w') (v := .bool true) (by rfl) rfl ?_ ?_
                  · go_simp
                    (try simp only [i64_w])
                    try rfl
                  refine hK.out _ _ ⟨(by rw [ha.out]; exact putSel_upk 0 hb_ rfl rfl rfl), Q_E0⟩
                exact steps_nil
              · rintro b a w' hall ⟨ha, Q_E0⟩
                clear E0
                have hb15_ := hall 15 (by kernel_rfl)
                subst ha
                simp only [putSel, hb15_, if_true, Act.put, List.setIfInBounds_toArray, List.set_cons_zero, List.set_cons_succ]
                have E0 := Aside0.mk Q_E0
                clear Q_E0
                clear hall hb15_
                go_wp2
                refine bodyPost_ret (results_tmp2 rfl _ _ _) rfl ?_
                have hR0 : R = ([], 5) := by
                  have hjl : j = L.length := by have := hjj.out; have := HJ.out.2.1; omega
                  have h3 := hst.out
                  rw [hjl, List.take_length] at h3
                  have hk1 : 1 ≤ k := by
                    rcases Nat.eq_zero_or_pos k with h | h
                    · have := (hp0.out h).2; have := hii.out; omega
                    · exact h
                  rw [HRES.out, h3]
                  have := hk.out
                  rcases k with _ | _ | _ | _ | k
                  · omega
                  · rfl
                  · rfl
                  · rfl
                  · omega
                rw [hR0]
                have hbz : Below w2.heap.size w2 w' := by rw [E0.out]; exact hBd.out.below
                exact ⟨none, 0, rfl, Nat.zero_le _, Kd.C_nil kP _, hB2.out.trans (below_lo hbz hB2.out.size)⟩
          · have hklb := eq_false hkl
            have hk : k = 4 := by have := hkk.out; have := HJ.out.1; omega
            subst hk
            obtain ⟨B1, d1, B2, d2, B3, d3, B4, d4, hb0, hb1, hb2, hb3, hb4, hD⟩ := hBx.out.done
            have hcs : ∀ u ∈ [Value.bool p.region, .slice B1 p.text.length d1, .slice B2 p.s0.length d2, .slice B3 p.s1.length d3, .slice B4 p.s2.length d4], u.oneCell' = true := by simp [Value.oneCell']
            replace hcs := Aside0.mk hcs
            replace hD := Aside0.mk hD
            go_wp2_with ((with_reducible refine gate_builtin (b := .append) (xs := #[.tmp 113, .tmp 115]) rfl ?_); at_builtin; go_must ((refine app_elem rfl (.tmp 113) (.tmp 115) 104 rfl Tryd.underlying27 inf44 (by decide) hD.out hps5.out m hm.out.symm p [.bool p.region, .slice B1 p.text.length d1, .slice B2 p.s0.length d2, .slice B3 p.s1.length d3, .slice B4 p.s2.length d4] rfl hcs.out (fun Z hZ => hZ _ List.mem_cons_self) rfl rfl ?_; intro A5 c5 w5 hI5; replace hI5 := Aside0.mk (AsI.less hI5))))
            go_roundg (L.length - j)
            case rel => exact ⟨_, jj, j, rfl, hjj, HJ.out.2.1, rfl, hst, ⟨sz_end hsz.out hsp.out (hp1.out (by decide))⟩, ⟨fun y' h1 h2 => .inr ⟨ps, p, rfl, hpr.out⟩⟩, hI5⟩
            case measure => have := hp1.out (by decide); have := HJ.out.2.1; have := HX.out.2.2.2.2.2; omega
    · have hi' : i = L.length := by have := hii.out; omega
      have hR0 : R = (ps, 0) := by
        have := hall.out
        rw [hi', List.take_length] at this
        rw [HRES.out, this]; rfl
      replace hR0 := Aside0.mk hR0
      obtain ⟨Ao, co, eo, hoc, hC⟩ := hI.out.out
      subst eo
      have HH := Aside0.mk (⟨hoc, hC, hI.out.below⟩ : _ ∧ _ ∧ _)
      clear hoc hC hi'
      go_wp2
      refine bodyPost_ret (results_tmp2 rfl _ _ _) rfl ?_
      rw [hR0.out]
      exact ⟨Ao, co, rfl, HH.out.1, HH.out.2.1, hB2.out.trans (below_lo HH.out.2.2 hB2.out.size)⟩
 · have hres : readOf n b = ([], 1) := by unfold readOf; rw [if_neg hn]
   obtain ⟨R, hR⟩ : ∃ R, readOf n b = R := ⟨_, rfl⟩
   rw [hR] at hres ⊢
   replace hres := Aside0.mk hres
   clear hR
   by_cases h1 : n < 1
   · have h1b := eq_true h1
     clear hn
     go_enter Tryd.func10, Tryd.ntmps10
     go_wp2
     refine bodyPost_ret (results_tmp2 rfl _ _ _) rfl ?_
     rw [hres.out]
     exact ⟨none, 0, rfl, Nat.zero_le _, Kd.C_nil kP _, Below.refl _ _⟩
   · have h1b := eq_false h1
     have h2 : 16777216 < n := by omega
     have h2b := eq_true h2
     clear hn
     go_enter Tryd.func10, Tryd.ntmps10
     go_wp2
     refine bodyPost_ret (results_tmp2 rfl _ _ _) rfl ?_
     rw [hres.out]
     exact ⟨none, 0, rfl, Nat.zero_le _, Kd.C_nil kP _, Below.refl _ _⟩
end Go.Proofs.YtnnnbeimehfiiaaDoor.Q

-- Written by a program of this session (wip/gen_same.py) for this claim; Lean checks it.
/-! scarfref18.Same at two slices that hold the same parts: true. -/
set_option linter.unusedVariables false
set_option linter.unusedSimpArgs false
namespace Go.Proofs.YtnnnbeimehfiiaaDoor.Q
open Go Go.RowKit Go.BigFrame Go.Proofs.YtnnnbeimehfiiaaDoorW.PrintWords Go.Proofs.YtnnnbeimehfiiaaDoorW.PrintLast Go.Proofs.YtnnnbeimehfiiaaDoorW.PrintMore Go.Proofs.YtnnnbeimehfiiaaDoorW.SL
set_option maxHeartbeats 16000000 in
set_option maxRecDepth 100000 in
theorem same_calls (A B : Option Addr) (c d : Nat) (xs : List Pt) (w : World) (hx : Kd.C kP w A xs.length xs) (hy : Kd.C kP w B xs.length xs) :
    Calls Tryd.prog 12 #[.slice A xs.length c, .slice B xs.length d] w fun e w' => e = .returned (.bool true) ∧ Below w.heap.size w w' := by
  have HX := Aside0.mk (Kd.C_F kP_heap hx)
  have HY := Aside0.mk (Kd.C_F kP_heap hy)
  clear hx hy
  go_enter Tryd.func12, Tryd.ntmps12
  go_wp2
  go_loopg [5] xs.length (fun kq v5 w'' => ∃ (ii : Int) (i : Nat), v5 = .int .i64 ii ∧ Aside0 (ii = (i : Int)) ∧ i ≤ xs.length ∧ kq = xs.length - i ∧ Below w.heap.size w w'')
  case atStart => exact ⟨0, 0, rfl, ⟨rfl⟩, Nat.zero_le _, rfl, Below.refl _ _⟩
  case round =>
    obtain ⟨ii, i, rfl, hii, hi, hgk, hb⟩ := hrel
    obtain ⟨wb, rfl⟩ : ∃ q, q = wr := ⟨_, rfl⟩
    by_cases hin : ii < (xs.length : Int)
    · have p0 : 0 ≤ ii := by have := hii.out; omega
      have HB := Aside0.mk hb
      obtain ⟨ad, x, A1, c1, A2, c2, A3, c3, A4, c4, rfl, hxi, hok, hx0, hx1, hx2, hx3, hx4, g1, g2, g3, g4⟩ := at_Pt (Kd.F_step HX.out (fun k hk _ => hb.block k hk)) ii p0 hin
      obtain ⟨bd, y, B1, d1, B2, d2, B3, d3, B4, d4, rfl, hyi, hok2, hy0, hy1, hy2, hy3, hy4, k1, k2, k3, k4⟩ := at_Pt (Kd.F_step HY.out (fun k hk _ => hb.block k hk)) ii p0 hin
      have exy : y = x := by rw [hxi] at hyi; exact (Option.some.inj hyi).symm
      subst exy
      have HXY := Aside0.mk (⟨hxi, hi, hgk⟩ : _ ∧ _ ∧ _)
      clear hxi hyi hi hgk hok hok2 hb
      have hcx1 := fun n => Kd.C_string (P := Tryd.prog) (w := wb.drewN n) (A := A1) (c := c1) Tryd.underlying22 Tryd.underlying5 Tryd.underlying9 (Kd.F_now (Kd.F_drewN g1.2 n))
      have hcy1 := fun n => Kd.C_string (P := Tryd.prog) (w := wb.drewN n) (A := B1) (c := d1) Tryd.underlying22 Tryd.underlying5 Tryd.underlying9 (Kd.F_now (Kd.F_drewN k1.2 n))
      have hcx2 := fun n => Kd.C_string (P := Tryd.prog) (w := wb.drewN n) (A := A2) (c := c2) Tryd.underlying22 Tryd.underlying5 Tryd.underlying9 (Kd.F_now (Kd.F_drewN g2.2 n))
      have hcy2 := fun n => Kd.C_string (P := Tryd.prog) (w := wb.drewN n) (A := B2) (c := d2) Tryd.underlying22 Tryd.underlying5 Tryd.underlying9 (Kd.F_now (Kd.F_drewN k2.2 n))
      have hcx3 := fun n => Kd.C_string (P := Tryd.prog) (w := wb.drewN n) (A := A3) (c := c3) Tryd.underlying22 Tryd.underlying5 Tryd.underlying9 (Kd.F_now (Kd.F_drewN g3.2 n))
      have hcy3 := fun n => Kd.C_string (P := Tryd.prog) (w := wb.drewN n) (A := B3) (c := d3) Tryd.underlying22 Tryd.underlying5 Tryd.underlying9 (Kd.F_now (Kd.F_drewN k3.2 n))
      have hcx4 := fun n => Kd.C_string (P := Tryd.prog) (w := wb.drewN n) (A := A4) (c := c4) Tryd.underlying22 Tryd.underlying5 Tryd.underlying9 (Kd.F_now (Kd.F_drewN g4.2 n))
      have hcy4 := fun n => Kd.C_string (P := Tryd.prog) (w := wb.drewN n) (A := B4) (c := d4) Tryd.underlying22 Tryd.underlying5 Tryd.underlying9 (Kd.F_now (Kd.F_drewN k4.2 n))
      obtain ⟨rx, hrx⟩ : ∃ q, y.region = q := ⟨_, rfl⟩
      rw [hrx] at hx0 hy0
      replace hrx := Aside0.mk hrx
      clear g1 g2 g3 g4 k1 k2 k3 k4
      have hin2 := eq_true hin
      have p02 := eq_true p0
      go_upto_region 6 with (fail)
      simp only [List.append_eq, List.cons_append, List.nil_append]
      go_big_quiet (fail)
      have hbq : Below w.heap.size w (wb.drewN nq) := HB.out.trans (pw_below_drewN (Below.refl _ _) nq)
      obtain ⟨wq, hwq⟩ : ∃ q, wb.drewN nq = q := ⟨_, rfl⟩
      rw [hwq] at hbq ⊢
      obtain ⟨_, hi, hgk⟩ := HXY.out
      have hw1 : wrap64 (ii + 1) = ii + 1 := by have := Kd.F_max HX.out; unfold wrap64; omega
      go_wp2
      go_roundg (xs.length - (i + 1))
      case rel => exact ⟨wrap64 (ii + 1), i + 1, by first | rfl | (simp; done) | (simp [hw1]; done), ⟨by rw [hw1]; have := hii.out; omega⟩, by have := hii.out; omega, rfl, hbq⟩
      case measure => have := hii.out; omega
    · have hi' : i = xs.length := by have := hii.out; omega
      go_wp2
      go_ret
      exact ⟨rfl, hb⟩
end Go.Proofs.YtnnnbeimehfiiaaDoor.Q

/-! mark's page: what lies in it; its methods. -/
set_option linter.unusedVariables false
set_option linter.unusedSimpArgs false
namespace Go.Proofs.YtnnnbeimehfiiaaDoor.Q
open Go Go.RowKit Go.Proofs.YtnnnbeimehfiiaaDoorW.PrintWords Go.Proofs.YtnnnbeimehfiiaaDoorW.PrintLast Go.Proofs.YtnnnbeimehfiiaaDoorW.PrintMore Go.Proofs.YtnnnbeimehfiiaaDoorW.SL
attribute [local go_sem] max2_int min2_int max_two min_two max_three min_three max_four min_four
/-- A page in block b (of the call's own, from B on) that holds the bytes l. -/
def Pg (B b : Nat) (l : List Int) (w : World) : Prop := LibA.IsBuffer 73 (fun _ => none) 5 B b 0 (l.map (Value.int .u8)) w
theorem us_one (l : List Int) : ∀ v ∈ l.map (Value.int .u8), v.oneCell' = true := fun v hv => by obtain ⟨_, _, rfl⟩ := List.mem_map.1 hv; rfl
/-- What a page's method leaves as it was. -/
def Pk (B b : Nat) (w w' : World) : Prop := Below B w w' ∧ Lib.OthersKept 5 (some b) w w'
theorem Pk.refl (B b : Nat) (w : World) : Pk B b w w := ⟨Below.refl _ _, Lib.OthersKept.refl _ _ _⟩
theorem Pk.trans {B b : Nat} {w w1 w2 : World} (h : Pk B b w w1) (k : Pk B b w1 w2) : Pk B b w w2 := ⟨h.1.trans k.1, h.2.trans k.2⟩
theorem Pg.below {B b : Nat} {l : List Int} {w w' : World} (h : Pg B b l w) (hb : Below w.heap.size w w') : Pg B b l w' := by
  obtain ⟨hB, v, lr, h3, ho, hn⟩ := h
  have hlt := h3.lt
  exact ⟨hB, v, lr, h3.of_heap (hb.block b hlt), own_move ho (fun k hk => hb.block k (own_lt ho k hk)), hn⟩
theorem Pk.below {B b : Nat} {w w1 w2 : World} (h : Pk B b w w1) (hB : B ≤ w1.heap.size) (hb : Below w1.heap.size w1 w2) : Pk B b w w2 :=
  ⟨h.1.trans (below_lo hb hB), fun k o hk hb2 ho => by
    have h1 := h.2 k o hk hb2 ho
    rw [hb.block k (Array.getElem?_eq_some_iff.1 h1).1]; exact h1⟩
theorem drewN_below {w w' : World} (h : ∃ n, w' = w.drewN n) : Below w.heap.size w w' := by obtain ⟨n, rfl⟩ := h; exact pw_below_drewN (Below.refl _ _) n
set_option maxHeartbeats 4000000 in
set_option maxRecDepth 100000 in
/-- (*bytes.Buffer).Write at a page. -/
theorem pg_write (B b : Nat) (l x : List Int) (A : Option Addr) (c : Nat) (w : World) (h : Pg B b l w) (hBw : B ≤ w.heap.size) (hx : Kd.C B8 w A x.length x) (hA : x ≠ [] → ∀ a, A = some a → a.block ≠ b) (hlim : l.length + x.length ≤ 140737488355328) :
    Calls Tryd.prog 34 #[.pointer (some ⟨b, 0, none⟩), .slice A x.length c] w fun e w' => e = .returned (.tuple #[.int .i64 (x.length : Int), .nilIface]) ∧ Pg B b (l ++ x) w' ∧ Pk B b w w' := by
  by_cases hx0 : x ≠ []
  · obtain ⟨a, rfl, _⟩ := hx.2.2 (by cases x with | nil => exact absurd rfl hx0 | cons _ _ => simp)
    replace hA := hA hx0
    refine (Any.Buffer_Write_at Tryd.lays180 73 (fun _ => none) B b 0 (l.map (Value.int .u8)) (x.map (Value.int .u8)) a x.length c w h hBw (us_one l) (by simp) (hA a rfl) (fun j v hj => ?_) (us_one x) (by simpa using hlim)).mono ?_
    · have hjl : j < x.length := by have := (List.getElem?_eq_some_iff.1 hj).1; simpa using this
      obtain ⟨ad', he, hc⟩ := Kd.at_int hx (j : Int) (by omega) (by omega)
      injection he with he
      subst he
      simp only [Int.toNat_natCast] at hc
      rw [hc, ← hj, rd_get hjl]
      simp [List.getElem?_eq_getElem hjl]
    · rintro e w' ⟨rfl, h1, h2, h3⟩
      exact ⟨rfl, by unfold Pg; rw [List.map_append]; exact h1, h2, h3⟩
  · have hx0 : x = [] := Classical.not_not.1 hx0
    subst hx0
    obtain ⟨hB, v0, lr, hbk, -, -⟩ := id h
    have c2 : w.cell? ⟨b, 0 + 2, none⟩ = some (.int .i8 lr) := hbk.c2
    have f2 : w.frozen? ⟨b, 0 + 2, none⟩ = false := hbk.f (0 + 2)
    have h' := LibA.IsBuffer.setLast h 0
    have hbel0 : Below B w (w.setCell ⟨b, 0 + 2, none⟩ (.int .i8 0)) := (Below.refl B w).setCell (p := ⟨b, 0 + 2, none⟩) hB _
    have hk0 : Lib.OthersKept 5 (some b) w (w.setCell ⟨b, 0 + 2, none⟩ (.int .i8 0)) := (Lib.OthersKept.refl _ _ w).setCell ⟨b, 0 + 2, none⟩ rfl _
    clear hbk v0
    have hinfo : (Tryd.prog.info? 5).map (·.size) = some 1 := by kernel_rfl
    have hce : ∀ d dLen dCap W c, (Builtin.copy_ #[22, 22] 3 #[.slice d dLen dCap, .slice A 0 c]).run Tryd.prog W = .ok (goInt 0) W := fun d dLen dCap W c => run_copy_none W 22 22 3 5 d A dLen dCap 0 c Tryd.underlying22 hinfo (by simp)
    replace hlim := Aside0.mk hlim
    replace hA := Aside0.mk hA
    replace hx := Aside0.mk hx
    simp only [Nat.zero_add] at *
    go_enter Tryd.func34, Tryd.ntmps34
    go_wp2_with (go_at_call 49; refine (Any.Buffer_tryGrow_at { Tryd.lays180 with } 73 (fun _ => none) B b 0 0 (l.map (Value.int .u8)) _ ?_).mono ?_)
    · exact h'
    rintro e W1 (⟨rfl, xs, hxl, hI, hbel, hk, hg⟩ | ⟨rfl, rfl, hnr⟩)
    · clear h' c2 f2
      have hx0 : xs = [] := List.eq_nil_of_length_eq_zero hxl
      subst hx0
      rw [List.append_nil] at hI
      have hI2 : Pg B b l W1 := hI
      replace hI2 := Aside0.mk hI2
      have hk2 : Pk B b w W1 := ⟨hbel0.trans hbel, hk0.trans hk⟩
      replace hk2 := Aside0.mk hk2
      obtain ⟨-, lr2, hc⟩ := hI.cases
      clear hI hk hbel hg
      rcases hc with ⟨hb0, hbk2⟩ | ⟨g, cap, cur, hbk2, -, -, hnc, hcm, -, -, -⟩
      · have hl0 : l = [] := by simpa using hb0
        subst hl0
        have d0 : W1.cell? ⟨b, 0, none⟩ = some (.slice none 0 0) := hbk2.c0
        go_wp2
        go_ret2
        exact ⟨by first | rfl | simp, by simpa using hI2.out, hk2.out⟩
      · rw [List.length_map] at hbk2 hnc
        have d0 : W1.cell? ⟨b, 0, none⟩ = some (.slice (some ⟨g, 0, none⟩) l.length cap) := hbk2.c0
        unfold maxLen at hcm
        go_wp2
        all_goals (go_ret2; exact ⟨by first | rfl | simp, by simpa using hI2.out, hk2.out⟩)
    · obtain ⟨_, _, _, _, hlt⟩ := hnr
      omega
/-- A string's bytes. -/
def sb (s : ByteArray) : List Int := s.data.toList.map bnum
theorem sb_cells (s : ByteArray) : Lib.byteCells s.data.toList = (sb s).map (Value.int .u8) := by simp [Lib.byteCells, sb, bnum]
theorem sb_len (s : ByteArray) : (sb s).length = s.size := by simp [sb]
theorem pg_str (B b : Nat) (l : List Int) (s : ByteArray) (w : World) (h : Pg B b l w) (hBw : B ≤ w.heap.size) (hlim : l.length + s.size ≤ 140737488355328) :
    Calls Tryd.prog 54 #[.pointer (some ⟨b, 0, none⟩), .string s] w fun e w' => e = .returned (.tuple #[.int .i64 (s.size : Int), .nilIface]) ∧ Pg B b (l ++ sb s) w' ∧ Pk B b w w' := by
  refine (Any.Buffer_WriteString_at Tryd.lays178 73 (fun _ => none) B b 0 (l.map (Value.int .u8)) s w h hBw (us_one l) (by simpa using hlim)).mono ?_
  rintro e w' ⟨rfl, h1, h2, h3⟩
  exact ⟨rfl, by unfold Pg; rw [List.map_append, ← sb_cells]; exact h1, h2, h3⟩
theorem pg_byte (B b : Nat) (l : List Int) (x : Int) (w : World) (h : Pg B b l w) (hBw : B ≤ w.heap.size) (hlim : l.length + 1 ≤ 140737488355328) :
    Calls Tryd.prog 53 #[.pointer (some ⟨b, 0, none⟩), .int .u8 x] w fun e w' => e = .returned .nilIface ∧ Pg B b (l ++ [x]) w' ∧ Pk B b w w' := by
  refine (Any.Buffer_WriteByte_at Tryd.lays179 73 (fun _ => none) B b 0 (l.map (Value.int .u8)) x w h hBw (us_one l) (by simpa using hlim)).mono ?_
  rintro e w' ⟨rfl, h1, h2, h3⟩
  exact ⟨rfl, by unfold Pg; rw [List.map_append]; exact h1, h2, h3⟩
theorem pg_len (B b : Nat) (l : List Int) (w : World) (h : Pg B b l w) :
    Calls Tryd.prog 51 #[.pointer (some ⟨b, 0, none⟩)] w fun e w' => e = .returned (.int .i64 (l.length : Int)) ∧ Below w.heap.size w w' := by
  refine (Any.Buffer_Len_at Tryd.lays181 73 (fun _ => none) B b 0 (l.map (Value.int .u8)) w h).mono ?_
  rintro e w' ⟨rfl, h1⟩
  exact ⟨by rw [List.length_map], drewN_below h1⟩
set_option maxHeartbeats 4000000 in
set_option maxRecDepth 100000 in
theorem pg_bytes (B b : Nat) (l : List Int) (w : World) (h : Pg B b l w) :
    Calls Tryd.prog 52 #[.pointer (some ⟨b, 0, none⟩)] w fun e w' => ∃ A c, e = .returned (.slice A l.length c) ∧ l.length ≤ c ∧ Kd.C B8 w' A l.length l ∧ Below w.heap.size w w' := by
  obtain ⟨hB, v, lr, h3, ho, hn⟩ := h
  obtain ⟨A, c, rfl, hc, hF⟩ := ownF_F (w := w) (Z := fun _ => True) (v := v) (xs := l) ⟨fun _ _ => trivial, by have := own_weaken ho (Nat.zero_le _); simpa [us8] using this⟩
  have hC : ∀ n, Kd.C B8 (w.drewN n) A l.length l := fun n => Kd.C_below (Kd.F_now hF) (pw_below_drewN (Below.refl _ _) n)
  have hC1 : Kd.C B8 w.drew A l.length l := Kd.C_below (Kd.F_now hF) (below_drew1 (Below.refl _ _))
  have hmx : c ≤ 9223372036854775807 := by
    rcases ho.2 with ⟨h1, _⟩ | ⟨g, cap, cur, h1, _, _, _, hcm, _⟩
    · injection h1 with _ _ h1; omega
    · injection h1 with _ _ h1; simp only [maxLen] at hcm; omega
  have c0 : w.cell? ⟨b, 0, none⟩ = some (.slice A l.length c) := h3.c0
  have c1 : w.cell? ⟨b, 1, none⟩ = some (.int .i64 0) := h3.c1
  have mixed := Tryd.lays183.mixed
  have HC := Aside0.mk (⟨hc, hC, hC1⟩ : _ ∧ _ ∧ _)
  have hcl : (l.length : Int) ≤ (c : Int) := by omega
  clear hF ho h3 hn hC hC1 hc
  cases A with
  | none =>
    go_enter Tryd.func52, Tryd.ntmps52
    go_wp2
    go_region_o
    all_goals (go_wp2; go_ret; first | exact ⟨_, _, rfl, HC.out.1, HC.out.2.2, below_drew1 (Below.refl _ _)⟩ | exact ⟨_, _, rfl, HC.out.1, by have := HC.out.2.2; simpa using this, below_drew1 (Below.refl _ _)⟩)
  | some a =>
    go_enter Tryd.func52, Tryd.ntmps52
    go_wp2
    go_region_o
    all_goals (go_wp2; go_ret; first | exact ⟨_, _, rfl, HC.out.1, HC.out.2.2, below_drew1 (Below.refl _ _)⟩ | exact ⟨_, _, rfl, HC.out.1, by have := HC.out.2.2; simpa using this, below_drew1 (Below.refl _ _)⟩)
theorem Tryd.Builder_Extra_105 : Builder.Extra Tryd.prog Tryd.lays105_ren := {
  sizeBuilder := by kernel_rfl
  liesBuilder := by kernel_rfl
  t5 := Tryd.underlying5
  a5 := Tryd.isAgg5
  z5 := Tryd.sizeOf5
  v5 := Tryd.zeroValue5
  infoByte := by kernel_rfl
  cellsByte := by kernel_rfl
  sizeByte := by kernel_rfl
  neB5 := by decide }
/-- strings.Repeat of one byte. -/
theorem rep_calls (x : UInt8) (n : Nat) (w : World) (hn : n ≤ 16777216) : Calls Tryd.prog 55 #[.string ⟨#[x]⟩, .int .i64 (n : Int)] w fun e w' => e = .returned (.string ⟨(List.replicate n x).toArray⟩) ∧ Below w.heap.size w w' := by
  refine (Any.strings_Repeat Tryd.lays105 Tryd.Builder_Extra_105 ⟨#[x]⟩ n w (by omega) (by show 1 * n ≤ _; omega)).mono ?_
  rintro e w' ⟨rfl, h⟩
  refine ⟨?_, h⟩
  have : ∀ k, Lib.repeatL [x] k = List.replicate k x := fun k => by
    induction k with
    | zero => rfl
    | succ k ih => show [x] ++ Lib.repeatL [x] k = _; rw [ih]; rfl
  rw [← this]
end Go.Proofs.YtnnnbeimehfiiaaDoor.Q

-- Written by a program of this session (wip/gen_pg.py) for this claim; Lean checks it.
/-! mark's page: shut, lines, marker, out, walked. -/
set_option linter.unusedVariables false
set_option linter.unusedSimpArgs false
namespace Go.Proofs.YtnnnbeimehfiiaaDoor.Q
open Go Go.RowKit Go.Proofs.YtnnnbeimehfiiaaDoorW.PrintWords Go.Proofs.YtnnnbeimehfiiaaDoorW.PrintLast Go.Proofs.YtnnnbeimehfiiaaDoorW.PrintMore Go.Proofs.YtnnnbeimehfiiaaDoorW.SL
attribute [local go_sem] max2_int min2_int max_two min_two max_three min_three max_four min_four
def mmark.T0 : Bool × List (List Nat × List Nat) := (true, [([], []), ([0], [0]), ([1], [1]), ([], []), ([], []), ([3, 4], [3, 4]), ([2, 5, 5], [2, 5])])
def mmark.B0 : List Nat := [0, 1, 3, 0, 0, 24, 63]
theorem mmark.tab0 : rtab .any (opsOf Tryd.f36 0) = mmark.T0 := by kernel_rfl
theorem mmark.bits0 : waitsOk mmark.T0.2 mmark.B0 = true := by kernel_rfl
/-- A newline behind the last line, if it lacks one. -/
def endNl (l : List Int) : List Int := match l.getLast? with | some x => if x = 10 then l else l ++ [10] | none => []
theorem endNl_nil : endNl [] = [] := rfl
theorem endNl_snoc (r : List Int) (x : Int) : endNl (r ++ [x]) = if x = 10 then r ++ [x] else r ++ [x] ++ [10] := by simp [endNl]
theorem last_C {w : World} {A : Option Addr} {r : List Int} {x : Int} (h : Kd.C B8 w A (r ++ [x]).length (r ++ [x])) : ∃ ad, A = some ad ∧ w.cell? (ad.add r.length) = some (.int .u8 x) := by
  obtain ⟨ad, hA, hc⟩ := Kd.at_int h (r.length : Int) (by omega) (by simp; omega)
  refine ⟨ad, hA, ?_⟩
  simp only [Int.toNat_natCast] at hc
  rw [hc, rd_get (by simp)]
  simp
theorem Pk.of_below {B b : Nat} {w w' : World} (hB : B ≤ w.heap.size) (h : Below w.heap.size w w') : Pk B b w w' := (Pk.refl B b w).below hB h
theorem Pg.lt {B b : Nat} {l : List Int} {w : World} (h : Pg B b l w) : b < w.heap.size := LibA.IsBuffer.lt h
theorem Pk.size {B b : Nat} {w w' : World} (h : Pk B b w w') : w.heap.size ≤ w'.heap.size := h.1.size
set_option maxHeartbeats 8000000 in
set_option maxRecDepth 100000 in
theorem shut_calls (B b : Nat) (l : List Int) (w : World) (h : Pg B b l w) (hBw : B ≤ w.heap.size) (hlim : l.length + 1 ≤ 140737488355328) :
    Calls Tryd.prog 35 #[.pointer (some ⟨b, 0, none⟩)] w fun e w' => e = .returned (.tuple #[]) ∧ Pg B b (endNl l) w' ∧ Pk B b w w' := by
  rcases List.eq_nil_or_concat l with rfl | ⟨r, x, hl⟩
  · have H := Aside0.mk h; have HB := Aside0.mk hBw
    clear h hBw hlim
    rw [endNl_nil]
    go_enter Tryd.func35, Tryd.ntmps35
    go_wp2_with (go_at_call 51; refine (pg_len B b [] w H.out).mono ?_; rintro e w1 ⟨rfl, hb1⟩)
    (try simp only [Exit.inBlock, Exit.then])
    refine bodyPost_end (results_none rfl _ _ _) rfl ?_
    exact ⟨rfl, H.out.below hb1, Pk.of_below HB.out hb1⟩
  · have hl2 : l = r ++ [x] := by simpa using hl
    subst hl2
    clear hl
    have hln : (r ++ [x]).length = r.length + 1 := by simp
    have hpos := eq_true (show (0 : Int) < (r.length : Int) + 1 by omega)
    have hw0 : wrap64 (r.length : Int) = (r.length : Int) := by rw [hln] at hlim; unfold wrap64; omega
    have hlt := eq_true (show (r.length : Int) < (r.length : Int) + 1 by omega)
    have LEN : ∀ W, Pg B b (r ++ [x]) W → Calls Tryd.prog 51 #[.pointer (some ⟨b, 0, none⟩)] W fun e w' => e = .returned (.int .i64 ((r.length + 1 : Nat) : Int)) ∧ Below W.heap.size W w' := fun W hW => by
      have := pg_len B b (r ++ [x]) W hW; rwa [hln] at this
    have BYT : ∀ W, Pg B b (r ++ [x]) W → Calls Tryd.prog 52 #[.pointer (some ⟨b, 0, none⟩)] W fun e w' => ∃ ad c, e = .returned (.slice (some ad) (r.length + 1) c) ∧ w'.cell? (ad.add r.length) = some (.int .u8 x) ∧ Below W.heap.size W w' := fun W hW => by
      refine (pg_bytes B b (r ++ [x]) W hW).mono ?_
      rintro e w' ⟨A, c, rfl, hc, hC, hb⟩
      obtain ⟨ad, rfl, hx⟩ := last_C hC
      exact ⟨ad, c, by rw [hln], hx, hb⟩
    have H := Aside0.mk h; have HB := Aside0.mk hBw; have HL := Aside0.mk hlim
    replace LEN := Aside0.mk LEN; replace BYT := Aside0.mk BYT
    clear h hBw hlim hln
    rw [endNl_snoc]
    by_cases hx10 : x = 10
    · subst hx10
      rw [if_pos rfl]
      go_enter Tryd.func35, Tryd.ntmps35
      go_wp2_with (first | (go_at_call 51; refine (LEN.out w H.out).mono ?_; rintro e w1 ⟨rfl, hb1⟩; have H1 := H.out.below hb1) | (go_at_call 52; refine (BYT.out w1 H1).mono ?_; rintro e w2 ⟨ad, c, rfl, hx, hb2⟩; have hb := hb1.trans (below_lo hb2 hb1.size)))
      (try simp only [Exit.inBlock, Exit.then])
      refine bodyPost_end (results_none rfl _ _ _) rfl ?_
      exact ⟨rfl, H.out.below hb, Pk.of_below HB.out hb⟩
    · rw [if_neg hx10]
      have hne := eq_false hx10
      have hbf : (x == 10) = false := by rw [beq_eq_false_iff_ne]; exact hx10
      go_enter Tryd.func35, Tryd.ntmps35
      go_wp2_with (first | (go_at_call 51; refine (LEN.out w H.out).mono ?_; rintro e w1 ⟨rfl, hb1⟩; have H1 := H.out.below hb1) | (go_at_call 52; refine (BYT.out w1 H1).mono ?_; rintro e w2 ⟨ad, c, rfl, hx, hb2⟩; have hb := hb1.trans (below_lo hb2 hb1.size)) | (go_at_call 53; refine (pg_byte B b (r ++ [x]) 10 w2 (H.out.below hb) (Nat.le_trans HB.out hb.size) HL.out).mono ?_; rintro e w3 ⟨rfl, hp3, hk3⟩))
      (try simp only [Exit.inBlock, Exit.then])
      refine bodyPost_end (results_none rfl _ _ _) rfl ?_
      exact ⟨rfl, hp3, (Pk.of_below HB.out hb).trans hk3⟩
set_option maxHeartbeats 8000000 in
set_option maxRecDepth 100000 in
theorem lines_calls (B b : Nat) (l x : List Int) (A : Option Addr) (c : Nat) (w : World) (h : Pg B b l w) (hBw : B ≤ w.heap.size) (hx : Kd.C B8 w A x.length x) (hA : x ≠ [] → ∀ a, A = some a → a.block ≠ b) (hlim : l.length + x.length + 1 ≤ 140737488355328) :
    Calls Tryd.prog 37 #[.pointer (some ⟨b, 0, none⟩), .slice A x.length c] w fun e w' => e = .returned (.tuple #[]) ∧ Pg B b (endNl (l ++ x)) w' ∧ Pk B b w w' := by
  have H := Aside0.mk h; have HB := Aside0.mk hBw; have HL := Aside0.mk hlim; have HX := Aside0.mk hx; have HA := Aside0.mk hA
  clear h hBw hlim hx hA
  go_enter Tryd.func37, Tryd.ntmps37
  go_wp2_with (first | (go_at_call 34; refine (pg_write B b l x A c w H.out HB.out HX.out HA.out (by have := HL.out; omega)).mono ?_; rintro e w1 ⟨rfl, hp1, hk1⟩) | (go_at_call 35; refine (shut_calls B b (l ++ x) w1 hp1 (Nat.le_trans HB.out hk1.size) (by have := HL.out; simp; omega)).mono ?_; rintro e w2 ⟨rfl, hp2, hk2⟩))
  (try simp only [Exit.inBlock, Exit.then])
  refine bodyPost_end (results_none rfl _ _ _) rfl ?_
  exact ⟨rfl, hp2, hk1.trans hk2⟩
set_option maxHeartbeats 8000000 in
set_option maxRecDepth 100000 in
/-- bytes.Clone. -/
theorem bclone_calls (A : Option Addr) (c : Nat) (xs : List Int) (w : World) (hl : xs.length ≤ 140737488355328) (hr : Kd.C B8 w A xs.length xs) :
    Calls Tryd.prog 56 #[.slice A xs.length c] w fun e w' => ∃ A' c', e = .returned (.slice A' xs.length c') ∧ xs.length ≤ c' ∧ Kd.C B8 w' A' xs.length xs ∧ Below w.heap.size w w' := by
  obtain ⟨i0, hi, hz0, hz1, hz2⟩ := info_parts inf5
  have q22 : ∀ (w : World) (a : Option Addr) (n c n' c' : Nat), (binOp .eql 22 (.slice a n c) (.slice none n' c')).run Tryd.prog w = .ok (.bool a.isNone) w := fun w a n c n' c' => Lib.run_eql_slice_nil w _ _ a n c n' c' Tryd.underlying22
  have HR := Aside0.mk hr
  have HL := Aside0.mk hl
  clear hr hl
  cases A with
  | none =>
    have hx0 : xs = [] := by
      cases xs with
      | nil => rfl
      | cons y r => obtain ⟨a, ha, _⟩ := HR.out.2.2 (by simp); cases ha
    subst hx0
    go_enter Tryd.func56, Tryd.ntmps56
    go_wp2
    go_ret
    exact ⟨none, 0, rfl, Nat.le_refl _, HR.out, Below.refl _ _⟩
  | some ad =>
    go_enter Tryd.func56, Tryd.ntmps56
    go_wp2_with (at_builtin; refine wpList_append_own _ rfl _ _ 22 rfl w.heap.size 5 i0 (.int .u8 0) 1 1 Tryd.underlying22 hi hz0 hz1 hz2 rfl (by decide) _ _ _ rfl (World.ownsRow_made w #[] 0 (Nat.le_refl _) (Nat.zero_le _) rfl) ad xs.length c (xs.map (Value.int .u8)) rfl ?qc1 ?qc2 ?qc3 ?qc4 ?qc5 ?qc6 ?_)
    case qc1 => simp
    case qc2 =>
      intro j u hj
      have hjl : j < xs.length := by
        have := (List.getElem?_eq_some_iff.1 hj).1
        simpa using this
      refine Lib.cell?_alloc_some _ ?_
      obtain ⟨ad', he, hc⟩ := Kd.at_int HR.out (j : Int) (by omega) (by omega)
      injection he with he
      subst he
      simp only [Int.toNat_natCast] at hc
      rw [hc, ← hj]
      simp [rd, List.getD_eq_getElem?_getD, List.getElem?_eq_getElem hjl]
    case qc3 => intro u hu; obtain ⟨x, _, rfl⟩ := List.mem_map.1 hu; rfl
    case qc4 => have := HL.out; unfold maxLen; omega
    case qc5 => have := HL.out; omega
    case qc6 => simp
    intro v' w1 hown hgrow hnil
    have hB := Aside0.mk (((Below.refl _ w).alloc (Nat.le_refl _) _).grown hgrow (by simp) (by intro k hk; simp [Value.ownBlock] at hk; omega))
    obtain ⟨A', c', rfl, hc', hF⟩ := ownF_F (w := w1) (Z := fun _ => True) (v := v') (xs := xs) ⟨fun _ _ => trivial, by have := own_weaken hown (Nat.zero_le _); simpa [us8] using this⟩
    replace hF := Aside0.mk hF
    clear hown hgrow hnil
    go_wp2
    go_ret
    exact ⟨A', c', rfl, hc', Kd.F_now hF.out, hB.out⟩
set_option maxHeartbeats 8000000 in
set_option maxRecDepth 100000 in
theorem out_calls (B b : Nat) (l : List Int) (w : World) (h : Pg B b l w) (hlim : l.length ≤ 140737488355328) :
    Calls Tryd.prog 38 #[.pointer (some ⟨b, 0, none⟩)] w fun e w' => ∃ A' c', e = .returned (.slice A' l.length c') ∧ l.length ≤ c' ∧ Kd.C B8 w' A' l.length l ∧ Below w.heap.size w w' := by
  have H := Aside0.mk h; have HL := Aside0.mk hlim
  clear h hlim
  go_enter Tryd.func38, Tryd.ntmps38
  go_wp2_with (first | (go_at_call 52; refine (pg_bytes B b l w H.out).mono ?_; rintro e w1 ⟨A, c, rfl, hc, hC, hb1⟩; replace hC := Aside0.mk hC) | (go_at_call 56; refine (bclone_calls A c l w1 HL.out hC.out).mono ?_; rintro e w2 ⟨A2, c2, rfl, hc2, hC2, hb2⟩; have HH := Aside0.mk (⟨hc2, hC2, hb1.trans (below_lo hb2 hb1.size)⟩ : _ ∧ _ ∧ _); clear hc2 hC2 hc))
  go_ret
  exact ⟨A2, c2, rfl, HH.out.1, HH.out.2.1, HH.out.2.2⟩
def repB (x : UInt8) (n : Nat) : ByteArray := ⟨(List.replicate n x).toArray⟩
theorem sb_rep (x : UInt8) (n : Nat) : sb (repB x n) = List.replicate n (bnum x) := by simp [sb, repB]
theorem sb_app (a b : ByteArray) : sb (a ++ b) = sb a ++ sb b := by simp [sb]
/-- A marker's line. -/
def mkLine (x : UInt8) (n : Nat) (s : ByteArray) : List Int := List.replicate n (bnum x) ++ (if labB s = ⟨#[]⟩ then [] else 32 :: sb (labB s)) ++ [10]
theorem labB_size (s : ByteArray) : (labB s).size ≤ 200 := by
  show (Lib.trimRightB ((s.data.toList.take 200).map fixC) 32).toArray.size ≤ 200
  have h1 : ∀ (l : List UInt8) (c : UInt8), (Lib.trimRightB l c).length ≤ l.length := fun l c => by
    unfold Lib.trimRightB
    rw [List.length_reverse]
    exact Nat.le_trans (List.dropWhile_sublist _).length_le (by simp)
  rw [List.size_toArray]
  refine Nat.le_trans (h1 _ _) ?_
  rw [List.length_map, List.length_take]
  omega
set_option maxHeartbeats 8000000 in
set_option maxRecDepth 100000 in
theorem marker_calls (B pb : Nat) (l : List Int) (x : UInt8) (n : Nat) (s : ByteArray) (w : World) (h : Pg B pb l w) (hBw : B ≤ w.heap.size) (hn : n ≤ 16777216) (hs : s.size ≤ 9223372036854775807) (hlim : l.length + n + 300 ≤ 140737488355328) :
    Calls Tryd.prog 36 #[.pointer (some ⟨pb, 0, none⟩), .string ⟨#[x]⟩, .int .i64 (n : Int), .string s] w fun e w' => e = .returned (.tuple #[]) ∧ Pg B pb (l ++ mkLine x n s) w' ∧ Pk B pb w w' := by
  have hln : (sb (repB x n)).length = n := by rw [sb_rep, List.length_replicate]
  have hsz := labB_size s
  obtain ⟨t, ht⟩ : ∃ t, labB s = t := ⟨_, rfl⟩
  rw [ht] at hsz
  have hml : mkLine x n s = sb (repB x n) ++ (if t = ⟨#[]⟩ then [] else 32 :: sb t) ++ [10] := by unfold mkLine; rw [sb_rep, ht]
  rw [hml]
  have hrs : (repB x n).size = n := by rw [← sb_len]; exact hln
  have H := Aside0.mk h; have HB := Aside0.mk hBw; have HL := Aside0.mk hlim; have HN := Aside0.mk hn; have HS := Aside0.mk hs; have HT := Aside0.mk ht; have HLN := Aside0.mk hln; have HSZ := Aside0.mk hsz; have HRS := Aside0.mk hrs
  clear h hBw hlim hn hs ht hml hln hrs
  obtain ⟨RB, hRB⟩ : ∃ RB, RB = repB x n := ⟨_, rfl⟩
  rw [← hRB] at HLN HRS ⊢
  replace hRB := Aside0.mk hRB
  by_cases ht0 : t = ⟨#[]⟩
  · rw [if_pos ht0]
    subst ht0
    go_enter Tryd.func36, Tryd.ntmps36
    go_wp2
    have E := trivial
    refine start_ (n := 7) (S := fun w' => True) (ds := []) #[false, false, false, false, false, false, false] (by kernel_rfl) rfl rfl trivial (fun hHeld => ?_)
    refine with_tabW mmark.tab0 mmark.bits0 (fun HT_ HW_ => ?_)
    have H1 : Aside0 (Pg B pb l w.drew) := ⟨H.out.below (below_drew1 (Below.refl _ _))⟩
    have HB1 : Aside0 (B ≤ w.drew.heap.size) := ⟨HB.out⟩
    have HK1 : Aside0 (Pk B pb w w.drew) := ⟨Pk.of_below HB.out (below_drew1 (Below.refl _ _))⟩
    generalize w.drew = wd at H1 HB1 HK1 hHeld ⊢
    refine pure_ (i := 0) (N := some 9) (v := ?_) (a' := ?_) #[true, false, false, false, false, false, false] rfl rfl (any_of HT_.out (by kernel_rfl)) (fun _ _ _ h => h) (Or.inl ⟨by rfl, ?_⟩) ?_ ?_
    rotate_left
    · intro w'
      go_simp
      with_reducible rfl
    rotate_left
    · simp only [Act.put, List.setIfInBounds_toArray, List.set_cons_zero, List.set_cons_succ, i64_w, i32_w]
      rfl
    refine pure_ (i := 1) (N := some 10) (v := ?_) (a' := ?_) #[true, true, false, false, false, false, false] rfl rfl (any_of HT_.out (by kernel_rfl)) (fun _ _ _ h => h) (Or.inl ⟨by rfl, ?_⟩) ?_ ?_
    rotate_left
    · intro w'
      go_simp
      with_reducible rfl
    rotate_left
    · simp only [Act.put, List.setIfInBounds_toArray, List.set_cons_zero, List.set_cons_succ, i64_w, i32_w]
      rfl
    refine pure_ (i := 2) (N := some 11) (v := ?_) (a' := ?_) #[true, true, true, false, false, false, false] rfl rfl (any_of HT_.out (by kernel_rfl)) (fun _ _ _ h => h) (Or.inl ⟨by rfl, ?_⟩) ?_ ?_
    rotate_left
    · intro w'
      go_simp
      with_reducible rfl
    rotate_left
    · simp only [Act.put, List.setIfInBounds_toArray, List.set_cons_zero, List.set_cons_succ, i64_w, i32_w]
      rfl
    refine pure_ (i := 3) (N := some 12) (v := ?_) (a' := ?_) #[true, true, true, true, false, false, false] rfl rfl (any_of HT_.out (by kernel_rfl)) (fun _ _ _ h => h) (Or.inl ⟨by rfl, ?_⟩) ?_ ?_
    rotate_left
    · intro w'
      go_simp
      with_reducible rfl
    rotate_left
    · simp only [Act.put, List.setIfInBounds_toArray, List.set_cons_zero, List.set_cons_succ, i64_w, i32_w]
      rfl
    refine pure_ (i := 4) (N := some 13) (v := ?_) (a' := ?_) #[true, true, true, true, true, false, false] rfl rfl (any_of HT_.out (by kernel_rfl)) (fun _ _ _ h => h) (Or.inl ⟨by rfl, ?_⟩) ?_ ?_
    rotate_left
    · intro w'
      go_simp
      with_reducible rfl
    rotate_left
    · simp only [Act.put, List.setIfInBounds_toArray, List.set_cons_zero, List.set_cons_succ, i64_w, i32_w]
      rfl
    refine inv_at [5, 6] (fun a0_ b a w' => a = putSel a0_ b [(5, 14, .string RB), (6, 15, .tuple #[.int .i64 (RB.size : Int), .nilIface])] ∧ (b 6 = false → Below wd.heap.size wd w') ∧ (b 6 = true → Pg B pb (l ++ sb RB) w' ∧ Pk B pb w w')) HT_.out HW_.out (by kernel_rfl) (by kernel_rfl) ?_ ?_ ?_
    · exact ⟨by simp only [putSel, Bool.false_eq_true, if_false], fun _ => Below.refl _ _, fun h_ => absurd h_ (by decide)⟩
    · skip
      clear E
      refine steps_cons ?_ ?_
      · rintro b a w' ⟨ha, Q_E, Q_F⟩ hb_ hon hoff
        refine ⟨_, rfl, fun K hK => ?_⟩
        have e12 : a.tmps[12]? = some (.string ⟨#[x]⟩) := by rw [ha]; exact (putSel_off rfl).trans rfl
        have e13 : a.tmps[13]? = some (.int .i64 (n : Int)) := by rw [ha]; exact (putSel_off rfl).trans rfl
        replace ha := Aside0.mk ha
        have E := Aside0.mk (Q_E (hoff 6 (by kernel_rfl)))
        refine goes_ Tryd.func55 (by kernel_rfl) rfl #[.string ⟨#[x]⟩, .int .i64 (n : Int)] (by rfl) rfl rfl (by first | (simp only [List.map_toArray, List.map_cons, List.map_nil, Act.eval, Array.getD_eq_getD_getElem?, Option.getD_some, e12, e13]; done) | (simp only [List.map_toArray, List.map_cons, List.map_nil, Act.eval, Array.getD_eq_getD_getElem?, Option.getD_some, e12, e13]; rfl)) ?_
        refine (rep_calls x n _ HN.out).mono ?_
        rw [show (⟨(List.replicate n x).toArray⟩ : ByteArray) = RB from hRB.out.symm]
        rintro e w24 ⟨rfl, hb⟩
        refine ⟨_, rfl, ?_⟩
        have E3_ := E.out.trans (below_lo hb E.out.size)
        refine hK.out _ _ ⟨(by rw [ha.out]; exact putSel_upk 0 hb_ rfl rfl rfl), fun _ => E3_, fun h0_ => absurd ((hoff 6 (by kernel_rfl)).symm.trans h0_) (by decide)⟩
      refine steps_cons ?_ ?_
      · rintro b a w' ⟨ha, Q_E, Q_F⟩ hb_ hon hoff
        refine ⟨_, rfl, fun K hK => ?_⟩
        have e11 : a.tmps[11]? = some (.pointer (some ⟨pb, 0, none⟩)) := by rw [ha]; exact (putSel_off rfl).trans rfl
        have e14 : a.tmps[14]? = some (.string RB) := by rw [ha]; exact putSel_on (e := (5, 14, .string RB)) 0 rfl rfl (hon 5 (by kernel_rfl)) rfl
        replace ha := Aside0.mk ha
        have E := Aside0.mk (Q_E hb_)
        refine goes_ Tryd.func54 (by kernel_rfl) rfl #[.pointer (some ⟨pb, 0, none⟩), .string RB] (by rfl) rfl rfl (by first | (simp only [List.map_toArray, List.map_cons, List.map_nil, Act.eval, Array.getD_eq_getD_getElem?, Option.getD_some, e11, e14]; done) | (simp only [List.map_toArray, List.map_cons, List.map_nil, Act.eval, Array.getD_eq_getD_getElem?, Option.getD_some, e11, e14]; rfl)) ?_
        refine (pg_str B pb l RB _ (H1.out.below E.out) (Nat.le_trans HB1.out E.out.size) (by have := HL.out; have := HRS.out; omega)).mono ?_
        rintro e w24 ⟨rfl, hp, hk⟩
        refine ⟨_, rfl, ?_⟩
        have E3_ := And.intro hp (HK1.out.trans ((Pk.of_below HB1.out E.out).trans hk))
        refine hK.out _ _ ⟨(by rw [ha.out]; exact putSel_upk 1 hb_ rfl rfl rfl), fun h0_ => absurd ((up_self b 6).symm.trans h0_) (by decide), fun _ => E3_⟩
      exact steps_nil
    · rintro b a w' hall ⟨ha, Q_E, Q_F⟩
      clear E
      have hb5_ := hall 5 (by kernel_rfl)
      have hb6_ := hall 6 (by kernel_rfl)
      subst ha
      simp only [putSel, hb5_, hb6_, if_true, Act.put, List.setIfInBounds_toArray, List.set_cons_zero, List.set_cons_succ]
      clear Q_E
      have F := Aside0.mk (Q_F hb6_)
      clear Q_F
      clear hall hb5_ hb6_
      go_wp2_with (first | (go_at_call 14; refine (Label_calls s w' HS.out).mono ?_; rw [HT.out]; rintro e w3 ⟨rfl, hb3⟩; have hP3 := F.out.1.below hb3; have hK3 := F.out.2.below (Nat.le_trans HB.out F.out.2.size) hb3) | (go_at_call 53; refine (pg_byte B pb (l ++ sb RB) 10 w3 hP3 (Nat.le_trans HB.out hK3.size) (by have := HL.out; have := HLN.out; simp; omega)).mono ?_; rintro e w4 ⟨rfl, hP4, hK4⟩))
      (try simp only [Exit.inBlock, Exit.then])
      refine bodyPost_end (results_none rfl _ _ _) rfl ?_
      exact ⟨rfl, by simpa using hP4, hK3.trans hK4⟩
  · rw [if_neg ht0]
    have hbne := eq_false ht0
    have hti : t.toList.isEmpty = false := by
      rw [Lib.toList_data, Bool.eq_false_iff]
      intro h_
      apply ht0
      have h2_ := List.isEmpty_iff.1 h_
      cases t with | mk d => congr 1; cases d with | mk dl => simp at h2_; rw [h2_]
    have hsl : (9223372036854775807 < 1 + t.size) = False := eq_false (by have := HSZ.out; omega)
    have hsl2 : (9223372036854775807 < t.size + 1) = False := eq_false (by have := HSZ.out; omega)
    go_enter Tryd.func36, Tryd.ntmps36
    go_wp2
    have E := trivial
    refine start_ (n := 7) (S := fun w' => True) (ds := []) #[false, false, false, false, false, false, false] (by kernel_rfl) rfl rfl trivial (fun hHeld => ?_)
    refine with_tabW mmark.tab0 mmark.bits0 (fun HT_ HW_ => ?_)
    have H1 : Aside0 (Pg B pb l w.drew) := ⟨H.out.below (below_drew1 (Below.refl _ _))⟩
    have HB1 : Aside0 (B ≤ w.drew.heap.size) := ⟨HB.out⟩
    have HK1 : Aside0 (Pk B pb w w.drew) := ⟨Pk.of_below HB.out (below_drew1 (Below.refl _ _))⟩
    generalize w.drew = wd at H1 HB1 HK1 hHeld ⊢
    refine pure_ (i := 0) (N := some 9) (v := ?_) (a' := ?_) #[true, false, false, false, false, false, false] rfl rfl (any_of HT_.out (by kernel_rfl)) (fun _ _ _ h => h) (Or.inl ⟨by rfl, ?_⟩) ?_ ?_
    rotate_left
    · intro w'
      go_simp
      with_reducible rfl
    rotate_left
    · simp only [Act.put, List.setIfInBounds_toArray, List.set_cons_zero, List.set_cons_succ, i64_w, i32_w]
      rfl
    refine pure_ (i := 1) (N := some 10) (v := ?_) (a' := ?_) #[true, true, false, false, false, false, false] rfl rfl (any_of HT_.out (by kernel_rfl)) (fun _ _ _ h => h) (Or.inl ⟨by rfl, ?_⟩) ?_ ?_
    rotate_left
    · intro w'
      go_simp
      with_reducible rfl
    rotate_left
    · simp only [Act.put, List.setIfInBounds_toArray, List.set_cons_zero, List.set_cons_succ, i64_w, i32_w]
      rfl
    refine pure_ (i := 2) (N := some 11) (v := ?_) (a' := ?_) #[true, true, true, false, false, false, false] rfl rfl (any_of HT_.out (by kernel_rfl)) (fun _ _ _ h => h) (Or.inl ⟨by rfl, ?_⟩) ?_ ?_
    rotate_left
    · intro w'
      go_simp
      with_reducible rfl
    rotate_left
    · simp only [Act.put, List.setIfInBounds_toArray, List.set_cons_zero, List.set_cons_succ, i64_w, i32_w]
      rfl
    refine pure_ (i := 3) (N := some 12) (v := ?_) (a' := ?_) #[true, true, true, true, false, false, false] rfl rfl (any_of HT_.out (by kernel_rfl)) (fun _ _ _ h => h) (Or.inl ⟨by rfl, ?_⟩) ?_ ?_
    rotate_left
    · intro w'
      go_simp
      with_reducible rfl
    rotate_left
    · simp only [Act.put, List.setIfInBounds_toArray, List.set_cons_zero, List.set_cons_succ, i64_w, i32_w]
      rfl
    refine pure_ (i := 4) (N := some 13) (v := ?_) (a' := ?_) #[true, true, true, true, true, false, false] rfl rfl (any_of HT_.out (by kernel_rfl)) (fun _ _ _ h => h) (Or.inl ⟨by rfl, ?_⟩) ?_ ?_
    rotate_left
    · intro w'
      go_simp
      with_reducible rfl
    rotate_left
    · simp only [Act.put, List.setIfInBounds_toArray, List.set_cons_zero, List.set_cons_succ, i64_w, i32_w]
      rfl
    refine inv_at [5, 6] (fun a0_ b a w' => a = putSel a0_ b [(5, 14, .string RB), (6, 15, .tuple #[.int .i64 (RB.size : Int), .nilIface])] ∧ (b 6 = false → Below wd.heap.size wd w') ∧ (b 6 = true → Pg B pb (l ++ sb RB) w' ∧ Pk B pb w w')) HT_.out HW_.out (by kernel_rfl) (by kernel_rfl) ?_ ?_ ?_
    · exact ⟨by simp only [putSel, Bool.false_eq_true, if_false], fun _ => Below.refl _ _, fun h_ => absurd h_ (by decide)⟩
    · skip
      clear E
      refine steps_cons ?_ ?_
      · rintro b a w' ⟨ha, Q_E, Q_F⟩ hb_ hon hoff
        refine ⟨_, rfl, fun K hK => ?_⟩
        have e12 : a.tmps[12]? = some (.string ⟨#[x]⟩) := by rw [ha]; exact (putSel_off rfl).trans rfl
        have e13 : a.tmps[13]? = some (.int .i64 (n : Int)) := by rw [ha]; exact (putSel_off rfl).trans rfl
        replace ha := Aside0.mk ha
        have E := Aside0.mk (Q_E (hoff 6 (by kernel_rfl)))
        refine goes_ Tryd.func55 (by kernel_rfl) rfl #[.string ⟨#[x]⟩, .int .i64 (n : Int)] (by rfl) rfl rfl (by first | (simp only [List.map_toArray, List.map_cons, List.map_nil, Act.eval, Array.getD_eq_getD_getElem?, Option.getD_some, e12, e13]; done) | (simp only [List.map_toArray, List.map_cons, List.map_nil, Act.eval, Array.getD_eq_getD_getElem?, Option.getD_some, e12, e13]; rfl)) ?_
        refine (rep_calls x n _ HN.out).mono ?_
        rw [show (⟨(List.replicate n x).toArray⟩ : ByteArray) = RB from hRB.out.symm]
        rintro e w24 ⟨rfl, hb⟩
        refine ⟨_, rfl, ?_⟩
        have E3_ := E.out.trans (below_lo hb E.out.size)
        refine hK.out _ _ ⟨(by rw [ha.out]; exact putSel_upk 0 hb_ rfl rfl rfl), fun _ => E3_, fun h0_ => absurd ((hoff 6 (by kernel_rfl)).symm.trans h0_) (by decide)⟩
      refine steps_cons ?_ ?_
      · rintro b a w' ⟨ha, Q_E, Q_F⟩ hb_ hon hoff
        refine ⟨_, rfl, fun K hK => ?_⟩
        have e11 : a.tmps[11]? = some (.pointer (some ⟨pb, 0, none⟩)) := by rw [ha]; exact (putSel_off rfl).trans rfl
        have e14 : a.tmps[14]? = some (.string RB) := by rw [ha]; exact putSel_on (e := (5, 14, .string RB)) 0 rfl rfl (hon 5 (by kernel_rfl)) rfl
        replace ha := Aside0.mk ha
        have E := Aside0.mk (Q_E hb_)
        refine goes_ Tryd.func54 (by kernel_rfl) rfl #[.pointer (some ⟨pb, 0, none⟩), .string RB] (by rfl) rfl rfl (by first | (simp only [List.map_toArray, List.map_cons, List.map_nil, Act.eval, Array.getD_eq_getD_getElem?, Option.getD_some, e11, e14]; done) | (simp only [List.map_toArray, List.map_cons, List.map_nil, Act.eval, Array.getD_eq_getD_getElem?, Option.getD_some, e11, e14]; rfl)) ?_
        refine (pg_str B pb l RB _ (H1.out.below E.out) (Nat.le_trans HB1.out E.out.size) (by have := HL.out; have := HRS.out; omega)).mono ?_
        rintro e w24 ⟨rfl, hp, hk⟩
        refine ⟨_, rfl, ?_⟩
        have E3_ := And.intro hp (HK1.out.trans ((Pk.of_below HB1.out E.out).trans hk))
        refine hK.out _ _ ⟨(by rw [ha.out]; exact putSel_upk 1 hb_ rfl rfl rfl), fun h0_ => absurd ((up_self b 6).symm.trans h0_) (by decide), fun _ => E3_⟩
      exact steps_nil
    · rintro b a w' hall ⟨ha, Q_E, Q_F⟩
      clear E
      have hb5_ := hall 5 (by kernel_rfl)
      have hb6_ := hall 6 (by kernel_rfl)
      subst ha
      simp only [putSel, hb5_, hb6_, if_true, Act.put, List.setIfInBounds_toArray, List.set_cons_zero, List.set_cons_succ]
      clear Q_E
      have F := Aside0.mk (Q_F hb6_)
      clear Q_F
      clear hall hb5_ hb6_
      go_wp2_with (first | (go_at_call 14; refine (Label_calls s w' HS.out).mono ?_; rw [HT.out]; rintro e w3 ⟨rfl, hb3⟩; have hP3 := F.out.1.below hb3; have hK3 := F.out.2.below (Nat.le_trans HB.out F.out.2.size) hb3) | (go_at_call 54; go_loud (refine (pg_str B pb (l ++ sb RB) _ w3 hP3 (Nat.le_trans HB.out hK3.size) (by have := HL.out; have := HLN.out; have := HSZ.out; have h32_ : (⟨#[32]⟩ : ByteArray).size = 1 := rfl; simp; omega)).mono ?_; rintro e w4 ⟨rfl, hP4, hK4⟩)) | (go_at_call 53; refine (pg_byte B pb _ 10 w4 hP4 (Nat.le_trans HB.out (Nat.le_trans hK3.size hK4.size)) (by have := HL.out; have := HLN.out; have := HSZ.out; have h32_ : (⟨#[32]⟩ : ByteArray).size = 1 := rfl; simp [sb_len]; have := HRS.out; omega)).mono ?_; rintro e w5 ⟨rfl, hP5, hK5⟩))
      (try simp only [Exit.inBlock, Exit.then])
      refine bodyPost_end (results_none rfl _ _ _) rfl ?_
      refine ⟨rfl, ?_, (hK3.trans hK4).trans hK5⟩
      rw [sb_app] at hP5
      have e32 : sb ⟨#[32]⟩ = [32] := rfl
      rw [e32] at hP5
      simpa using hP5
end Go.Proofs.YtnnnbeimehfiiaaDoor.Q

/-! mark.Write in plain Lean; what the walk needs of it. -/
set_option linter.unusedVariables false
set_option linter.unusedSimpArgs false
namespace Go.Proofs.YtnnnbeimehfiiaaDoor.Q
open Go Go.RowKit Go.Proofs.YtnnnbeimehfiiaaDoorW.PrintWords Go.Proofs.YtnnnbeimehfiiaaDoorW.SL
def wrReg (n : Nat) (s0 s1 s2 : ByteArray) (acc : List Int) (p : Pt) : List Int :=
  endNl (endNl (endNl (acc ++ mkLine 60 n s0 ++ p.s0) ++ mkLine 124 n s1 ++ p.s1) ++ mkLine 61 n ⟨#[]⟩ ++ p.s2) ++ mkLine 62 n s2
def wrPart (n : Nat) (s0 s1 s2 : ByteArray) (last : Bool) (acc : List Int) (p : Pt) : List Int :=
  if p.region then wrReg n s0 s1 s2 acc p else if last then acc ++ p.text else endNl (acc ++ p.text)
def wrAll (n : Nat) (s0 s1 s2 : ByteArray) : List Pt → List Int → List Int
  | [], acc => acc
  | p :: r, acc => wrAll n s0 s1 s2 r (wrPart n s0 s1 s2 r.isEmpty acc p)
def writeOf (n : Int) (s0 s1 s2 : ByteArray) (ps : List Pt) : List Int × Int :=
  if n ≥ 1 ∧ n ≤ 16777216 then (wrAll n.toNat s0 s1 s2 ps [], 0) else ([], 1)
theorem endNl_le (l : List Int) : (endNl l).length ≤ l.length + 1 := by
  rcases List.eq_nil_or_concat l with rfl | ⟨r, x, h⟩
  · simp [endNl_nil]
  · have h2 : l = r ++ [x] := by simpa using h
    subst h2
    rw [endNl_snoc]
    split <;> simp
theorem mkLine_le (x : UInt8) (n : Nat) (s : ByteArray) : (mkLine x n s).length ≤ n + 202 := by
  have h1 := labB_size s
  have h2 := sb_len (labB s)
  unfold mkLine
  split <;> simp <;> omega
theorem wrAll_next {n : Nat} {s0 s1 s2 : ByteArray} {ps : List Pt} {i : Nat} {p : Pt} {acc R : List Int} (h : wrAll n s0 s1 s2 (ps.drop i) acc = R) (hp : ps[i]? = some p) : wrAll n s0 s1 s2 (ps.drop (i + 1)) (wrPart n s0 s1 s2 (decide (i + 1 = ps.length)) acc p) = R := by
  have hlt := (List.getElem?_eq_some_iff.1 hp).1
  have hpe := (List.getElem?_eq_some_iff.1 hp).2
  rw [List.drop_eq_getElem_cons hlt, hpe] at h
  rw [← h]
  show _ = wrAll n s0 s1 s2 (ps.drop (i + 1)) (wrPart n s0 s1 s2 (ps.drop (i + 1)).isEmpty acc p)
  congr 2
  by_cases hi : i + 1 = ps.length
  · rw [List.drop_of_length_le (by omega)]; simp [hi]
  · have : ps.drop (i + 1) ≠ [] := by intro h; have := congrArg List.length h; simp at this; omega
    cases hd : ps.drop (i + 1) with
    | nil => exact absurd hd this
    | cons a r => simp [hi]
/-- The box of the part in hand: five cells. -/
def BoxP (g : Nat) (cs : Array Value) (w : World) : Prop := w.heap[g]? = some (.cells cs 50 (0, 0))
theorem BoxP.keep {g : Nat} {cs : Array Value} {w w' : World} (h : BoxP g cs w) (hb : Below w.heap.size w w') : BoxP g cs w' := by
  unfold BoxP at *
  rw [hb.block g (Array.getElem?_eq_some_iff.1 h).1]; exact h
theorem BoxP.pk {g B pb : Nat} {cs : Array Value} {w w' : World} (h : BoxP g cs w) (hg : g ≠ pb) (hk : Pk B pb w w') : BoxP g cs w' :=
  hk.2 g _ h (by intro e; injection e with e; exact hg e) (by intro c fz e; injection e with _ e _; exact absurd e (by decide))
theorem BoxP.cells {g : Nat} {a b c d e : Value} {w : World} (h : BoxP g #[a, b, c, d, e] w) : w.cell? ⟨g, 0, none⟩ = some a ∧ w.cell? ⟨g, 1, none⟩ = some b ∧ w.cell? ⟨g, 2, none⟩ = some c ∧ w.cell? ⟨g, 3, none⟩ = some d ∧ w.cell? ⟨g, 4, none⟩ = some e :=
  ⟨(blk_cell h 0).trans rfl, (blk_cell h 1).trans rfl, (blk_cell h 2).trans rfl, (blk_cell h 3).trans rfl, (blk_cell h 4).trans rfl⟩
theorem row_apart {w : World} {A : Option Addr} {xs : List Int} {m pb : Nat} (h : Kd.F B8 w (fun k => k < m) A xs.length xs) (hm : m ≤ pb) : xs ≠ [] → ∀ a, A = some a → a.block ≠ pb := by
  intro hx a ha
  subst ha
  have hl : 0 < xs.length := by cases xs with | nil => exact absurd rfl hx | cons _ _ => simp
  obtain ⟨a', cs, e, _, _, _, hok⟩ := Kd.F_get h 0 (0 : Int) (by omega) (by omega)
  injection e with e
  subst e
  have := hok (by decide)
  omega
/-- A page with a bound of its length. -/
def Pq (pb m : Nat) (l : List Int) (w : World) : Prop := Pg pb pb l w ∧ pb ≤ w.heap.size ∧ l.length ≤ m
theorem marker_st {pb m : Nat} {l : List Int} {w : World} (h : Pq pb m l w) (x : UInt8) (n : Nat) (s : ByteArray) (hn : n ≤ 16777216) (hs : s.size ≤ 9223372036854775807) (hm : m + 16777600 ≤ 140737488355328) :
    Calls Tryd.prog 36 #[.pointer (some ⟨pb, 0, none⟩), .string ⟨#[x]⟩, .int .i64 (n : Int), .string s] w fun e w' => e = .returned (.tuple #[]) ∧ Pq pb (m + 16777418) (l ++ mkLine x n s) w' ∧ Pk pb pb w w' := by
  refine (marker_calls pb pb l x n s w h.1 h.2.1 hn hs (by have := h.2.2; omega)).mono ?_
  rintro e w' ⟨rfl, h1, h2⟩
  exact ⟨rfl, ⟨h1, Nat.le_trans h.2.1 h2.size, by have := h.2.2; have := mkLine_le x n s; simp; omega⟩, h2⟩
theorem lines_st {pb m : Nat} {l : List Int} {w : World} (h : Pq pb m l w) (x : List Int) (A : Option Addr) (c : Nat) (hx : Kd.C B8 w A x.length x) (hA : x ≠ [] → ∀ a, A = some a → a.block ≠ pb) (hl : x.length ≤ 5000000) (hm : m + 5000001 ≤ 140737488355328) :
    Calls Tryd.prog 37 #[.pointer (some ⟨pb, 0, none⟩), .slice A x.length c] w fun e w' => e = .returned (.tuple #[]) ∧ Pq pb (m + 5000001) (endNl (l ++ x)) w' ∧ Pk pb pb w w' := by
  refine (lines_calls pb pb l x A c w h.1 h.2.1 hx hA (by have := h.2.2; omega)).mono ?_
  rintro e w' ⟨rfl, h1, h2⟩
  exact ⟨rfl, ⟨h1, Nat.le_trans h.2.1 h2.size, by have := h.2.2; have := endNl_le (l ++ x); simp at this ⊢; omega⟩, h2⟩
theorem write_st {pb m : Nat} {l : List Int} {w : World} (h : Pq pb m l w) (x : List Int) (A : Option Addr) (c : Nat) (hx : Kd.C B8 w A x.length x) (hA : x ≠ [] → ∀ a, A = some a → a.block ≠ pb) (hl : x.length ≤ 5000000) (hm : m + 5000001 ≤ 140737488355328) :
    Calls Tryd.prog 34 #[.pointer (some ⟨pb, 0, none⟩), .slice A x.length c] w fun e w' => e = .returned (.tuple #[.int .i64 (x.length : Int), .nilIface]) ∧ Pq pb (m + 5000001) (l ++ x) w' ∧ Pk pb pb w w' := by
  refine (pg_write pb pb l x A c w h.1 h.2.1 hx hA (by have := h.2.2; omega)).mono ?_
  rintro e w' ⟨rfl, h1, h2⟩
  exact ⟨rfl, ⟨h1, Nat.le_trans h.2.1 h2.size, by have := h.2.2; simp; omega⟩, h2⟩
theorem shut_st {pb m : Nat} {l : List Int} {w : World} (h : Pq pb m l w) (hm : m + 5000001 ≤ 140737488355328) :
    Calls Tryd.prog 35 #[.pointer (some ⟨pb, 0, none⟩)] w fun e w' => e = .returned (.tuple #[]) ∧ Pq pb (m + 1) (endNl l) w' ∧ Pk pb pb w w' := by
  refine (shut_calls pb pb l w h.1 h.2.1 (by have := h.2.2; omega)).mono ?_
  rintro e w' ⟨rfl, h1, h2⟩
  exact ⟨rfl, ⟨h1, Nat.le_trans h.2.1 h2.size, by have := h.2.2; have := endNl_le l; omega⟩, h2⟩
/-- What a round reads: the labels, the part in hand, the part's rows. -/
structure Rd3 (w wA w1 : World) (pb lb g : Nat) (s0 s1 s2 : ByteArray) (p : Pt) (A1 A2 A3 A4 : Option Addr) (c1 c2 c3 c4 : Nat) (W : World) : Prop where
  l0 : W.cell? ⟨lb, 0, none⟩ = some (.string s0)
  l1 : W.cell? ⟨lb, 1, none⟩ = some (.string s1)
  l2 : W.cell? ⟨lb, 2, none⟩ = some (.string s2)
  b0 : W.cell? ⟨g, 0, none⟩ = some (.bool p.region)
  b1 : W.cell? ⟨g, 1, none⟩ = some (.slice A1 p.text.length c1)
  b2 : W.cell? ⟨g, 2, none⟩ = some (.slice A2 p.s0.length c2)
  b3 : W.cell? ⟨g, 3, none⟩ = some (.slice A3 p.s1.length c3)
  b4 : W.cell? ⟨g, 4, none⟩ = some (.slice A4 p.s2.length c4)
  h1 : Kd.C B8 W A1 p.text.length p.text
  h2 : Kd.C B8 W A2 p.s0.length p.s0
  h3 : Kd.C B8 W A3 p.s1.length p.s1
  h4 : Kd.C B8 W A4 p.s2.length p.s2
  bA : Below pb wA W
theorem Rd3.of {w wA w1 : World} {pb lb g : Nat} {s0 s1 s2 : ByteArray} {p : Pt} {A1 A2 A3 A4 : Option Addr} {c1 c2 c3 c4 : Nat} (hl : wA.heap[lb]? = some (.cells #[.string s0, .string s1, .string s2] 39 (0, 0))) (hlb : lb < pb)
    (hbx : BoxP g #[.bool p.region, .slice A1 p.text.length c1, .slice A2 p.s0.length c2, .slice A3 p.s1.length c3, .slice A4 p.s2.length c4] w1) (hg : g ≠ pb) (hwp : w.heap.size ≤ pb) (h1 : Below pb wA w1)
    (g1 : Kd.F B8 w1 (fun k => k < w.heap.size) A1 p.text.length p.text) (g2 : Kd.F B8 w1 (fun k => k < w.heap.size) A2 p.s0.length p.s0) (g3 : Kd.F B8 w1 (fun k => k < w.heap.size) A3 p.s1.length p.s1) (g4 : Kd.F B8 w1 (fun k => k < w.heap.size) A4 p.s2.length p.s2) :
    ∀ W, Pk pb pb w1 W → Rd3 w wA w1 pb lb g s0 s1 s2 p A1 A2 A3 A4 c1 c2 c3 c4 W := fun W hk => by
  have hW : Below pb wA W := h1.trans hk.1
  have hL := (hW.block lb hlb).trans hl
  have hB := (hbx.pk hg hk).cells
  have st : ∀ k, k < w.heap.size → W.heap[k]? = w1.heap[k]? := fun k hk2 => hk.1.block k (by omega)
  exact ⟨(blk_cell hL 0).trans rfl, (blk_cell hL 1).trans rfl, (blk_cell hL 2).trans rfl, hB.1, hB.2.1, hB.2.2.1, hB.2.2.2.1, hB.2.2.2.2, Kd.F_now (Kd.F_step g1 (fun k hk _ => st k hk)), Kd.F_now (Kd.F_step g2 (fun k hk _ => st k hk)), Kd.F_now (Kd.F_step g3 (fun k hk _ => st k hk)), Kd.F_now (Kd.F_step g4 (fun k hk _ => st k hk)), hW⟩
end Go.Proofs.YtnnnbeimehfiiaaDoor.Q
