/-
  NARROWER THAN 'FOR EVERY INPUT', by the rows' own cells (each row's printed sentence says how): ScriptApplies: loops · ScriptPairs: loops · ScriptSelf: loops.
  DERIVED. THE GIVEN ROWS OF THIS SEAT. 3 by the template 'for every input the law returns true; each argument reads behind the call as it read before'; 0 by the template 'total and deterministic' (their statements: YtfmlpkeaiohknaaTotals.lean).
  GIVEN WITH THE SEED: the statements are not yours to turn. If you find one false, say at which input.
  Laid BY PROGRAM, IN A SANDBOX (cutbox-rows.mjs): the forced cells as the released guide's own fill.sh prints them over the translation 6c250df4741406aa… (all of the seat's roots in one cut). By AI agents, Wed Nov 11 2026. No macro, syntax, notation, axiom, sorry.
-/
import Derived.Test.YtfmlpkeaiohknaaChecked
import GoSem.Claim
import GoSem.ClaimJoined
import GoSem.ClaimMapViews
import Derived.JoinedTies
import Derived.KernelRfl
namespace Go.Proofs.Ytfmlpkeaiohknaa
/- THE CELL 'sum', in the pinned program and in every row, IS THE sha256 OF THE DUMP (.gsa) THAT YtfmlpkeaiohknaaProg.lean LOADS. Nothing in Lean hashes anything: it is a label: what it is worth is what the hold of that sum in a sandbox is worth. -/
noncomputable def Try.pinned : Pinned := { name := "ytfmlpkeaiohknaa", sum := "6c250df4741406aa1cc495127d737c647478485c225a2df6871647163a7c8e15", checked := Try.checked }
namespace Rows
def none {H : Type} : Left H := { results := [], args := [] }

/-- 'scarflaw15.ScriptApplies': WHATEVER THE INPUT: true; the input reads as it did. -/
def scriptAppliesSpec : ChangeSpec := { name := "scriptApplies", fn := fun _ => fun
  | [d1, d2] => { results := [.lit (.bool true)], args := [d1, d2] }
  | _ => none }
def scriptAppliesRow : OpenClaim := { program := "ytfmlpkeaiohknaa", sum := "6c250df4741406aa1cc495127d737c647478485c225a2df6871647163a7c8e15", func := "scarf/scarflaw15.ScriptApplies", spec := "scriptApplies", inPlace := ["slices.overlaps[*scarf/script.knot]"], unfollowed := true, recurses := true, loops := true, apart := false }
def ScriptAppliesSaid : Prop := scriptAppliesRow.holds Try.pinned (OpenSpec.ofChange scriptAppliesSpec)

/-- ITS FALSE NEIGHBOUR: 'it returns false'. Refute it at one input. -/
def scriptAppliesWrong : ChangeSpec := { name := "scriptApplies", fn := fun _ => fun
  | [d1, d2] => { results := [.lit (.bool false)], args := [d1, d2] }
  | _ => none }
def ScriptAppliesWrongFalsely : Prop := scriptAppliesRow.holds Try.pinned (OpenSpec.ofChange scriptAppliesWrong)

/-- 'scarflaw15.ScriptPairs': WHATEVER THE INPUT: true; the input reads as it did. -/
def scriptPairsSpec : ChangeSpec := { name := "scriptPairs", fn := fun _ => fun
  | [d1, d2, d3] => { results := [.lit (.bool true)], args := [d1, d2, d3] }
  | _ => none }
def scriptPairsRow : OpenClaim := { program := "ytfmlpkeaiohknaa", sum := "6c250df4741406aa1cc495127d737c647478485c225a2df6871647163a7c8e15", func := "scarf/scarflaw15.ScriptPairs", spec := "scriptPairs", inPlace := ["slices.overlaps[*scarf/script.knot]"], unfollowed := true, recurses := true, loops := true, apart := false }
def ScriptPairsSaid : Prop := scriptPairsRow.holds Try.pinned (OpenSpec.ofChange scriptPairsSpec)

/-- ITS FALSE NEIGHBOUR: 'it returns false'. Refute it at one input. -/
def scriptPairsWrong : ChangeSpec := { name := "scriptPairs", fn := fun _ => fun
  | [d1, d2, d3] => { results := [.lit (.bool false)], args := [d1, d2, d3] }
  | _ => none }
def ScriptPairsWrongFalsely : Prop := scriptPairsRow.holds Try.pinned (OpenSpec.ofChange scriptPairsWrong)

/-- 'scarflaw15.ScriptSelf': WHATEVER THE INPUT: true; the input reads as it did. -/
def scriptSelfSpec : ChangeSpec := { name := "scriptSelf", fn := fun _ => fun
  | [d] => { results := [.lit (.bool true)], args := [d] }
  | _ => none }
def scriptSelfRow : OpenClaim := { program := "ytfmlpkeaiohknaa", sum := "6c250df4741406aa1cc495127d737c647478485c225a2df6871647163a7c8e15", func := "scarf/scarflaw15.ScriptSelf", spec := "scriptSelf", inPlace := ["slices.overlaps[*scarf/script.knot]"], unfollowed := true, recurses := true, loops := true, apart := false }
def ScriptSelfSaid : Prop := scriptSelfRow.holds Try.pinned (OpenSpec.ofChange scriptSelfSpec)

/-- ITS FALSE NEIGHBOUR: 'it returns false'. Refute it at one input. -/
def scriptSelfWrong : ChangeSpec := { name := "scriptSelf", fn := fun _ => fun
  | [d] => { results := [.lit (.bool false)], args := [d] }
  | _ => none }
def ScriptSelfWrongFalsely : Prop := scriptSelfRow.holds Try.pinned (OpenSpec.ofChange scriptSelfWrong)

/- THE SECOND FORM. 'bulk': how many values and letters a reading holds, each counted each time it is reached (what is shared counts as often as it is met; a slice's spare places count too). A statement '..UptoSaid' is the law's where the arguments, and the package variables that the reading takes, are together of bulk at most 1048576: NARROWER than '..Said'. Prove '..Said' where nothing that the law and all that it calls make is longer than what came in: it says more and counts as full. Else prove '..UptoSaid'. A law counts once. -/
mutual
def uptoBulk {H : Type} : DataW H → Nat
  | .lit (.string bytes) => bytes.length + 1
  | .lit _ => 1
  | .nil => 1
  | .ptr d => uptoBulk d + 1
  | .slice elems spare => uptoBulkAll elems + uptoBulkAll spare + 1
  | .agg parts => uptoBulkAll parts + 1
  | .iface _ d => uptoBulk d + 1
  | .map entries => uptoBulkEntries entries + 1
  | .held _ => 1
def uptoBulkAll {H : Type} : List (DataW H) → Nat
  | [] => 0
  | d :: r => uptoBulk d + uptoBulkAll r
def uptoBulkEntries {H : Type} : List (Lit × DataW H) → Nat
  | [] => 0
  | x :: r => uptoBulkEntry x + uptoBulkEntries r
def uptoBulkEntry {H : Type} : Lit × DataW H → Nat
  | (.string bytes, d) => bytes.length + uptoBulk d + 1
  | (_, d) => uptoBulk d + 1
 end
def uptoSmall : (H : Type) → List (DataW H) → Bool := fun _ ds => decide (uptoBulkAll ds ≤ 1048576)
def OpenSpec.upto (s : _root_.Go.ChangeSpec) : _root_.Go.OpenSpec := { _root_.Go.OpenSpec.ofChange s with cond := some uptoSmall }

/-- 'scarflaw15.ScriptApplies', WHERE WHAT IT READS IS OF BULK AT MOST 1048576: true; the input reads as it did. -/
def scriptAppliesUptoRow : OpenClaim := { program := "ytfmlpkeaiohknaa", sum := "6c250df4741406aa1cc495127d737c647478485c225a2df6871647163a7c8e15", func := "scarf/scarflaw15.ScriptApplies", spec := "scriptApplies", inPlace := ["slices.overlaps[*scarf/script.knot]"], unfollowed := true, recurses := true, loops := true, apart := false, narrowed := true }
def ScriptAppliesUptoSaid : Prop := scriptAppliesUptoRow.holds Try.pinned (OpenSpec.upto scriptAppliesSpec)

/-- 'scarflaw15.ScriptPairs', WHERE WHAT IT READS IS OF BULK AT MOST 1048576: true; the input reads as it did. -/
def scriptPairsUptoRow : OpenClaim := { program := "ytfmlpkeaiohknaa", sum := "6c250df4741406aa1cc495127d737c647478485c225a2df6871647163a7c8e15", func := "scarf/scarflaw15.ScriptPairs", spec := "scriptPairs", inPlace := ["slices.overlaps[*scarf/script.knot]"], unfollowed := true, recurses := true, loops := true, apart := false, narrowed := true }
def ScriptPairsUptoSaid : Prop := scriptPairsUptoRow.holds Try.pinned (OpenSpec.upto scriptPairsSpec)

/-- 'scarflaw15.ScriptSelf', WHERE WHAT IT READS IS OF BULK AT MOST 1048576: true; the input reads as it did. -/
def scriptSelfUptoRow : OpenClaim := { program := "ytfmlpkeaiohknaa", sum := "6c250df4741406aa1cc495127d737c647478485c225a2df6871647163a7c8e15", func := "scarf/scarflaw15.ScriptSelf", spec := "scriptSelf", inPlace := ["slices.overlaps[*scarf/script.knot]"], unfollowed := true, recurses := true, loops := true, apart := false, narrowed := true }
def ScriptSelfUptoSaid : Prop := scriptSelfUptoRow.holds Try.pinned (OpenSpec.upto scriptSelfSpec)

end Rows
end Go.Proofs.Ytfmlpkeaiohknaa
