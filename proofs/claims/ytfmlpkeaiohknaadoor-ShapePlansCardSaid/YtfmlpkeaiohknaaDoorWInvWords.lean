-- Out of the words that the kit's printer laid for this seat; shortened to what this claim names by a program of this session (wip/prune.py); Lean checks it.
import Derived.Test.YtfmlpkeaiohknaaDoorWInv
import Derived.Test.YtfmlpkeaiohknaaDoorWFootNe
namespace Go.Proofs.YtfmlpkeaiohknaaDoorW.PrintWords
open Go.RowKit
end Go.Proofs.YtfmlpkeaiohknaaDoorW.PrintWords
namespace Go.Proofs.YtfmlpkeaiohknaaDoorW.PrintLast
section
variable {ops : Array Oper} {a : Act} {o og : Oper} {g : Nat} {t : Tmp} {u : Bool}
theorem eval_of {v : Value} (h : a.tmps[t]? = some v) : a.eval (.tmp t) = v := by simp [Act.eval, h]
end
end Go.Proofs.YtfmlpkeaiohknaaDoorW.PrintLast
