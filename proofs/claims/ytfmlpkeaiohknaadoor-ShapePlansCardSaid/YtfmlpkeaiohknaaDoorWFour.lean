-- Out of the words that the kit's printer laid for this seat; shortened to what this claim names by a program of this session (wip/prune.py); Lean checks it.
import Derived.Test.YtfmlpkeaiohknaaDoorWTab
namespace Go.Proofs.YtfmlpkeaiohknaaDoorW.PrintLast
section
variable {P : Program} {ops : Array Oper} {Q : Exit → Act → World → Prop} {md : Region.Mode} {S : World → Prop} {ds : List Nat} {T : Bool × List (List Nat × List Nat)}
end
end Go.Proofs.YtfmlpkeaiohknaaDoorW.PrintLast
