-- Out of the words that the kit's printer laid for this seat; shortened to what this claim names by a program of this session (wip/prune.py); Lean checks it.
import Derived.Test.YtfmlpkeaiohknaaDoorWWords
import Derived.Laws.StructEq
namespace Go.Proofs.YtfmlpkeaiohknaaDoorW.PrintWords
open Go.RowKit
section
variable {P : Program} {d : Nat} {xs ys : Array Value} {f : Field} {fs : List Field} {a b : Value} {r s : Bool} {w : World}
end
end Go.Proofs.YtfmlpkeaiohknaaDoorW.PrintWords
