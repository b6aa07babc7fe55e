-- Out of the words that the kit's printer laid for this seat; shortened to what this claim names by a program of this session (wip/prune.py); Lean checks it.
import Derived.Test.YtfmlpkeaiohknaaDoorWApart
import Derived.Test.YtfmlpkeaiohknaaDoorWArr
namespace Go.Proofs.YtfmlpkeaiohknaaDoorW.PrintWords
open Go.RowKit
section
variable {P : Program}
end
namespace Kd
section
variable {P : Program} {ops : Array Oper} {rest : List Oper} {o : Oper} {a : Act} {Q : Exit → Act → World → Prop} {Kc : Act → World → Prop} {α : Type}
end
section
variable {α : Type} {d : Kd α} {e : Nat} {w : World} {base : Nat} {ok : Nat → Prop} {v : Value} {xs : List α}
end
section
variable {P : Program} {ops : Array Oper} {rest : List Oper} {o : Oper} {a : Act} {Q : Exit → Act → World → Prop} {Kc : Act → World → Prop} {α : Type}
end
end Kd
end Go.Proofs.YtfmlpkeaiohknaaDoorW.PrintWords
