-- Out of the words that the kit's printer laid for this seat; shortened to what this claim names by a program of this session (wip/prune.py); Lean checks it.
import Derived.Test.YtfmlpkeaiohknaaDoorWN
namespace Go.Proofs.YtfmlpkeaiohknaaDoorW.PrintWords
open Go.RowKit
namespace Kd
section
variable {α : Type} {d : Kd α} {W : World} {g n : Nat} {S ok : Nat → Prop} {A : Option Addr} {ad : Addr} {xs : List α}
end
end Kd
end Go.Proofs.YtfmlpkeaiohknaaDoorW.PrintWords
