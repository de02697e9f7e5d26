-- Trimmed by a program of this session out of the kit's printed words: what this claim never names is left out.
import Derived.Test.YthphhklbliambaaWInv
import Derived.Test.YthphhklbliambaaWFootNe
namespace Go.Proofs.YthphhklbliambaaW.PrintWords
open Go.RowKit
end Go.Proofs.YthphhklbliambaaW.PrintWords
namespace Go.Proofs.YthphhklbliambaaW.PrintLast
section
variable {ops : Array Oper} {a : Act} {o og : Oper} {g : Nat} {t : Tmp} {u : Bool}
end
end Go.Proofs.YthphhklbliambaaW.PrintLast
