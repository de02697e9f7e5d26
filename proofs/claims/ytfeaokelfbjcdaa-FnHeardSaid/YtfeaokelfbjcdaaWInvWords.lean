-- Trimmed by a program of this session out of the kit's printed words: what this claim never names is left out.
import Derived.Test.YtfeaokelfbjcdaaWInv
import Derived.Test.YtfeaokelfbjcdaaWFootNe
namespace Go.Proofs.YtfeaokelfbjcdaaW.PrintWords
open Go.RowKit
end Go.Proofs.YtfeaokelfbjcdaaW.PrintWords
namespace Go.Proofs.YtfeaokelfbjcdaaW.PrintLast
section
variable {ops : Array Oper} {a : Act} {o og : Oper} {g : Nat} {t : Tmp} {u : Bool}
end
end Go.Proofs.YtfeaokelfbjcdaaW.PrintLast
