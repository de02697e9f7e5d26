-- Trimmed by a program of this session out of the kit's printed words: what this claim never names is left out.
import Derived.Test.YthphhklbliambaaWTab
/-! ### 56. Four, five, six operations that may come up next, in any order -/
namespace Go.Proofs.YthphhklbliambaaW.PrintLast
section
variable {P : Program} {ops : Array Oper} {Q : Exit → Act → World → Prop} {md : Region.Mode} {S : World → Prop} {ds : List Nat} {T : Bool × List (List Nat × List Nat)}
end
end Go.Proofs.YthphhklbliambaaW.PrintLast
