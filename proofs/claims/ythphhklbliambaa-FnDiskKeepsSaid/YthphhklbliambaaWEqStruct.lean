-- Trimmed by a program of this session out of the kit's printed words: what this claim never names is left out.
import Derived.Test.YthphhklbliambaaWWords
import Derived.Laws.StructEq
/-! ### 53. '==' of structs as_ one Bool -/
namespace Go.Proofs.YthphhklbliambaaW.PrintWords
open Go.RowKit
section
variable {P : Program} {d : Nat} {xs ys : Array Value} {f : Field} {fs : List Field} {a b : Value} {r s : Bool} {w : World}
end
end Go.Proofs.YthphhklbliambaaW.PrintWords
