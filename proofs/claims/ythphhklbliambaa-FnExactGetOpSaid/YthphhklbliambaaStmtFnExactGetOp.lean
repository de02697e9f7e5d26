/- FnExactGetOp: the plain statement out of the printed contract: the machine's side of the law FnExactGetOp. No condition. -/
import Derived.Test.YthphhklbliambaaMFnExactGetOpx6
import Derived.Test.YthphhklbliambaaOpen
import Derived.WalkKit
import Derived.Below
namespace Go.Proofs.Ythphhklbliambaa.Stmt
open Go.RowKit Go.Proofs.Ythphhklbliambaa.MFnExactGetOp Go.Proofs.YthphhklbliambaaW.PrintWords Go.Proofs.YthphhklbliambaaW.PrintLast Go.Proofs.Ythphhklbliambaa.Opens
set_option linter.unusedVariables false
set_option linter.unusedSimpArgs false
namespace FnExactGetOp
/-- THE PLAIN STATEMENT. -/
def PureS : Prop := ∀ (a0 : ByteArray), a0.size ≤ 140737488351232 → ∃ k, laws_FnExactGetOp.f k a0 = some true
theorem walk (P : PureS) (a0 : ByteArray) (w : World) (w0 : a0.size ≤ 140737488351232) :
    Calls Try.prog 10 #[.string a0] w fun e w' => e = .returned (.bool true) ∧ Below w.heap.size w w' := by
  obtain ⟨k, h⟩ := P a0 w0
  refine (laws_FnExactGetOp.calls k a0 true w rfl h).mono ?_
  rintro e w' ⟨rfl, hd⟩
  exact ⟨rfl, hd⟩
theorem reads_par0 : Reads Try.prog 9 (Of Kd.string (fun s => s.size ≤ 140737488351232)) := (reads_string Try.underlying9)
end FnExactGetOp
end Go.Proofs.Ythphhklbliambaa.Stmt
