/- FnExactNewDisk: the plain statement out of the printed contract: the machine's side of the law FnExactNewDisk. No condition. -/
import Derived.Test.YthphhklbliambaaMFnExactNewDiskx4
import Derived.Test.YthphhklbliambaaOpen
import Derived.WalkKit
import Derived.Below
namespace Go.Proofs.Ythphhklbliambaa.Stmt
open Go.RowKit Go.Proofs.Ythphhklbliambaa.MFnExactNewDisk Go.Proofs.YthphhklbliambaaW.PrintWords Go.Proofs.YthphhklbliambaaW.PrintLast Go.Proofs.Ythphhklbliambaa.Opens
set_option linter.unusedVariables false
set_option linter.unusedSimpArgs false
namespace FnExactNewDisk
/-- THE PLAIN STATEMENT. -/
def PureS : Prop := ∀ (a0 : Int), (Lit.int .i64 a0).wf = true → ∃ k, laws_FnExactNewDisk.f k a0 = some true
theorem walk (P : PureS) (a0 : Int) (w : World) (w0 : (Lit.int .i64 a0).wf = true) :
    Calls Try.prog 6 #[.int .i64 a0] w fun e w' => e = .returned (.bool true) ∧ Below w.heap.size w w' := by
  obtain ⟨k, h⟩ := P a0 w0
  refine (laws_FnExactNewDisk.calls k a0 true w rfl h).mono ?_
  rintro e w' ⟨rfl, hd⟩
  exact ⟨rfl, hd⟩
theorem reads_par0 : Reads Try.prog 2 (Of (Kd.int .i64) (fun n => (Lit.int .i64 n).wf = true)) := (reads_int Try.underlying2)
end FnExactNewDisk
end Go.Proofs.Ythphhklbliambaa.Stmt
