/- FnExactNewState: the plain statement out of the printed contract: the machine's side of the law FnExactNewState. No condition. -/
import Derived.Test.YtabpcpoclcmjiaaMFnExactNewStatex3
import Derived.Test.YtabpcpoclcmjiaaOpen
import Derived.WalkKit
import Derived.Below
namespace Go.Proofs.Ytabpcpoclcmjiaa.Stmt
open Go.RowKit Go.Proofs.Ytabpcpoclcmjiaa.MFnExactNewState Go.Proofs.YtabpcpoclcmjiaaW.PrintWords Go.Proofs.YtabpcpoclcmjiaaW.PrintLast Go.Proofs.Ytabpcpoclcmjiaa.Opens
set_option linter.unusedVariables false
set_option linter.unusedSimpArgs false
namespace FnExactNewState
/-- THE PLAIN STATEMENT. -/
def PureS : Prop := ∀ (a0_0 : Int) (a0_1 : Int), (Lit.int .i64 a0_0).wf = true → (Lit.int .i64 a0_1).wf = true → laws_FnExactNewState.f a0_0 a0_1 = some true
theorem walk (P : PureS) (a0_0 : Int) (a0_1 : Int) (w : World) (w0_0 : (Lit.int .i64 a0_0).wf = true) (w0_1 : (Lit.int .i64 a0_1).wf = true) :
    Calls Try.prog 3 #[.agg #[.int .i64 a0_0, .int .i64 a0_1]] w fun e w' => e = .returned (.bool true) ∧ Below w.heap.size w w' := by
  have h := P a0_0 a0_1 w0_0 w0_1
  refine (laws_FnExactNewState.calls a0_0 a0_1 true w rfl h).mono ?_
  rintro e w' ⟨rfl, hd⟩
  exact ⟨rfl, hd⟩
theorem reads_par0 : Reads Try.prog 23 (RowQ [(1, Of (Kd.int .i64) (fun n => (Lit.int .i64 n).wf = true)), (1, Of (Kd.int .i64) (fun n => (Lit.int .i64 n).wf = true))]) := (reads_struct [(1, Of (Kd.int .i64) (fun n => (Lit.int .i64 n).wf = true)), (1, Of (Kd.int .i64) (fun n => (Lit.int .i64 n).wf = true))] Try.underlying23 (FieldsFit.cons rfl (by kernel_rfl) (reads_int Try.underlying2) (FieldsFit.cons rfl (by kernel_rfl) (reads_int Try.underlying2) (FieldsFit.nil (by kernel_rfl)))))
end FnExactNewState
end Go.Proofs.Ytabpcpoclcmjiaa.Stmt
