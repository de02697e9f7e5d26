/- FnExactShowInc: the plain statement out of the printed contract: the machine's side of the law FnExactShowInc. No condition. -/
import Derived.Test.YtmpakjgbbjkacaaDoorMFnExactShowIncx4
import Derived.Test.YtmpakjgbbjkacaaDoorOpen
import Derived.WalkKit
import Derived.Below
namespace Go.Proofs.YtmpakjgbbjkacaaDoor.Stmt
open Go.RowKit Go.Proofs.YtmpakjgbbjkacaaDoor.MFnExactShowInc Go.Proofs.YtmpakjgbbjkacaaDoorW.PrintWords Go.Proofs.YtmpakjgbbjkacaaDoorW.PrintLast Go.Proofs.YtmpakjgbbjkacaaDoor.Opens
set_option linter.unusedVariables false
set_option linter.unusedSimpArgs false
namespace FnExactShowInc
/-- THE PLAIN STATEMENT. -/
def PureS : Prop := ∀ (a0_0 : Int) (a0_1 : Int) (a0_2 : Int) (a0_3 : Int), (Lit.int .i64 a0_0).wf = true → (Lit.int .i64 a0_1).wf = true → (Lit.int .i64 a0_2).wf = true → (Lit.int .i64 a0_3).wf = true → ∃ k, laws_FnExactShowInc.f k a0_0 a0_1 a0_2 a0_3 = some true
theorem walk (P : PureS) (a0_0 : Int) (a0_1 : Int) (a0_2 : Int) (a0_3 : Int) (w : World) (w0_0 : (Lit.int .i64 a0_0).wf = true) (w0_1 : (Lit.int .i64 a0_1).wf = true) (w0_2 : (Lit.int .i64 a0_2).wf = true) (w0_3 : (Lit.int .i64 a0_3).wf = true) :
    Calls Tryd.prog 3 #[.agg #[.int .i64 a0_0, .int .i64 a0_1, .int .i64 a0_2, .int .i64 a0_3]] w fun e w' => e = .returned (.bool true) ∧ Below w.heap.size w w' := by
  obtain ⟨k, h⟩ := P a0_0 a0_1 a0_2 a0_3 w0_0 w0_1 w0_2 w0_3
  refine (laws_FnExactShowInc.calls k a0_0 a0_1 a0_2 a0_3 true w rfl h).mono ?_
  rintro e w' ⟨rfl, hd⟩
  exact ⟨rfl, hd⟩
theorem reads_par0 : Reads Tryd.prog 23 (RowQ [(1, Of (Kd.int .i64) (fun n => (Lit.int .i64 n).wf = true)), (1, Of (Kd.int .i64) (fun n => (Lit.int .i64 n).wf = true)), (1, Of (Kd.int .i64) (fun n => (Lit.int .i64 n).wf = true)), (1, Of (Kd.int .i64) (fun n => (Lit.int .i64 n).wf = true))]) := (reads_struct [(1, Of (Kd.int .i64) (fun n => (Lit.int .i64 n).wf = true)), (1, Of (Kd.int .i64) (fun n => (Lit.int .i64 n).wf = true)), (1, Of (Kd.int .i64) (fun n => (Lit.int .i64 n).wf = true)), (1, Of (Kd.int .i64) (fun n => (Lit.int .i64 n).wf = true))] Tryd.underlying23 (FieldsFit.cons rfl (by kernel_rfl) (reads_int Tryd.underlying2) (FieldsFit.cons rfl (by kernel_rfl) (reads_int Tryd.underlying2) (FieldsFit.cons rfl (by kernel_rfl) (reads_int Tryd.underlying2) (FieldsFit.cons rfl (by kernel_rfl) (reads_int Tryd.underlying2) (FieldsFit.nil (by kernel_rfl)))))))
end FnExactShowInc
end Go.Proofs.YtmpakjgbbjkacaaDoor.Stmt
