/- FnExactOpOk: the plain statement out of the printed contract: the machine's side of the law FnExactOpOk. No condition. -/
import Derived.Test.YtchajonibjacaaaPFnExactOpOkx3
import Derived.Test.YtchajonibjacaaaOpen
import Derived.WalkKit
import Derived.Below
namespace Go.Proofs.Ytchajonibjacaaa.Stmt
open Go.RowKit Go.Proofs.Ytchajonibjacaaa.PFnExactOpOk Go.Proofs.YtchajonibjacaaaW.PrintWords Go.Proofs.YtchajonibjacaaaW.PrintLast Go.Proofs.Ytchajonibjacaaa.Opens
set_option linter.unusedVariables false
set_option linter.unusedSimpArgs false
namespace FnExactOpOk
/-- THE PLAIN STATEMENT. -/
def PureS : Prop := ∀ (a0_0 : Int) (a0_1 : Int) (a1_0 : Int) (a1_1 : Int) (a1_2 : ByteArray), (Lit.int .i64 a0_0).wf = true → (Lit.int .i64 a0_1).wf = true → (Lit.int .i64 a1_0).wf = true → (Lit.int .i64 a1_1).wf = true → a1_2.size ≤ 140737488351232 → ∃ k, laws_FnExactOpOk.f k a0_0 a0_1 a1_0 a1_1 a1_2 = some true
theorem walk (P : PureS) (a0_0 : Int) (a0_1 : Int) (a1_0 : Int) (a1_1 : Int) (a1_2 : ByteArray) (w : World) (w0_0 : (Lit.int .i64 a0_0).wf = true) (w0_1 : (Lit.int .i64 a0_1).wf = true) (w1_0 : (Lit.int .i64 a1_0).wf = true) (w1_1 : (Lit.int .i64 a1_1).wf = true) (w1_2 : a1_2.size ≤ 140737488351232) :
    Calls Try.prog 9 #[.agg #[.int .i64 a0_0, .int .i64 a0_1], .agg #[.int .i64 a1_0, .int .i64 a1_1, .string a1_2]] w fun e w' => e = .returned (.bool true) ∧ Below w.heap.size w w' := by
  obtain ⟨k, h⟩ := P a0_0 a0_1 a1_0 a1_1 a1_2 w0_0 w0_1 w1_0 w1_1 w1_2
  refine (laws_FnExactOpOk.calls k a0_0 a0_1 a1_0 a1_1 a1_2 true w h).mono ?_
  rintro e w' ⟨rfl, hd⟩
  exact ⟨rfl, hd⟩
theorem reads_par0 : Reads Try.prog 47 (RowQ [(1, Of (Kd.int .i64) (fun n => (Lit.int .i64 n).wf = true)), (1, Of (Kd.int .i64) (fun n => (Lit.int .i64 n).wf = true))]) := (reads_struct [(1, Of (Kd.int .i64) (fun n => (Lit.int .i64 n).wf = true)), (1, Of (Kd.int .i64) (fun n => (Lit.int .i64 n).wf = true))] Try.underlying47 (FieldsFit.cons rfl (by kernel_rfl) (reads_int Try.underlying2) (FieldsFit.cons rfl (by kernel_rfl) (reads_int Try.underlying2) (FieldsFit.nil (by kernel_rfl)))))
theorem reads_par1 : Reads Try.prog 24 (RowQ [(1, Of (Kd.int .i64) (fun n => (Lit.int .i64 n).wf = true)), (1, Of (Kd.int .i64) (fun n => (Lit.int .i64 n).wf = true)), (1, Of Kd.string (fun s => s.size ≤ 140737488351232))]) := (reads_struct [(1, Of (Kd.int .i64) (fun n => (Lit.int .i64 n).wf = true)), (1, Of (Kd.int .i64) (fun n => (Lit.int .i64 n).wf = true)), (1, Of Kd.string (fun s => s.size ≤ 140737488351232))] Try.underlying24 (FieldsFit.cons rfl (by kernel_rfl) (reads_int Try.underlying2) (FieldsFit.cons rfl (by kernel_rfl) (reads_int Try.underlying2) (FieldsFit.cons rfl (by kernel_rfl) (reads_string Try.underlying9) (FieldsFit.nil (by kernel_rfl))))))
end FnExactOpOk
end Go.Proofs.Ytchajonibjacaaa.Stmt
