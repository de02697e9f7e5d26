/- FnExactApplyOp: the plain statement out of the printed contract: the machine's side of the law FnExactApplyOp. No condition. -/
import Derived.Test.YthphhklbliambaaMFnExactApplyOpx4
import Derived.Test.YthphhklbliambaaOpen
import Derived.WalkKit
import Derived.Below
namespace Go.Proofs.Ythphhklbliambaa.Stmt
open Go.RowKit Go.Proofs.Ythphhklbliambaa.MFnExactApplyOp Go.Proofs.YthphhklbliambaaW.PrintWords Go.Proofs.YthphhklbliambaaW.PrintLast Go.Proofs.Ythphhklbliambaa.Opens
set_option linter.unusedVariables false
set_option linter.unusedSimpArgs false
namespace FnExactApplyOp
/-- THE PLAIN STATEMENT. -/
def PureS : Prop := ∀ (a0 : ByteArray) (a1 : Bool) (a2_0 : Int) (a2_1 : Int) (a2_2 : ByteArray), a0.size ≤ 140737488351232 → (Lit.int .i64 a2_0).wf = true → (Lit.int .i64 a2_1).wf = true → a2_2.size ≤ 140737488351232 → ∃ k, laws_FnExactApplyOp.f k a0 a1 a2_0 a2_1 a2_2 = some true
theorem walk (P : PureS) (a0 : ByteArray) (a1 : Bool) (a2_0 : Int) (a2_1 : Int) (a2_2 : ByteArray) (w : World) (w0 : a0.size ≤ 140737488351232)  (w2_0 : (Lit.int .i64 a2_0).wf = true) (w2_1 : (Lit.int .i64 a2_1).wf = true) (w2_2 : a2_2.size ≤ 140737488351232) :
    Calls Try.prog 11 #[.string a0, .bool a1, .agg #[.int .i64 a2_0, .int .i64 a2_1, .string a2_2]] w fun e w' => e = .returned (.bool true) ∧ Below w.heap.size w w' := by
  obtain ⟨k, h⟩ := P a0 a1 a2_0 a2_1 a2_2 w0 w2_0 w2_1 w2_2
  refine (laws_FnExactApplyOp.calls k a0 a1 a2_0 a2_1 a2_2 true w rfl h).mono ?_
  rintro e w' ⟨rfl, hd⟩
  exact ⟨rfl, hd⟩
theorem reads_par0 : Reads Try.prog 9 (Of Kd.string (fun s => s.size ≤ 140737488351232)) := (reads_string Try.underlying9)
theorem reads_par1 : Reads Try.prog 4 (Of Kd.bool (fun _ => True)) := (reads_bool Try.underlying4)
theorem reads_par2 : Reads Try.prog 57 (RowQ [(1, Of (Kd.int .i64) (fun n => (Lit.int .i64 n).wf = true)), (1, Of (Kd.int .i64) (fun n => (Lit.int .i64 n).wf = true)), (1, Of Kd.string (fun s => s.size ≤ 140737488351232))]) := (reads_struct [(1, Of (Kd.int .i64) (fun n => (Lit.int .i64 n).wf = true)), (1, Of (Kd.int .i64) (fun n => (Lit.int .i64 n).wf = true)), (1, Of Kd.string (fun s => s.size ≤ 140737488351232))] Try.underlying57 (FieldsFit.cons rfl (by kernel_rfl) (reads_int Try.underlying2) (FieldsFit.cons rfl (by kernel_rfl) (reads_int Try.underlying2) (FieldsFit.cons rfl (by kernel_rfl) (reads_string Try.underlying9) (FieldsFit.nil (by kernel_rfl))))))
end FnExactApplyOp
end Go.Proofs.Ythphhklbliambaa.Stmt
