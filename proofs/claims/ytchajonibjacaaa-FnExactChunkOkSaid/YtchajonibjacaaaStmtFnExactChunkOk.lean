/- FnExactChunkOk: the plain statement out of the printed contract: the machine's side of the law FnExactChunkOk. No condition. -/
import Derived.Test.YtchajonibjacaaaPFnExactChunkOkx3
import Derived.Test.YtchajonibjacaaaOpen
import Derived.WalkKit
import Derived.Below
namespace Go.Proofs.Ytchajonibjacaaa.Stmt
open Go.RowKit Go.Proofs.Ytchajonibjacaaa.PFnExactChunkOk Go.Proofs.YtchajonibjacaaaW.PrintWords Go.Proofs.YtchajonibjacaaaW.PrintLast Go.Proofs.Ytchajonibjacaaa.Opens
set_option linter.unusedVariables false
set_option linter.unusedSimpArgs false
namespace FnExactChunkOk
/-- THE PLAIN STATEMENT. -/
def PureS : Prop := ∀ (a0_0 : ByteArray) (a0_1 : Int) (a0_2 : Int) (a0_3 : Int) (a0_4 : Int) (a0_5 : ByteArray), a0_0.size ≤ 140737488351232 → (Lit.int .i64 a0_1).wf = true → (Lit.int .i64 a0_2).wf = true → (Lit.int .i64 a0_3).wf = true → (Lit.int .i64 a0_4).wf = true → a0_5.size ≤ 140737488351232 → ∃ k, laws_FnExactChunkOk.f k a0_0 a0_1 a0_2 a0_3 a0_4 a0_5 = some true
theorem walk (P : PureS) (a0_0 : ByteArray) (a0_1 : Int) (a0_2 : Int) (a0_3 : Int) (a0_4 : Int) (a0_5 : ByteArray) (w : World) (w0_0 : a0_0.size ≤ 140737488351232) (w0_1 : (Lit.int .i64 a0_1).wf = true) (w0_2 : (Lit.int .i64 a0_2).wf = true) (w0_3 : (Lit.int .i64 a0_3).wf = true) (w0_4 : (Lit.int .i64 a0_4).wf = true) (w0_5 : a0_5.size ≤ 140737488351232) :
    Calls Try.prog 10 #[.agg #[.string a0_0, .int .i64 a0_1, .int .i64 a0_2, .int .i64 a0_3, .int .i64 a0_4, .string a0_5]] w fun e w' => e = .returned (.bool true) ∧ Below w.heap.size w w' := by
  obtain ⟨k, h⟩ := P a0_0 a0_1 a0_2 a0_3 a0_4 a0_5 w0_0 w0_1 w0_2 w0_3 w0_4 w0_5
  refine (laws_FnExactChunkOk.calls k a0_0 a0_1 a0_2 a0_3 a0_4 a0_5 true w h).mono ?_
  rintro e w' ⟨rfl, hd⟩
  exact ⟨rfl, hd⟩
theorem reads_par0 : Reads Try.prog 53 (RowQ [(1, Of Kd.string (fun s => s.size ≤ 140737488351232)), (2, RowQ [(1, Of (Kd.int .i64) (fun n => (Lit.int .i64 n).wf = true)), (1, Of (Kd.int .i64) (fun n => (Lit.int .i64 n).wf = true))]), (1, Of (Kd.int .i64) (fun n => (Lit.int .i64 n).wf = true)), (1, Of (Kd.int .i64) (fun n => (Lit.int .i64 n).wf = true)), (1, Of Kd.string (fun s => s.size ≤ 140737488351232))]) := (reads_struct [(1, Of Kd.string (fun s => s.size ≤ 140737488351232)), (2, RowQ [(1, Of (Kd.int .i64) (fun n => (Lit.int .i64 n).wf = true)), (1, Of (Kd.int .i64) (fun n => (Lit.int .i64 n).wf = true))]), (1, Of (Kd.int .i64) (fun n => (Lit.int .i64 n).wf = true)), (1, Of (Kd.int .i64) (fun n => (Lit.int .i64 n).wf = true)), (1, Of Kd.string (fun s => s.size ≤ 140737488351232))] Try.underlying53 (FieldsFit.cons rfl (by kernel_rfl) (reads_string Try.underlying9) (FieldsFit.cons rfl (by kernel_rfl) (reads_struct [(1, Of (Kd.int .i64) (fun n => (Lit.int .i64 n).wf = true)), (1, Of (Kd.int .i64) (fun n => (Lit.int .i64 n).wf = true))] Try.underlying37 (FieldsFit.cons rfl (by kernel_rfl) (reads_int Try.underlying2) (FieldsFit.cons rfl (by kernel_rfl) (reads_int Try.underlying2) (FieldsFit.nil (by kernel_rfl))))) (FieldsFit.cons rfl (by kernel_rfl) (reads_int Try.underlying2) (FieldsFit.cons rfl (by kernel_rfl) (reads_int Try.underlying2) (FieldsFit.cons rfl (by kernel_rfl) (reads_string Try.underlying9) (FieldsFit.nil (by kernel_rfl))))))))
end FnExactChunkOk
end Go.Proofs.Ytchajonibjacaaa.Stmt
