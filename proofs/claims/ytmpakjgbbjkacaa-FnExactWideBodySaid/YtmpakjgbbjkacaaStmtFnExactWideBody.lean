/- FnExactWideBody: the plain statement out of the printed contract: the machine's side of the law FnExactWideBody. No condition. -/
import Derived.Test.YtmpakjgbbjkacaaMFnExactWideBodyx6
import Derived.Test.YtmpakjgbbjkacaaOpen
import Derived.WalkKit
import Derived.Below
namespace Go.Proofs.Ytmpakjgbbjkacaa.Stmt
open Go.RowKit Go.Proofs.Ytmpakjgbbjkacaa.MFnExactWideBody Go.Proofs.YtmpakjgbbjkacaaW.PrintWords Go.Proofs.YtmpakjgbbjkacaaW.PrintLast Go.Proofs.Ytmpakjgbbjkacaa.Opens
set_option linter.unusedVariables false
set_option linter.unusedSimpArgs false
namespace FnExactWideBody
/-- THE PLAIN STATEMENT. -/
def PureS : Prop := ∀ (a0_0 : Int) (a0_1 : Int) (a0_2 : Int) (a0_3 : Int) (l0_4 : List ByteArray), (Lit.int .i64 a0_0).wf = true → (Lit.int .i64 a0_1).wf = true → (Lit.int .i64 a0_2).wf = true → (Lit.int .i64 a0_3).wf = true → (l0_4.length ≤ maxLen ∧ l0_4.length * 16 ≤ 140737488351232 ∧ ∀ x ∈ l0_4, (fun s => s.size ≤ 140737488351232) x) → ∃ k, laws_FnExactWideBody.f k a0_0 a0_1 a0_2 a0_3 l0_4 = some true
theorem walk (P : PureS) (a0_0 : Int) (a0_1 : Int) (a0_2 : Int) (a0_3 : Int) (A0_4 : Option Addr) (c0_4 : Nat) (l0_4 : List ByteArray) (w : World) (w0_0 : (Lit.int .i64 a0_0).wf = true) (w0_1 : (Lit.int .i64 a0_1).wf = true) (w0_2 : (Lit.int .i64 a0_2).wf = true) (w0_3 : (Lit.int .i64 a0_3).wf = true) (e0_4 : l0_4.length ≤ c0_4) (q0_4 : Kd.string.C w A0_4 l0_4.length l0_4) (w0_4 : (l0_4.length ≤ maxLen ∧ l0_4.length * 16 ≤ 140737488351232 ∧ ∀ x ∈ l0_4, (fun s => s.size ≤ 140737488351232) x)) :
    Calls Try.prog 3 #[.agg #[.int .i64 a0_0, .int .i64 a0_1, .int .i64 a0_2, .int .i64 a0_3, .slice A0_4 l0_4.length c0_4]] w fun e w' => e = .returned (.bool true) ∧ Below w.heap.size w w' := by
  obtain ⟨k, h⟩ := P a0_0 a0_1 a0_2 a0_3 l0_4 w0_0 w0_1 w0_2 w0_3 w0_4
  refine (laws_FnExactWideBody.calls k a0_0 a0_1 a0_2 a0_3 A0_4 c0_4 l0_4 true w q0_4 e0_4 rfl h).mono ?_
  rintro e w' ⟨rfl, hd⟩
  exact ⟨rfl, hd⟩
theorem reads_par0 : Reads Try.prog 26 (RowQ [(2, RowQ [(1, Of (Kd.int .i64) (fun n => (Lit.int .i64 n).wf = true)), (1, Of (Kd.int .i64) (fun n => (Lit.int .i64 n).wf = true))]), (1, Of (Kd.int .i64) (fun n => (Lit.int .i64 n).wf = true)), (1, Of (Kd.int .i64) (fun n => (Lit.int .i64 n).wf = true)), (1, Of (Kd.slice 9 Kd.string) (fun xs => xs.length ≤ maxLen ∧ xs.length * 16 ≤ 140737488351232 ∧ ∀ x ∈ xs, (fun s => s.size ≤ 140737488351232) x))]) := (reads_struct [(2, RowQ [(1, Of (Kd.int .i64) (fun n => (Lit.int .i64 n).wf = true)), (1, Of (Kd.int .i64) (fun n => (Lit.int .i64 n).wf = true))]), (1, Of (Kd.int .i64) (fun n => (Lit.int .i64 n).wf = true)), (1, Of (Kd.int .i64) (fun n => (Lit.int .i64 n).wf = true)), (1, Of (Kd.slice 9 Kd.string) (fun xs => xs.length ≤ maxLen ∧ xs.length * 16 ≤ 140737488351232 ∧ ∀ x ∈ xs, (fun s => s.size ≤ 140737488351232) x))] Try.underlying26 (FieldsFit.cons rfl (by kernel_rfl) (reads_struct [(1, Of (Kd.int .i64) (fun n => (Lit.int .i64 n).wf = true)), (1, Of (Kd.int .i64) (fun n => (Lit.int .i64 n).wf = true))] Try.underlying23 (FieldsFit.cons rfl (by kernel_rfl) (reads_int Try.underlying2) (FieldsFit.cons rfl (by kernel_rfl) (reads_int Try.underlying2) (FieldsFit.nil (by kernel_rfl))))) (FieldsFit.cons rfl (by kernel_rfl) (reads_int Try.underlying2) (FieldsFit.cons rfl (by kernel_rfl) (reads_int Try.underlying2) (FieldsFit.cons rfl (by kernel_rfl) (reads_slice (d := Kd.string) (ok := (fun s => s.size ≤ 140737488351232)) 16 Try.underlying24 (by kernel_rfl) (by kernel_rfl) (reads_string Try.underlying9)) (FieldsFit.nil (by kernel_rfl)))))))
end FnExactWideBody
end Go.Proofs.Ytmpakjgbbjkacaa.Stmt
