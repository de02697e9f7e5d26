/- FnExactHeardOf: the plain statement out of the printed contract: the machine's side of the law FnExactHeardOf. No condition. -/
import Derived.Test.YtfeaokelfbjcdaaMFnExactHeardOfx5
import Derived.Test.YtfeaokelfbjcdaaOpen
import Derived.WalkKit
import Derived.Below
namespace Go.Proofs.Ytfeaokelfbjcdaa.Stmt
open Go.RowKit Go.Proofs.Ytfeaokelfbjcdaa.MFnExactHeardOf Go.Proofs.YtfeaokelfbjcdaaW.PrintWords Go.Proofs.YtfeaokelfbjcdaaW.PrintLast Go.Proofs.Ytfeaokelfbjcdaa.Opens
set_option linter.unusedVariables false
set_option linter.unusedSimpArgs false
namespace FnExactHeardOf
/-- THE PLAIN STATEMENT. -/
def PureS : Prop := ∀ (a0_0 : Int) (a0_1 : Int) (l0_2 : List Int) (a0_3 : Bool) (l1 : List Int), (Lit.int .i64 a0_0).wf = true → (Lit.int .i64 a0_1).wf = true → (l0_2.length ≤ maxLen ∧ l0_2.length * 8 ≤ 140737488351232 ∧ ∀ x ∈ l0_2, (fun n => (Lit.int .i64 n).wf = true) x) → (l1.length ≤ maxLen ∧ l1.length * 8 ≤ 140737488351232 ∧ ∀ x ∈ l1, (fun n => (Lit.int .i64 n).wf = true) x) → ∃ k, laws_FnExactHeardOf.f k a0_0 a0_1 l0_2 a0_3 l1 = some true
theorem walk (P : PureS) (a0_0 : Int) (a0_1 : Int) (A0_2 : Option Addr) (c0_2 : Nat) (l0_2 : List Int) (a0_3 : Bool) (A1 : Option Addr) (c1 : Nat) (l1 : List Int) (w : World) (w0_0 : (Lit.int .i64 a0_0).wf = true) (w0_1 : (Lit.int .i64 a0_1).wf = true) (e0_2 : l0_2.length ≤ c0_2) (q0_2 : (Kd.int .i64).C w A0_2 l0_2.length l0_2) (w0_2 : (l0_2.length ≤ maxLen ∧ l0_2.length * 8 ≤ 140737488351232 ∧ ∀ x ∈ l0_2, (fun n => (Lit.int .i64 n).wf = true) x))  (e1 : l1.length ≤ c1) (q1 : (Kd.int .i64).C w A1 l1.length l1) (w1 : (l1.length ≤ maxLen ∧ l1.length * 8 ≤ 140737488351232 ∧ ∀ x ∈ l1, (fun n => (Lit.int .i64 n).wf = true) x)) :
    Calls Try.prog 10 #[.agg #[.int .i64 a0_0, .int .i64 a0_1, .slice A0_2 l0_2.length c0_2, .bool a0_3], .slice A1 l1.length c1] w fun e w' => e = .returned (.bool true) ∧ Below w.heap.size w w' := by
  obtain ⟨k, h⟩ := P a0_0 a0_1 l0_2 a0_3 l1 w0_0 w0_1 w0_2 w1
  refine (laws_FnExactHeardOf.calls k a0_0 a0_1 A0_2 c0_2 l0_2 a0_3 A1 c1 l1 true w q0_2 e0_2 q1 e1 rfl h).mono ?_
  rintro e w' ⟨rfl, hd⟩
  exact ⟨rfl, hd⟩
theorem reads_par0 : Reads Try.prog 40 (RowQ [(1, Of (Kd.int .i64) (fun n => (Lit.int .i64 n).wf = true)), (1, Of (Kd.int .i64) (fun n => (Lit.int .i64 n).wf = true)), (1, Of (Kd.slice 2 (Kd.int .i64)) (fun xs => xs.length ≤ maxLen ∧ xs.length * 8 ≤ 140737488351232 ∧ ∀ x ∈ xs, (fun n => (Lit.int .i64 n).wf = true) x)), (1, Of Kd.bool (fun _ => True))]) := (reads_struct [(1, Of (Kd.int .i64) (fun n => (Lit.int .i64 n).wf = true)), (1, Of (Kd.int .i64) (fun n => (Lit.int .i64 n).wf = true)), (1, Of (Kd.slice 2 (Kd.int .i64)) (fun xs => xs.length ≤ maxLen ∧ xs.length * 8 ≤ 140737488351232 ∧ ∀ x ∈ xs, (fun n => (Lit.int .i64 n).wf = true) x)), (1, Of Kd.bool (fun _ => True))] Try.underlying40 (FieldsFit.cons rfl (by kernel_rfl) (reads_int Try.underlying2) (FieldsFit.cons rfl (by kernel_rfl) (reads_int Try.underlying2) (FieldsFit.cons rfl (by kernel_rfl) (reads_slice (d := (Kd.int .i64)) (ok := (fun n => (Lit.int .i64 n).wf = true)) 8 Try.underlying22 (by kernel_rfl) (by kernel_rfl) (reads_int Try.underlying2)) (FieldsFit.cons rfl (by kernel_rfl) (reads_bool Try.underlying4) (FieldsFit.nil (by kernel_rfl)))))))
theorem reads_par1 : Reads Try.prog 22 (Of (Kd.slice 2 (Kd.int .i64)) (fun xs => xs.length ≤ maxLen ∧ xs.length * 8 ≤ 140737488351232 ∧ ∀ x ∈ xs, (fun n => (Lit.int .i64 n).wf = true) x)) := (reads_slice (d := (Kd.int .i64)) (ok := (fun n => (Lit.int .i64 n).wf = true)) 8 Try.underlying22 (by kernel_rfl) (by kernel_rfl) (reads_int Try.underlying2))
end FnExactHeardOf
end Go.Proofs.Ytfeaokelfbjcdaa.Stmt
