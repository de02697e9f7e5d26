/- FnExactMembersOf: the plain statement out of the printed contract: the machine's side of the law FnExactMembersOf. No condition. -/
import Derived.Test.YtfeaokelfbjcdaaMFnExactMembersOfx3
import Derived.Test.YtfeaokelfbjcdaaOpen
import Derived.WalkKit
import Derived.Below
namespace Go.Proofs.Ytfeaokelfbjcdaa.Stmt
open Go.RowKit Go.Proofs.Ytfeaokelfbjcdaa.MFnExactMembersOf Go.Proofs.YtfeaokelfbjcdaaW.PrintWords Go.Proofs.YtfeaokelfbjcdaaW.PrintLast Go.Proofs.Ytfeaokelfbjcdaa.Opens
set_option linter.unusedVariables false
set_option linter.unusedSimpArgs false
namespace FnExactMembersOf
/-- THE PLAIN STATEMENT. -/
def PureS : Prop := ∀ (l0 : List Int), (l0.length ≤ maxLen ∧ l0.length * 8 ≤ 140737488351232 ∧ ∀ x ∈ l0, (fun n => (Lit.int .i64 n).wf = true) x) → ∃ k, laws_FnExactMembersOf.f k l0 = some true
theorem walk (P : PureS) (A0 : Option Addr) (c0 : Nat) (l0 : List Int) (w : World) (e0 : l0.length ≤ c0) (q0 : (Kd.int .i64).C w A0 l0.length l0) (w0 : (l0.length ≤ maxLen ∧ l0.length * 8 ≤ 140737488351232 ∧ ∀ x ∈ l0, (fun n => (Lit.int .i64 n).wf = true) x)) :
    Calls Try.prog 7 #[.slice A0 l0.length c0] w fun e w' => e = .returned (.bool true) ∧ Below w.heap.size w w' := by
  obtain ⟨k, h⟩ := P l0 w0
  refine (laws_FnExactMembersOf.calls k A0 c0 l0 true w q0 e0 h).mono ?_
  rintro e w' ⟨rfl, hd⟩
  exact ⟨rfl, hd⟩
theorem reads_par0 : Reads Try.prog 22 (Of (Kd.slice 2 (Kd.int .i64)) (fun xs => xs.length ≤ maxLen ∧ xs.length * 8 ≤ 140737488351232 ∧ ∀ x ∈ xs, (fun n => (Lit.int .i64 n).wf = true) x)) := (reads_slice (d := (Kd.int .i64)) (ok := (fun n => (Lit.int .i64 n).wf = true)) 8 Try.underlying22 (by kernel_rfl) (by kernel_rfl) (reads_int Try.underlying2))
end FnExactMembersOf
end Go.Proofs.Ytfeaokelfbjcdaa.Stmt
