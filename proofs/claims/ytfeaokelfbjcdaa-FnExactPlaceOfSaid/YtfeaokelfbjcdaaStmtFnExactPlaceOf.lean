/- FnExactPlaceOf: the plain statement out of the printed contract: the machine's side of the law FnExactPlaceOf. No condition. -/
import Derived.Test.YtfeaokelfbjcdaaMFnExactPlaceOfx2
import Derived.Test.YtfeaokelfbjcdaaOpen
import Derived.WalkKit
import Derived.Below
namespace Go.Proofs.Ytfeaokelfbjcdaa.Stmt
open Go.RowKit Go.Proofs.Ytfeaokelfbjcdaa.MFnExactPlaceOf Go.Proofs.YtfeaokelfbjcdaaW.PrintWords Go.Proofs.YtfeaokelfbjcdaaW.PrintLast Go.Proofs.Ytfeaokelfbjcdaa.Opens
set_option linter.unusedVariables false
set_option linter.unusedSimpArgs false
namespace FnExactPlaceOf
/-- THE PLAIN STATEMENT. -/
def PureS : Prop := ∀ (l0 : List Int) (a1 : Int), (l0.length ≤ maxLen ∧ l0.length * 8 ≤ 140737488351232 ∧ ∀ x ∈ l0, (fun n => (Lit.int .i64 n).wf = true) x) → (Lit.int .i64 a1).wf = true → ∃ k, laws_FnExactPlaceOf.f k l0 a1 = some true
theorem walk (P : PureS) (A0 : Option Addr) (c0 : Nat) (l0 : List Int) (a1 : Int) (w : World) (e0 : l0.length ≤ c0) (q0 : (Kd.int .i64).C w A0 l0.length l0) (w0 : (l0.length ≤ maxLen ∧ l0.length * 8 ≤ 140737488351232 ∧ ∀ x ∈ l0, (fun n => (Lit.int .i64 n).wf = true) x)) (w1 : (Lit.int .i64 a1).wf = true) :
    Calls Try.prog 4 #[.slice A0 l0.length c0, .int .i64 a1] w fun e w' => e = .returned (.bool true) ∧ Below w.heap.size w w' := by
  obtain ⟨k, h⟩ := P l0 a1 w0 w1
  refine (laws_FnExactPlaceOf.calls k A0 c0 l0 a1 true w q0 e0 h).mono ?_
  rintro e w' ⟨rfl, hd⟩
  exact ⟨rfl, hd⟩
theorem reads_par0 : Reads Try.prog 22 (Of (Kd.slice 2 (Kd.int .i64)) (fun xs => xs.length ≤ maxLen ∧ xs.length * 8 ≤ 140737488351232 ∧ ∀ x ∈ xs, (fun n => (Lit.int .i64 n).wf = true) x)) := (reads_slice (d := (Kd.int .i64)) (ok := (fun n => (Lit.int .i64 n).wf = true)) 8 Try.underlying22 (by kernel_rfl) (by kernel_rfl) (reads_int Try.underlying2))
theorem reads_par1 : Reads Try.prog 2 (Of (Kd.int .i64) (fun n => (Lit.int .i64 n).wf = true)) := (reads_int Try.underlying2)
end FnExactPlaceOf
end Go.Proofs.Ytfeaokelfbjcdaa.Stmt
