/- FnDiskKeeps: the plain statement out of the printed contract: the machine's side of the law FnDiskKeeps. No condition. -/
import Derived.Test.YthphhklbliambaaMFnDiskKeepsx7
import Derived.Test.YthphhklbliambaaOpen
import Derived.WalkKit
import Derived.Below
namespace Go.Proofs.Ythphhklbliambaa.Stmt
open Go.RowKit Go.Proofs.Ythphhklbliambaa.MFnDiskKeeps Go.Proofs.YthphhklbliambaaW.PrintWords Go.Proofs.YthphhklbliambaaW.PrintLast Go.Proofs.Ythphhklbliambaa.Opens
set_option linter.unusedVariables false
set_option linter.unusedSimpArgs false
namespace FnDiskKeeps
/-- THE PLAIN STATEMENT. -/
def PureS : Prop := ∀ (l0 : List Int) (l1 : List Int), (l0.length ≤ maxLen ∧ l0.length * 1 ≤ 140737488351232 ∧ ∀ x ∈ l0, (fun n => (Lit.int .u8 n).wf = true) x) → (l1.length ≤ maxLen ∧ l1.length * 1 ≤ 140737488351232 ∧ ∀ x ∈ l1, (fun n => (Lit.int .u8 n).wf = true) x) → ∃ k, laws_FnDiskKeeps.f k l0 l1 = some true
theorem walk (P : PureS) (A0 : Option Addr) (c0 : Nat) (l0 : List Int) (A1 : Option Addr) (c1 : Nat) (l1 : List Int) (w : World) (e0 : l0.length ≤ c0) (q0 : (Kd.int .u8).C w A0 l0.length l0) (w0 : (l0.length ≤ maxLen ∧ l0.length * 1 ≤ 140737488351232 ∧ ∀ x ∈ l0, (fun n => (Lit.int .u8 n).wf = true) x)) (e1 : l1.length ≤ c1) (q1 : (Kd.int .u8).C w A1 l1.length l1) (w1 : (l1.length ≤ maxLen ∧ l1.length * 1 ≤ 140737488351232 ∧ ∀ x ∈ l1, (fun n => (Lit.int .u8 n).wf = true) x)) :
    Calls Try.prog 8 #[.slice A0 l0.length c0, .slice A1 l1.length c1] w fun e w' => e = .returned (.bool true) ∧ Below w.heap.size w w' := by
  obtain ⟨k, h⟩ := P l0 l1 w0 w1
  refine (laws_FnDiskKeeps.calls k A0 c0 l0 A1 c1 l1 true w q0 e0 q1 e1 rfl h).mono ?_
  rintro e w' ⟨rfl, hd⟩
  exact ⟨rfl, hd⟩
theorem reads_par0 : Reads Try.prog 48 (Of (Kd.slice 5 (Kd.int .u8)) (fun xs => xs.length ≤ maxLen ∧ xs.length * 1 ≤ 140737488351232 ∧ ∀ x ∈ xs, (fun n => (Lit.int .u8 n).wf = true) x)) := (reads_slice (d := (Kd.int .u8)) (ok := (fun n => (Lit.int .u8 n).wf = true)) 1 Try.underlying48 (by kernel_rfl) (by kernel_rfl) (reads_int Try.underlying5))
theorem reads_par1 : Reads Try.prog 48 (Of (Kd.slice 5 (Kd.int .u8)) (fun xs => xs.length ≤ maxLen ∧ xs.length * 1 ≤ 140737488351232 ∧ ∀ x ∈ xs, (fun n => (Lit.int .u8 n).wf = true) x)) := (reads_slice (d := (Kd.int .u8)) (ok := (fun n => (Lit.int .u8 n).wf = true)) 1 Try.underlying48 (by kernel_rfl) (by kernel_rfl) (reads_int Try.underlying5))
end FnDiskKeeps
end Go.Proofs.Ythphhklbliambaa.Stmt
