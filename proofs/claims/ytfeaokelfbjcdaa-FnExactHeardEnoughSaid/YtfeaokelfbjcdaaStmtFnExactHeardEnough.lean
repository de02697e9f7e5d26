/- FnExactHeardEnough: the plain statement out of the printed contract: the machine's side of the law FnExactHeardEnough. No condition. -/
import Derived.Test.YtfeaokelfbjcdaaMFnExactHeardEnoughx7
import Derived.Test.YtfeaokelfbjcdaaOpen
import Derived.WalkKit
import Derived.Below
namespace Go.Proofs.Ytfeaokelfbjcdaa.Stmt
open Go.RowKit Go.Proofs.Ytfeaokelfbjcdaa.MFnExactHeardEnough Go.Proofs.YtfeaokelfbjcdaaW.PrintWords Go.Proofs.YtfeaokelfbjcdaaW.PrintLast Go.Proofs.Ytfeaokelfbjcdaa.Opens
set_option linter.unusedVariables false
set_option linter.unusedSimpArgs false
namespace FnExactHeardEnough
def ok40 (x : S40) : Prop := (fun n => (Lit.int .i64 n).wf = true) x.f0 ∧ (fun n => (Lit.int .i64 n).wf = true) x.f1 ∧ (fun xs => xs.length ≤ maxLen ∧ xs.length * 8 ≤ 140737488351232 ∧ ∀ x ∈ xs, (fun n => (Lit.int .i64 n).wf = true) x) x.f2 ∧ (fun _ => True) x.f3
theorem reads40 : Reads Try.prog 40 (Of k40 ok40) := by
  have h := reads_struct (P := Try.prog) [(1, Of (Kd.int .i64) (fun n => (Lit.int .i64 n).wf = true)), (1, Of (Kd.int .i64) (fun n => (Lit.int .i64 n).wf = true)), (1, Of (Kd.slice 2 (Kd.int .i64)) (fun xs => xs.length ≤ maxLen ∧ xs.length * 8 ≤ 140737488351232 ∧ ∀ x ∈ xs, (fun n => (Lit.int .i64 n).wf = true) x)), (1, Of Kd.bool (fun _ => True))] Try.underlying40 (FieldsFit.cons rfl (by kernel_rfl) (reads_int Try.underlying2) (FieldsFit.cons rfl (by kernel_rfl) (reads_int Try.underlying2) (FieldsFit.cons rfl (by kernel_rfl) (reads_slice (d := (Kd.int .i64)) (ok := (fun n => (Lit.int .i64 n).wf = true)) 8 Try.underlying22 (by kernel_rfl) (by kernel_rfl) (reads_int Try.underlying2)) (FieldsFit.cons rfl (by kernel_rfl) (reads_bool Try.underlying4) (FieldsFit.nil (by kernel_rfl))))))
  refine h.imp (fun w cs hq => ?_)
  obtain ⟨c0, r0, rfl, _, ⟨x0, h0, o0⟩, c1, r1, rfl, _, ⟨x1, h1, o1⟩, c2, r2, rfl, _, ⟨x2, h2, o2⟩, c3, r3, rfl, _, ⟨x3, h3, o3⟩, hz⟩ := hq
  unfold RowQ at hz
  subst hz
  rw [List.append_nil]
  exact ⟨⟨x0, x1, x2, x3⟩, ⟨c0, _, rfl, h0, ⟨c1, _, rfl, h1, ⟨c2, _, rfl, h2, h3⟩⟩⟩, ⟨o0, o1, o2, o3⟩⟩
/-- THE PLAIN STATEMENT. -/
def PureS : Prop := ∀ (l0 : List S40) (a1 : Int) (a2 : Int) (l3 : List Int), (l0.length ≤ maxLen ∧ l0.length * 48 ≤ 140737488351232 ∧ ∀ x ∈ l0, ok40 x) → (Lit.int .i64 a1).wf = true → (Lit.int .i64 a2).wf = true → (l3.length ≤ maxLen ∧ l3.length * 8 ≤ 140737488351232 ∧ ∀ x ∈ l3, (fun n => (Lit.int .i64 n).wf = true) x) → ∃ k, laws_FnExactHeardEnough.f k l0 a1 a2 l3 = some true
theorem walk (P : PureS) (A0 : Option Addr) (c0 : Nat) (l0 : List S40) (a1 : Int) (a2 : Int) (A3 : Option Addr) (c3 : Nat) (l3 : List Int) (w : World) (e0 : l0.length ≤ c0) (q0 : k40.C w A0 l0.length l0) (w0 : (l0.length ≤ maxLen ∧ l0.length * 48 ≤ 140737488351232 ∧ ∀ x ∈ l0, ok40 x)) (w1 : (Lit.int .i64 a1).wf = true) (w2 : (Lit.int .i64 a2).wf = true) (e3 : l3.length ≤ c3) (q3 : (Kd.int .i64).C w A3 l3.length l3) (w3 : (l3.length ≤ maxLen ∧ l3.length * 8 ≤ 140737488351232 ∧ ∀ x ∈ l3, (fun n => (Lit.int .i64 n).wf = true) x)) :
    Calls Try.prog 11 #[.slice A0 l0.length c0, .int .i64 a1, .int .i64 a2, .slice A3 l3.length c3] w fun e w' => e = .returned (.bool true) ∧ Below w.heap.size w w' := by
  obtain ⟨k, h⟩ := P l0 a1 a2 l3 w0 w1 w2 w3
  refine (laws_FnExactHeardEnough.calls k A0 c0 l0 a1 a2 A3 c3 l3 true w q0 e0 q3 e3 rfl h).mono ?_
  rintro e w' ⟨rfl, hd⟩
  exact ⟨rfl, hd⟩
theorem reads_par0 : Reads Try.prog 30 (Of (Kd.slice 40 k40) (fun xs => xs.length ≤ maxLen ∧ xs.length * 48 ≤ 140737488351232 ∧ ∀ x ∈ xs, ok40 x)) := (reads_slice (d := k40) (ok := ok40) 48 Try.underlying30 (by kernel_rfl) (by kernel_rfl) reads40)
theorem reads_par1 : Reads Try.prog 2 (Of (Kd.int .i64) (fun n => (Lit.int .i64 n).wf = true)) := (reads_int Try.underlying2)
theorem reads_par2 : Reads Try.prog 2 (Of (Kd.int .i64) (fun n => (Lit.int .i64 n).wf = true)) := (reads_int Try.underlying2)
theorem reads_par3 : Reads Try.prog 22 (Of (Kd.slice 2 (Kd.int .i64)) (fun xs => xs.length ≤ maxLen ∧ xs.length * 8 ≤ 140737488351232 ∧ ∀ x ∈ xs, (fun n => (Lit.int .i64 n).wf = true) x)) := (reads_slice (d := (Kd.int .i64)) (ok := (fun n => (Lit.int .i64 n).wf = true)) 8 Try.underlying22 (by kernel_rfl) (by kernel_rfl) (reads_int Try.underlying2))
end FnExactHeardEnough
end Go.Proofs.Ytfeaokelfbjcdaa.Stmt
