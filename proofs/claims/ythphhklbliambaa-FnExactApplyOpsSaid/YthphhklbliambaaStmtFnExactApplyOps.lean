/- FnExactApplyOps: the plain statement out of the printed contract: the machine's side of the law FnExactApplyOps. No condition. -/
import Derived.Test.YthphhklbliambaaMFnExactApplyOpsx5
import Derived.Test.YthphhklbliambaaOpen
import Derived.WalkKit
import Derived.Below
namespace Go.Proofs.Ythphhklbliambaa.Stmt
open Go.RowKit Go.Proofs.Ythphhklbliambaa.MFnExactApplyOps Go.Proofs.YthphhklbliambaaW.PrintWords Go.Proofs.YthphhklbliambaaW.PrintLast Go.Proofs.Ythphhklbliambaa.Opens
set_option linter.unusedVariables false
set_option linter.unusedSimpArgs false
namespace FnExactApplyOps
def ok57 (x : S57) : Prop := (fun n => (Lit.int .i64 n).wf = true) x.f0 ∧ (fun n => (Lit.int .i64 n).wf = true) x.f1 ∧ (fun s => s.size ≤ 140737488351232) x.f2
theorem reads57 : Reads Try.prog 57 (Of k57 ok57) := by
  have h := reads_struct (P := Try.prog) [(1, Of (Kd.int .i64) (fun n => (Lit.int .i64 n).wf = true)), (1, Of (Kd.int .i64) (fun n => (Lit.int .i64 n).wf = true)), (1, Of Kd.string (fun s => s.size ≤ 140737488351232))] Try.underlying57 (FieldsFit.cons rfl (by kernel_rfl) (reads_int Try.underlying2) (FieldsFit.cons rfl (by kernel_rfl) (reads_int Try.underlying2) (FieldsFit.cons rfl (by kernel_rfl) (reads_string Try.underlying9) (FieldsFit.nil (by kernel_rfl)))))
  refine h.imp (fun w cs hq => ?_)
  obtain ⟨c0, r0, rfl, _, ⟨x0, h0, o0⟩, c1, r1, rfl, _, ⟨x1, h1, o1⟩, c2, r2, rfl, _, ⟨x2, h2, o2⟩, hz⟩ := hq
  unfold RowQ at hz
  subst hz
  rw [List.append_nil]
  exact ⟨⟨x0, x1, x2⟩, ⟨c0, _, rfl, h0, ⟨c1, _, rfl, h1, h2⟩⟩, ⟨o0, o1, o2⟩⟩
/-- THE PLAIN STATEMENT. -/
def PureS : Prop := ∀ (a0 : ByteArray) (a1 : Bool) (l2 : List S57), a0.size ≤ 140737488351232 → (l2.length ≤ maxLen ∧ l2.length * 32 ≤ 140737488351232 ∧ ∀ x ∈ l2, ok57 x) → ∃ k, laws_FnExactApplyOps.f k a0 a1 l2 = some true
theorem walk (P : PureS) (a0 : ByteArray) (a1 : Bool) (A2 : Option Addr) (c2 : Nat) (l2 : List S57) (w : World) (w0 : a0.size ≤ 140737488351232)  (e2 : l2.length ≤ c2) (q2 : k57.C w A2 l2.length l2) (w2 : (l2.length ≤ maxLen ∧ l2.length * 32 ≤ 140737488351232 ∧ ∀ x ∈ l2, ok57 x)) :
    Calls Try.prog 12 #[.string a0, .bool a1, .slice A2 l2.length c2] w fun e w' => e = .returned (.bool true) ∧ Below w.heap.size w w' := by
  obtain ⟨k, h⟩ := P a0 a1 l2 w0 w2
  refine (laws_FnExactApplyOps.calls k a0 a1 A2 c2 l2 true w q2 e2 rfl h).mono ?_
  rintro e w' ⟨rfl, hd⟩
  exact ⟨rfl, hd⟩
theorem reads_par0 : Reads Try.prog 9 (Of Kd.string (fun s => s.size ≤ 140737488351232)) := (reads_string Try.underlying9)
theorem reads_par1 : Reads Try.prog 4 (Of Kd.bool (fun _ => True)) := (reads_bool Try.underlying4)
theorem reads_par2 : Reads Try.prog 70 (Of (Kd.slice 57 k57) (fun xs => xs.length ≤ maxLen ∧ xs.length * 32 ≤ 140737488351232 ∧ ∀ x ∈ xs, ok57 x)) := (reads_slice (d := k57) (ok := ok57) 32 Try.underlying70 (by kernel_rfl) (by kernel_rfl) reads57)
end FnExactApplyOps
end Go.Proofs.Ythphhklbliambaa.Stmt
