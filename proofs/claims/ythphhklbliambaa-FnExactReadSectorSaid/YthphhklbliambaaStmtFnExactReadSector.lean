/- FnExactReadSector: the plain statement out of the printed contract: the machine's side of the law FnExactReadSector. No condition. -/
import Derived.Test.YthphhklbliambaaMFnExactReadSectorx4
import Derived.Test.YthphhklbliambaaOpen
import Derived.WalkKit
import Derived.Below
namespace Go.Proofs.Ythphhklbliambaa.Stmt
open Go.RowKit Go.Proofs.Ythphhklbliambaa.MFnExactReadSector Go.Proofs.YthphhklbliambaaW.PrintWords Go.Proofs.YthphhklbliambaaW.PrintLast Go.Proofs.Ythphhklbliambaa.Opens
set_option linter.unusedVariables false
set_option linter.unusedSimpArgs false
namespace FnExactReadSector
def ok129 (x : S129) : Prop := (fun n => (Lit.int .i64 n).wf = true) x.f0 ∧ (fun s => s.size ≤ 140737488351232) x.f1
theorem reads129 : Reads Try.prog 129 (Of k129 ok129) := by
  have h := reads_struct (P := Try.prog) [(1, Of (Kd.int .i64) (fun n => (Lit.int .i64 n).wf = true)), (1, Of Kd.string (fun s => s.size ≤ 140737488351232))] Try.underlying129 (FieldsFit.cons rfl (by kernel_rfl) (reads_int Try.underlying2) (FieldsFit.cons rfl (by kernel_rfl) (reads_string Try.underlying9) (FieldsFit.nil (by kernel_rfl))))
  refine h.imp (fun w cs hq => ?_)
  obtain ⟨c0, r0, rfl, _, ⟨x0, h0, o0⟩, c1, r1, rfl, _, ⟨x1, h1, o1⟩, hz⟩ := hq
  unfold RowQ at hz
  subst hz
  rw [List.append_nil]
  exact ⟨⟨x0, x1⟩, ⟨c0, _, rfl, h0, h1⟩, ⟨o0, o1⟩⟩
/-- THE PLAIN STATEMENT. -/
def PureS : Prop := ∀ (l0_0 : List ByteArray) (l0_1 : List S129) (a1 : Int), (l0_0.length ≤ maxLen ∧ l0_0.length * 16 ≤ 140737488351232 ∧ ∀ x ∈ l0_0, (fun s => s.size ≤ 140737488351232) x) → (l0_1.length ≤ maxLen ∧ l0_1.length * 24 ≤ 140737488351232 ∧ ∀ x ∈ l0_1, ok129 x) → (Lit.int .i64 a1).wf = true → ∃ k, laws_FnExactReadSector.f k l0_0 l0_1 a1 = some true
theorem walk (P : PureS) (A0_0 : Option Addr) (c0_0 : Nat) (l0_0 : List ByteArray) (A0_1 : Option Addr) (c0_1 : Nat) (l0_1 : List S129) (a1 : Int) (w : World) (e0_0 : l0_0.length ≤ c0_0) (q0_0 : Kd.string.C w A0_0 l0_0.length l0_0) (w0_0 : (l0_0.length ≤ maxLen ∧ l0_0.length * 16 ≤ 140737488351232 ∧ ∀ x ∈ l0_0, (fun s => s.size ≤ 140737488351232) x)) (e0_1 : l0_1.length ≤ c0_1) (q0_1 : k129.C w A0_1 l0_1.length l0_1) (w0_1 : (l0_1.length ≤ maxLen ∧ l0_1.length * 24 ≤ 140737488351232 ∧ ∀ x ∈ l0_1, ok129 x)) (w1 : (Lit.int .i64 a1).wf = true) :
    Calls Try.prog 4 #[.agg #[.slice A0_0 l0_0.length c0_0, .slice A0_1 l0_1.length c0_1], .int .i64 a1] w fun e w' => e = .returned (.bool true) ∧ Below w.heap.size w w' := by
  obtain ⟨k, h⟩ := P l0_0 l0_1 a1 w0_0 w0_1 w1
  refine (laws_FnExactReadSector.calls k A0_0 c0_0 l0_0 A0_1 c0_1 l0_1 a1 true w q0_0 e0_0 q0_1 e0_1 rfl h).mono ?_
  rintro e w' ⟨rfl, hd⟩
  exact ⟨rfl, hd⟩
theorem reads_par0 : Reads Try.prog 25 (RowQ [(1, Of (Kd.slice 9 Kd.string) (fun xs => xs.length ≤ maxLen ∧ xs.length * 16 ≤ 140737488351232 ∧ ∀ x ∈ xs, (fun s => s.size ≤ 140737488351232) x)), (1, Of (Kd.slice 129 k129) (fun xs => xs.length ≤ maxLen ∧ xs.length * 24 ≤ 140737488351232 ∧ ∀ x ∈ xs, ok129 x))]) := (reads_struct [(1, Of (Kd.slice 9 Kd.string) (fun xs => xs.length ≤ maxLen ∧ xs.length * 16 ≤ 140737488351232 ∧ ∀ x ∈ xs, (fun s => s.size ≤ 140737488351232) x)), (1, Of (Kd.slice 129 k129) (fun xs => xs.length ≤ maxLen ∧ xs.length * 24 ≤ 140737488351232 ∧ ∀ x ∈ xs, ok129 x))] Try.underlying25 (FieldsFit.cons rfl (by kernel_rfl) (reads_slice (d := Kd.string) (ok := (fun s => s.size ≤ 140737488351232)) 16 Try.underlying22 (by kernel_rfl) (by kernel_rfl) (reads_string Try.underlying9)) (FieldsFit.cons rfl (by kernel_rfl) (reads_slice (d := k129) (ok := ok129) 24 Try.underlying23 (by kernel_rfl) (by kernel_rfl) reads129) (FieldsFit.nil (by kernel_rfl)))))
theorem reads_par1 : Reads Try.prog 2 (Of (Kd.int .i64) (fun n => (Lit.int .i64 n).wf = true)) := (reads_int Try.underlying2)
end FnExactReadSector
end Go.Proofs.Ythphhklbliambaa.Stmt
