/- The data of the seat as Lean's structs, and how they lie in memory. No condition. -/
import Derived.Test.YtfeaokelfbjcdaaE28
import Derived.Test.YtfeaokelfbjcdaaV0
namespace Go.Ve
open Go.Proofs Go.RowKit
set_option linter.unusedVariables false
set_option linter.unusedSimpArgs false
set_option maxRecDepth 10000
set_option maxHeartbeats 4000000
structure Itv where
  first : Int
  last : Int
  acting : List Int
  may : Bool
  deriving Inhabited
def toItv (p : Int × Int × (List Int) × Bool) : Itv := ⟨p.1, p.2.1, p.2.2.1, p.2.2.2⟩
def ofItv (x : Itv) : Int × Int × (List Int) × Bool := (x.first, (x.last, (x.acting, x.may)))
def enItv : En Itv := En.iso ((En.int .i64).prod ((En.int .i64).prod ((En.int .i64).list.prod En.bool))) ofItv toItv (fun _ => rfl)
@[go_sem] theorem av_Itv {τ : Nat} {x : Itv} : enItv.av τ x = .agg [.int .i64 x.first, .int .i64 x.last, .sl τ 1 (x.acting.map (AV.int .i64)), .bool x.may] := rfl
@[go_sem] theorem cs_Itv {τ : Nat} {x : Itv} : enItv.cs τ x = [.int .i64 x.first, .int .i64 x.last, .sl τ 1 (x.acting.map (AV.int .i64)), .bool x.may] := rfl
theorem tot_Itv {x : Itv} : enItv.tot x = x.acting.length := by
  show enItv.tot x = _
  simp [enItv, En.iso, En.prod, ofItv, En.int, En.bool, En.str, tot_list, sum_zero, sum_flat (E := (En.int .i64)) (fun _ => rfl)]
@[go_sem] theorem w_Itv : enItv.w = 4 := rfl
theorem eq_Itv {x y : Itv} : x = y ↔ x.first = y.first ∧ x.last = y.last ∧ x.acting = y.acting ∧ x.may = y.may := by
  cases x; cases y; simp
def okItv (x : Itv) : Prop := (Lit.int .i64 x.first).wf = true ∧ (Lit.int .i64 x.last).wf = true ∧ (x.acting.length ≤ maxLen ∧ x.acting.length * 8 ≤ 140737488351232 ∧ ∀ y1 ∈ x.acting, (Lit.int .i64 y1).wf = true) ∧ True
theorem fit_40 : FitE Try.prog 40 enItv := ⟨by simp only [go_sem], by simp only [go_sem], fun τ x => by simp [go_sem]⟩
theorem fitz_40 : FitZ Try.prog 40 enItv := ⟨by simp only [go_sem], by simp only [go_sem], by simp only [go_sem], by simp [go_sem], by simp only [go_sem], by simp [go_sem], by simp [go_sem], fun τ x => by simp [go_sem, setEl]⟩
theorem fit_43 : FitE Try.prog 43 enItv := ⟨by simp only [go_sem], by simp only [go_sem], fun τ x => by simp [go_sem]⟩
theorem fitz_43 : FitZ Try.prog 43 enItv := ⟨by simp only [go_sem], by simp only [go_sem], by simp only [go_sem], by simp [go_sem], by simp only [go_sem], by simp [go_sem], by simp [go_sem], fun τ x => by simp [go_sem, setEl]⟩
theorem rd_40 : Reads Try.prog 40 (QE enItv okItv) := (reads_struct [(1, QE (En.int .i64) (fun x => (Lit.int .i64 x).wf = true)), (1, QE (En.int .i64) (fun x => (Lit.int .i64 x).wf = true)), (1, QE (En.int .i64).list (fun x => (x.length ≤ maxLen ∧ x.length * 8 ≤ 140737488351232 ∧ ∀ y1 ∈ x, (Lit.int .i64 y1).wf = true))), (1, QE En.bool (fun x => True))] Try.underlying40 (FieldsFit.cons rfl (by kernel_rfl) (rd_int Try.underlying2) (FieldsFit.cons rfl (by kernel_rfl) (rd_int Try.underlying2) (FieldsFit.cons rfl (by kernel_rfl) (rd_list 8 Try.underlying22 (by kernel_rfl) (by kernel_rfl) (rd_int Try.underlying2)) (FieldsFit.cons rfl (by kernel_rfl) (rd_bool Try.underlying4) (FieldsFit.nil (by kernel_rfl))))))).imp fun w cs h => qe_iso (ok := fun p : Int × Int × (List Int) × Bool => (Lit.int .i64 p.1).wf = true ∧ (Lit.int .i64 p.2.1).wf = true ∧ (p.2.2.1.length ≤ maxLen ∧ p.2.2.1.length * 8 ≤ 140737488351232 ∧ ∀ y1 ∈ p.2.2.1, (Lit.int .i64 y1).wf = true) ∧ True) (fun _ => rfl) (rowq_cons (E := (En.int .i64)) (ok := fun x => (Lit.int .i64 x).wf = true) (fun cs h => rowq_cons (E := (En.int .i64)) (ok := fun x => (Lit.int .i64 x).wf = true) (fun cs h => rowq_cons (E := (En.int .i64).list) (ok := fun x => (x.length ≤ maxLen ∧ x.length * 8 ≤ 140737488351232 ∧ ∀ y1 ∈ x, (Lit.int .i64 y1).wf = true)) (fun cs h => rowq_one (E := En.bool) (ok := fun x => True) h) h) h) h)
end Go.Ve
