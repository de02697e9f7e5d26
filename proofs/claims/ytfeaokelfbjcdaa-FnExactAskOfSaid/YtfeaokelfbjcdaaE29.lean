/- The engine, part 29: struct literals in rewriting steps. No condition. -/
import Derived.Test.YtfeaokelfbjcdaaE28
namespace Go.Ve
open Go.RowKit
set_option linter.unusedVariables false
section
variable {P : Program} {t : Nat}
def avR (P : Program) (t : Nat) (cells : List AV) (x : AV) (rest : List (Nat × AV)) (o : Option (Nat × Nat)) : Prop × List AV :=
  match o with
  | some (off, ft) =>
    (P.cellsOf ft = x.cells.length ∧ (P.info? ft).isSome = true ∧ x.boxable = true ∧ off + x.cells.length ≤ cells.length ∧ (avFill P t (cells.take off ++ x.cells ++ cells.drop (off + x.cells.length)) rest).1,
      (avFill P t (cells.take off ++ x.cells ++ cells.drop (off + x.cells.length)) rest).2)
  | none => (False, [])
@[go_sem] theorem avFill_nil {cells : List AV} : avFill P t cells [] = (True, cells) := by simp only [avFill]
@[go_sem] theorem avFill_cons {cells : List AV} {i : Nat} {x : AV} {rest : List (Nat × AV)} : avFill P t cells ((i, x) :: rest) = avR P t cells x rest (fld P t i) := by
  unfold avR
  rw [avFill]
  cases fld P t i <;> rfl
@[go_sem] theorem avR_some {cells : List AV} {x : AV} {rest : List (Nat × AV)} {off ft : Nat} : avR P t cells x rest (some (off, ft)) = (P.cellsOf ft = x.cells.length ∧ (P.info? ft).isSome = true ∧ x.boxable = true ∧ off + x.cells.length ≤ cells.length ∧ (avFill P t (cells.take off ++ x.cells ++ cells.drop (off + x.cells.length)) rest).1,
      (avFill P t (cells.take off ++ x.cells ++ cells.drop (off + x.cells.length)) rest).2) := rfl
@[go_sem] theorem vBuild_eq {ps : List (Nat × AV)} : vBuild P t ps = ⟨fldsOk P t = true ∧ zOk P t = true ∧ (avFill P t (zcells P t) ps).1, .agg (avFill P t (zcells P t) ps).2⟩ := rfl
end
end Go.Ve
