/- The program's Reads and the reference's give one bool at every operation. No condition. -/
import Derived.Test.YtchajonibjacaaaStmtFnExactReads
set_option linter.unusedSimpArgs false
set_option linter.unusedVariables false
namespace Go.Proofs.Ytchajonibjacaaa.Pure
open Go.RowKit Go.Proofs.Ytchajonibjacaaa.PFnExactReads Go.Proofs.YtchajonibjacaaaW.PrintWords Go.Proofs.YtchajonibjacaaaW.PrintLast
theorem FnExactReads : Stmt.FnExactReads.PureS := by
  intro a b s _ _ _
  unfold laws_FnExactReads.f laws_szOp.f laws_toOp.f spec_Reads.f impl_Reads.f
  split <;> simp
end Go.Proofs.Ytchajonibjacaaa.Pure
