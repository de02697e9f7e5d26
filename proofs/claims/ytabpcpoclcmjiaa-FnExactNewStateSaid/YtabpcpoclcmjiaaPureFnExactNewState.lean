/- The program's NewState and the reference's give one state, in memory of its own, at every group. No condition. -/
import Derived.Test.YtabpcpoclcmjiaaStmtFnExactNewState
set_option linter.unusedSimpArgs false
set_option linter.unusedVariables false
namespace Go.Proofs.Ytabpcpoclcmjiaa.Pure
open Go.RowKit Go.Proofs.Ytabpcpoclcmjiaa.MFnExactNewState Go.Proofs.YtabpcpoclcmjiaaW.PrintWords Go.Proofs.YtabpcpoclcmjiaaW.PrintLast
theorem between_eq (a b c : Int) : impl_between.f a b c = some (decide (b ≤ a ∧ a ≤ c)) := by
  unfold impl_between.f
  by_cases h : a ≥ b
  · have h' : b ≤ a := h
    simp [h, h']
  · have h' : ¬ b ≤ a := h
    simp [h, h']
theorem l00In_eq (a b c : Int) : spec_l00In.f a b c = some (decide (b ≤ a ∧ a ≤ c)) := by
  unfold spec_l00In.f
  by_cases h : a ≥ b
  · have h' : b ≤ a := h
    simp [h, h']
  · have h' : ¬ b ≤ a := h
    simp [h, h']
theorem newState_same (a b : Int) : ∃ x y, spec_NewState.f a b = some (x, y, 0, 0, 0, 0, [], [], [], 0, 0, []) ∧ impl_NewState.f a b = some (x, y, 0, 0, 0, 0, [], [], [], 0, 0, []) := by
  unfold spec_NewState.f impl_NewState.f spec_l17Pg.f impl_pgOk.f
  simp only [between_eq, l00In_eq, Option.bind_some]
  by_cases h1 : 1 ≤ a ∧ a ≤ 4
  · by_cases h2 : 0 ≤ b ∧ b ≤ 15
    · exact ⟨a, b, by simp [h1, h2], by simp [h1, h2]⟩
    · exact ⟨0, 0, by simp [h1, h2], by simp [h1, h2]⟩
  · exact ⟨0, 0, by simp [h1], by simp [h1]⟩
theorem FnExactNewState : Stmt.FnExactNewState.PureS := by
  intro a b _ _
  obtain ⟨x, y, hs, hi⟩ := newState_same a b
  unfold laws_FnExactNewState.f laws_toPg.f
  simp only [Option.bind_some, hs, hi]
  simp [laws_eqPgState.f, laws_eqPg.f, laws_eqVer.f, laws_eqHeadS.f, laws_eqLastS.f, laws_eqEntryS.f, laws_eqChunkS.f, laws_markPgState.f, laws_markHeadS.f, laws_markLastS.f, laws_markEntryS.f, laws_markChunkS.f, laws_heldPgState.f, laws_heldHeadS.f, laws_heldLastS.f, laws_heldEntryS.f, laws_heldChunkS.f]
end Go.Proofs.Ytabpcpoclcmjiaa.Pure
