/- The program's ClientOk and the reference's give one bool at every number. No condition. -/
import Derived.Test.YtchajonibjacaaaPFnExactClientOkx1
set_option linter.unusedSimpArgs false
set_option linter.unusedVariables false
namespace Go.Proofs.Ytchajonibjacaaa.Pure
open Go.RowKit Go.Proofs.Ytchajonibjacaaa.PFnExactClientOk Go.Proofs.YtchajonibjacaaaW.PrintWords Go.Proofs.YtchajonibjacaaaW.PrintLast
theorem between_eq (a b c : Int) : impl_between.f a b c = some (decide (b ≤ a ∧ a ≤ c)) := by
  unfold impl_between.f
  by_cases h : a ≥ b
  · have h' : b ≤ a := h
    simp [h, h']
  · have h' : ¬ b ≤ a := h
    simp [h, h']
theorem l00In_eq (a b c : Int) : spec_l00In.f a b c = some (decide (b ≤ a ∧ a ≤ c)) := by
  unfold spec_l00In.f
  by_cases h : a ≥ b
  · have h' : b ≤ a := h
    simp [h, h']
  · have h' : ¬ b ≤ a := h
    simp [h, h']
theorem FnExactClientOk : laws_FnExactClientOk.Pure := by
  intro a0 _
  unfold laws_FnExactClientOk.f spec_ClientOk.f impl_ClientOk.f impl_isClient.f spec_l17Client.f
  simp only [between_eq, l00In_eq, Option.bind_some]
  simp
end Go.Proofs.Ytchajonibjacaaa.Pure
