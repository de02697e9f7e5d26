/- The program's IncOk and the reference's give one bool at every increment. No condition. -/
import Derived.Test.YtchajonibjacaaaStmtFnExactIncOk
set_option linter.unusedSimpArgs false
set_option linter.unusedVariables false
namespace Go.Proofs.Ytchajonibjacaaa.Pure
open Go.RowKit Go.Proofs.Ytchajonibjacaaa.PFnExactIncOk Go.Proofs.YtchajonibjacaaaW.PrintWords Go.Proofs.YtchajonibjacaaaW.PrintLast
theorem between_eq (a b c : Int) : impl_between.f a b c = some (decide (b ≤ a ∧ a ≤ c)) := by
  unfold impl_between.f
  by_cases h : a ≥ b
  · have h' : b ≤ a := h
    simp [h, h']
  · have h' : ¬ b ≤ a := h
    simp [h, h']
theorem l00In_eq (a b c : Int) : spec_l00In.f a b c = some (decide (b ≤ a ∧ a ≤ c)) := by
  unfold spec_l00In.f
  by_cases h : a ≥ b
  · have h' : b ≤ a := h
    simp [h, h']
  · have h' : ¬ b ≤ a := h
    simp [h, h']
def incB (a b c d : Int) : Bool := decide (2 ≤ a ∧ a ≤ 60 ∧ 1 ≤ b ∧ b ≤ 6 ∧ 0 ≤ c ∧ c ≤ 15 ∧ (b = 6 → c = 0) ∧ if b = 5 then 0 ≤ d ∧ d ≤ 8 else d = 0)
theorem incOk_impl (k : Nat) (a b c d : Int) : impl_IncOk.f (k + 1) a b c d = some (incB a b c d) := by
  unfold impl_IncOk.f impl_isNode.f incB
  simp only [between_eq, Option.bind_some, impl_IncOk.j0]
  by_cases h1 : 2 ≤ a ∧ a ≤ 60
  · by_cases h2 : 1 ≤ b ∧ b ≤ 6
    · by_cases h3 : 0 ≤ c ∧ c ≤ 15
      · by_cases h4 : b = 6
        · by_cases h5 : c = 0
          · subst h4; subst h5; simp [h1]; rw [Bool.eq_iff_iff]; simp
          · subst h4; simp [h1, h3, h5]
        · by_cases h6 : b = 5
          · subst h6; simp [h1, h3]
          · simp [h1, h2, h3, h4, h6]; rw [Bool.eq_iff_iff]; simp
      · simp [h1, h2, h3]; intros; omega
    · simp [h1, h2]; intros; omega
  · simp [h1]; intros; omega
theorem incOk_spec (k : Nat) (a b c d : Int) : spec_IncOk.f (k + 1) a b c d = some (incB a b c d) := by
  unfold spec_IncOk.f spec_l11Inc.f incB
  simp only [l00In_eq, Option.bind_some, spec_l11Inc.j0]
  by_cases h1 : 2 ≤ a ∧ a ≤ 60
  · by_cases h2 : 1 ≤ b ∧ b ≤ 6
    · by_cases h4 : b = 6
      · subst h4
        by_cases h5 : c = 0
        · subst h5; simp [h1]; rw [Bool.eq_iff_iff]; simp
        · simp [h1, h5]
      · by_cases h6 : b = 5
        · subst h6
          by_cases h3 : 0 ≤ c ∧ c ≤ 15
          · simp [h1, h3]
          · simp [h1, h3]; intros; omega
        · by_cases h3 : 0 ≤ c ∧ c ≤ 15
          · simp [h1, h2, h3, h4, h6]; rw [Bool.eq_iff_iff]; simp
          · simp [h1, h2, h3, h4, h6]; intros; omega
    · simp [h1, h2]; intros; omega
  · simp [h1]; intros; omega
theorem FnExactIncOk : Stmt.FnExactIncOk.PureS := by
  intro a b c d _ _ _ _
  refine ⟨1, ?_⟩
  unfold laws_FnExactIncOk.f laws_toInc.f
  simp only [Option.bind_some, incOk_impl 0, incOk_spec 0]
  simp
end Go.Proofs.Ytchajonibjacaaa.Pure
