/- The program's OpOk and the reference's give one bool at every code and every operation. No condition. -/
import Derived.Test.YtchajonibjacaaaStmtFnExactOpOk
set_option linter.unusedSimpArgs false
set_option linter.unusedVariables false
namespace Go.Proofs.Ytchajonibjacaaa.Pure
open Go.RowKit Go.Proofs.Ytchajonibjacaaa.PFnExactOpOk Go.Proofs.YtchajonibjacaaaW.PrintWords Go.Proofs.YtchajonibjacaaaW.PrintLast
theorem between_eq (a b c : Int) : impl_between.f a b c = some (decide (b ≤ a ∧ a ≤ c)) := by
  unfold impl_between.f
  by_cases h : a ≥ b
  · have h' : b ≤ a := h
    simp [h, h']
  · have h' : ¬ b ≤ a := h
    simp [h, h']
theorem l00In_eq (a b c : Int) : spec_l00In.f a b c = some (decide (b ≤ a ∧ a ≤ c)) := by
  unfold spec_l00In.f
  by_cases h : a ≥ b
  · have h' : b ≤ a := h
    simp [h, h']
  · have h' : ¬ b ≤ a := h
    simp [h, h']
def codeB (a b : Int) : Bool := decide (1 ≤ a ∧ a ≤ 4) && decide (0 ≤ b ∧ b ≤ 3)
theorem codeOk_impl (a b : Int) : impl_CodeOk.f a b = some (codeB a b) := by
  unfold impl_CodeOk.f codeB
  simp only [between_eq, Option.bind_some]
  by_cases h : 1 ≤ a ∧ a ≤ 4 <;> simp [h]
theorem codeOk_spec (a b : Int) : spec_CodeOk.f a b = some (codeB a b) := by
  unfold spec_CodeOk.f spec_l04Code.f codeB
  simp only [l00In_eq, Option.bind_some]
  by_cases h : 1 ≤ a ∧ a ≤ 4 <;> simp [h]
theorem opOk_same (k : Nat) (a b x y : Int) (s : ByteArray) : ∃ v, spec_OpOk.f (k + 1) a b x y s = some v ∧ impl_OpOk.f (k + 1) a b x y s = some v := by
  unfold spec_OpOk.f impl_OpOk.f
  simp only [codeOk_impl, codeOk_spec, l00In_eq, Option.bind_some, spec_OpOk.j0, impl_OpOk.j0, between_eq]
  cases codeB a b with
  | false => exact ⟨false, by simp⟩
  | true =>
    simp only [if_true]
    by_cases h1 : x = 1
    · subst h1; by_cases hy : y = 0 <;> simp [hy]
    · by_cases h6 : x = 6
      · subst h6; by_cases hy : y = 0 <;> simp [hy]
      · have e1 : (x == 1) = false := by simp [h1]
        have e6 : (x == 6) = false := by simp [h6]
        simp only [if_neg h1, e6, Bool.false_eq_true, if_false]
        by_cases h2 : x = 2
        · subst h2; by_cases hy : y = 0 <;> simp [hy]
        · by_cases h3 : x = 3
          · subst h3; by_cases ha : a = 1 <;> by_cases hr : 0 ≤ y ∧ y ≤ 64 <;> simp [ha, hr]
          · by_cases h4 : x = 4
            · subst h4; by_cases ha : a = 1 <;> by_cases hy : y = 0 <;> simp [ha, hy]
            · by_cases h5 : x = 5
              · subst h5; by_cases ha : a = 1 <;> by_cases hr : 0 ≤ y ∧ y ≤ 64 <;> simp [ha, hr]
              · simp [h2, h3, h4, h5]
theorem FnExactOpOk : Stmt.FnExactOpOk.PureS := by
  intro a b x y s _ _ _ _ _
  refine ⟨1, ?_⟩
  unfold laws_FnExactOpOk.f laws_szOp.f laws_toOp.f laws_toCode.f
  obtain ⟨v, h1, h2⟩ := opOk_same 0 a b x y s
  split
  · simp
  · simp only [Option.bind_some]
    split
    · rfl
    · rw [h1, h2]; simp
end Go.Proofs.Ytchajonibjacaaa.Pure
