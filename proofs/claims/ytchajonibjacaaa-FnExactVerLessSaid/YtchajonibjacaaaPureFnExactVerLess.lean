/- The program's VerLess and the reference's give one bool at every two versions. No condition. -/
import Derived.Test.YtchajonibjacaaaStmtFnExactVerLess
set_option linter.unusedSimpArgs false
set_option linter.unusedVariables false
namespace Go.Proofs.Ytchajonibjacaaa.Pure
open Go.RowKit Go.Proofs.Ytchajonibjacaaa.PFnExactVerLess Go.Proofs.YtchajonibjacaaaW.PrintWords Go.Proofs.YtchajonibjacaaaW.PrintLast
theorem isNaN (a : Int) : cmp_isNaN_int64.f a = some false := by simp [cmp_isNaN_int64.f]
theorem compare_eq (a b : Int) : cmp_Compare_int64.f a b = some (if a < b then -1 else if b < a then 1 else 0) := by
  unfold cmp_Compare_int64.f
  simp only [isNaN, Option.bind_some]
  by_cases h : a < b
  · simp [h]
  · by_cases h' : b < a <;> simp [h, h']
theorem or_two (k : Nat) (a b : Int) : cmp_Or_int.f (k + 3) [a, b] = some (if a = 0 then b else a) := by
  by_cases ha : a = 0 <;> by_cases hb : b = 0 <;> simp [cmp_Or_int.f, cmp_Or_int.l0, rd, wrap64, ha, hb]
theorem compareVers_eq (k : Nat) (a b c d : Int) : impl_compareVers.f (k + 3) a b c d = some (if a < c then -1 else if c < a then 1 else if b < d then -1 else if d < b then 1 else 0) := by
  unfold impl_compareVers.f
  simp only [compare_eq, Option.bind_some, or_two]
  by_cases h : a < c
  · simp [h]
  · by_cases h' : c < a
    · simp [h, h']
    · simp [h, h']
theorem verLess_eq (k : Nat) (a b c d : Int) : impl_VerLess.f (k + 3) a b c d = some (decide (a < c ∨ a = c ∧ b < d)) := by
  unfold impl_VerLess.f
  simp only [compareVers_eq, Option.bind_some, Option.some.injEq]
  by_cases h : a < c
  · simp [h]
  · by_cases h' : c < a
    · have : ¬ a = c := by omega
      simp [h, h', this]
    · have e : a = c := by omega
      by_cases h2 : b < d
      · simp [h2, e]
      · by_cases h3 : d < b <;> simp [h2, h3, e]
theorem FnExactVerLess : Stmt.FnExactVerLess.PureS := by
  intro a b c d _ _ _ _
  refine ⟨3, ?_⟩
  unfold laws_FnExactVerLess.f laws_toVer.f spec_VerLess.f
  simp only [Option.bind_some, verLess_eq 0]
  by_cases h : a < c
  · simp [h]
  · by_cases h2 : a = c <;> simp [h, h2]
end Go.Proofs.Ytchajonibjacaaa.Pure
