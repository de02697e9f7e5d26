/- The program's VerLess is a total order on the pairs that the law draws: transitive, and of two different pairs just one is less. The input: any two lists of bytes within the reach. -/
import Derived.Test.YtchajonibjacaaaStmtFnVers
set_option linter.unusedSimpArgs false
set_option linter.unusedVariables false
namespace Go.Proofs.Ytchajonibjacaaa.Pure
open Go.RowKit Go.Proofs.Ytchajonibjacaaa.MFnVers Go.Proofs.YtchajonibjacaaaW.PrintWords Go.Proofs.YtchajonibjacaaaW.PrintLast
theorem isNaN (a : Int) : cmp_isNaN_int64.f a = some false := by simp [cmp_isNaN_int64.f]
theorem compare_eq (a b : Int) : cmp_Compare_int64.f a b = some (if a < b then -1 else if b < a then 1 else 0) := by
  unfold cmp_Compare_int64.f
  simp only [isNaN, Option.bind_some]
  by_cases h : a < b
  · simp [h]
  · by_cases h' : b < a <;> simp [h, h']
theorem or_two (k : Nat) (a b : Int) : cmp_Or_int.f (k + 3) [a, b] = some (if a = 0 then b else a) := by
  by_cases ha : a = 0 <;> by_cases hb : b = 0 <;> simp [cmp_Or_int.f, cmp_Or_int.l0, rd, wrap64, ha, hb]
theorem compareVers_eq (k : Nat) (a b c d : Int) : impl_compareVers.f (k + 3) a b c d = some (if a < c then -1 else if c < a then 1 else if b < d then -1 else if d < b then 1 else 0) := by
  unfold impl_compareVers.f
  simp only [compare_eq, Option.bind_some, or_two]
  by_cases h : a < c
  · simp [h]
  · by_cases h' : c < a
    · simp [h, h']
    · simp [h, h']
theorem verLess_eq (k : Nat) (a b c d : Int) : impl_VerLess.f (k + 3) a b c d = some (decide (a < c ∨ a = c ∧ b < d)) := by
  unfold impl_VerLess.f
  simp only [compareVers_eq, Option.bind_some, Option.some.injEq]
  by_cases h : a < c
  · simp [h]
  · by_cases h' : c < a
    · have : ¬ a = c := by omega
      simp [h, h', this]
    · have e : a = c := by omega
      by_cases h2 : b < d
      · simp [h2, e]
      · by_cases h3 : d < b <;> simp [h2, h3, e]
theorem next_some (l : List Int) (at_ seed : Int) (h0 : 0 ≤ at_) (h1 : at_ ≤ 1000) : ∃ a c, spec_l00Src_next.f l at_ seed = some (a, at_ + 1, c) := by
  unfold spec_l00Src_next.f
  have e : wrap64 (at_ + 1) = at_ + 1 := by unfold wrap64; omega
  rw [e]
  by_cases h : at_ < (l.length : Int)
  · rw [if_pos h, if_pos h0]
    split <;> exact ⟨_, _, rfl⟩
  · rw [if_neg h]
    split <;> exact ⟨_, _, rfl⟩
theorem pick_some (l : List Int) (at_ seed : Int) (h0 : 0 ≤ at_) (h1 : at_ ≤ 1000) : ∃ a c, spec_l00Src_pick.f l at_ seed 4 = some (a, at_ + 1, c) := by
  unfold spec_l00Src_pick.f
  obtain ⟨a, c, h⟩ := next_some l at_ seed h0 h1
  rw [if_neg (by omega), h]
  simp only [Option.bind_some]
  rw [if_neg (by omega), if_neg (by omega)]
  exact ⟨_, _, rfl⟩
theorem draw_some (l : List Int) : ∃ a b c d, spec_DrawVerLess.f l = some (a, b, c, d) := by
  unfold spec_DrawVerLess.f spec_l00From.f
  simp only [Option.bind_some]
  obtain ⟨a1, c1, h1⟩ := pick_some l 0 0 (by omega) (by omega)
  obtain ⟨a2, c2, h2⟩ := pick_some l (0 + 1) c1 (by omega) (by omega)
  obtain ⟨a3, c3, h3⟩ := pick_some l (0 + 1 + 1) c2 (by omega) (by omega)
  obtain ⟨a4, c4, h4⟩ := pick_some l (0 + 1 + 1 + 1) c3 (by omega) (by omega)
  rw [h1]; simp only [Option.bind_some]
  rw [h2]; simp only [Option.bind_some]
  rw [h3]; simp only [Option.bind_some]
  rw [h4]; simp only [Option.bind_some]
  exact ⟨_, _, _, _, rfl⟩
theorem j0_true (k : Nat) (a b c d : Int) : laws_FnVers.j0 (k + 4) false a b c d = some true := by
  simp only [laws_FnVers.j0]
  rw [if_neg (by simp)]
  simp only [verLess_eq, Option.bind_some]
  by_cases h : (a == c && (b == d)) = true
  · rw [if_pos h]
    simp at h
    obtain ⟨rfl, rfl⟩ := h
    simp
  · rw [if_neg h]
    simp at h
    congr 1
    by_cases h1 : a < c
    · have : ¬ c < a := by omega
      have h2 : ¬ c = a := by omega
      simp [h1, this, h2]
    · by_cases h3 : c < a
      · have h2 : ¬ a = c := by omega
        simp [h1, h3, h2]
      · have e : a = c := by omega
        have hne := h e
        subst e
        by_cases h4 : b < d
        · have : ¬ d < b := by omega
          simp [h4, this]
        · have : d < b := by omega
          simp [h4, this]
theorem FnVers : Stmt.FnVers.PureS := by
  intro l0 l1 _ _
  refine ⟨4, ?_⟩
  unfold laws_FnVers.f
  have hb : ∃ b, laws_b10Long.f l0 l1 = some b := by unfold laws_b10Long.f; split <;> exact ⟨_, rfl⟩
  obtain ⟨b, hb⟩ := hb
  rw [hb]; simp only [Option.bind_some]
  cases b with
  | true => simp
  | false =>
    rw [if_neg (by simp)]
    obtain ⟨a1, a2, a3, a4, ha⟩ := draw_some l0
    obtain ⟨c1, c2, c3, c4, hc⟩ := draw_some l1
    rw [ha, hc]; simp only [Option.bind_some]
    rw [verLess_eq 1]; simp only [Option.bind_some]
    by_cases h1 : decide (a1 < a3 ∨ a1 = a3 ∧ a2 < a4) = true
    · rw [if_pos h1, verLess_eq 1]; simp only [Option.bind_some]
      by_cases h2 : decide (a3 < c1 ∨ a3 = c1 ∧ a4 < c2) = true
      · rw [if_pos h2, verLess_eq 1]; simp only [Option.bind_some]
        have : decide (a1 < c1 ∨ a1 = c1 ∧ a2 < c2) = true := by
          simp only [decide_eq_true_eq] at *
          omega
        rw [this]
        exact j0_true 0 _ _ _ _
      · rw [if_neg h2]; exact j0_true 0 _ _ _ _
    · rw [if_neg h1]; exact j0_true 0 _ _ _ _
end Go.Proofs.Ytchajonibjacaaa.Pure
