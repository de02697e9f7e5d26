/- The program's MonMsgOk and the reference's give one bool at every message of the monitors. No condition. -/
import Derived.Test.YtchajonibjacaaaStmtFnExactMonMsgOk
set_option linter.unusedSimpArgs false
set_option linter.unusedVariables false
namespace Go.Proofs.Ytchajonibjacaaa.Pure
open Go.RowKit Go.Proofs.Ytchajonibjacaaa.PFnExactMonMsgOk Go.Proofs.YtchajonibjacaaaW.PrintWords Go.Proofs.YtchajonibjacaaaW.PrintLast
theorem between_eq (a b c : Int) : impl_between.f a b c = some (decide (b ≤ a ∧ a ≤ c)) := by
  unfold impl_between.f
  by_cases h : a ≥ b
  · have h' : b ≤ a := h
    simp [h, h']
  · have h' : ¬ b ≤ a := h
    simp [h, h']
theorem l00In_eq (a b c : Int) : spec_l00In.f a b c = some (decide (b ≤ a ∧ a ≤ c)) := by
  unfold spec_l00In.f
  by_cases h : a ≥ b
  · have h' : b ≤ a := h
    simp [h, h']
  · have h' : ¬ b ≤ a := h
    simp [h, h']
theorem isNaN (a : Int) : cmp_isNaN_int64.f a = some false := by simp [cmp_isNaN_int64.f]
theorem compare_eq (a b : Int) : cmp_Compare_int64.f a b = some (if a < b then -1 else if b < a then 1 else 0) := by
  unfold cmp_Compare_int64.f
  simp only [isNaN, Option.bind_some]
  by_cases h : a < b
  · simp [h]
  · by_cases h' : b < a <;> simp [h, h']
theorem or_two (k : Nat) (a b : Int) : cmp_Or_int.f (k + 3) [a, b] = some (if a = 0 then b else a) := by
  by_cases ha : a = 0 <;> by_cases hb : b = 0 <;> simp [cmp_Or_int.f, cmp_Or_int.l0, rd, wrap64, ha, hb]
def incB (a b c d : Int) : Bool := decide (2 ≤ a ∧ a ≤ 60 ∧ 1 ≤ b ∧ b ≤ 6 ∧ 0 ≤ c ∧ c ≤ 15 ∧ (b = 6 → c = 0) ∧ if b = 5 then 0 ≤ d ∧ d ≤ 8 else d = 0)
theorem incOk_impl (k : Nat) (a b c d : Int) : impl_IncOk.f (k + 1) a b c d = some (incB a b c d) := by
  unfold impl_IncOk.f impl_isNode.f incB
  simp only [between_eq, Option.bind_some, impl_IncOk.j0]
  by_cases h1 : 2 ≤ a ∧ a ≤ 60
  · by_cases h2 : 1 ≤ b ∧ b ≤ 6
    · by_cases h3 : 0 ≤ c ∧ c ≤ 15
      · by_cases h4 : b = 6
        · by_cases h5 : c = 0
          · subst h4; subst h5; simp [h1]; rw [Bool.eq_iff_iff]; simp
          · subst h4; simp [h1, h3, h5]
        · by_cases h6 : b = 5
          · subst h6; simp [h1, h3]
          · simp [h1, h2, h3, h4, h6]; rw [Bool.eq_iff_iff]; simp
      · simp [h1, h2, h3]; intros; omega
    · simp [h1, h2]; intros; omega
  · simp [h1]; intros; omega
theorem incOk_spec (k : Nat) (a b c d : Int) : spec_IncOk.f (k + 1) a b c d = some (incB a b c d) := by
  unfold spec_IncOk.f spec_l11Inc.f incB
  simp only [l00In_eq, Option.bind_some, spec_l11Inc.j0]
  by_cases h1 : 2 ≤ a ∧ a ≤ 60
  · by_cases h2 : 1 ≤ b ∧ b ≤ 6
    · by_cases h4 : b = 6
      · subst h4
        by_cases h5 : c = 0
        · subst h5; simp [h1]; rw [Bool.eq_iff_iff]; simp
        · simp [h1, h5]
      · by_cases h6 : b = 5
        · subst h6
          by_cases h3 : 0 ≤ c ∧ c ≤ 15
          · simp [h1, h3]
          · simp [h1, h3]; intros; omega
        · by_cases h3 : 0 ≤ c ∧ c ≤ 15
          · simp [h1, h2, h3, h4, h6]; rw [Bool.eq_iff_iff]; simp
          · simp [h1, h2, h3, h4, h6]; intros; omega
    · simp [h1, h2]; intros; omega
  · simp [h1]; intros; omega
def ballotB (a b : Int) : Bool := decide ((a = 0 ∧ b = 0) ∨ (1 ≤ a ∧ a ≤ 999 ∧ 0 ≤ b ∧ b ≤ 4))
theorem ballotOk_impl (a b : Int) : impl_ballotOk.f a b = some (ballotB a b) := by
  unfold impl_ballotOk.f ballotB
  simp only [between_eq, Option.bind_some]
  by_cases h0 : a = 0 ∧ b = 0
  · simp [h0]
  · by_cases h1 : 1 ≤ a ∧ a ≤ 999
    · have h2 : ¬ a = 0 := by omega
      simp [h1, h2]
    · have h3 : ¬ (1 ≤ a ∧ a ≤ 999 ∧ 0 ≤ b ∧ b ≤ 4) := by omega
      have h4 : ¬ ((a == 0 && (b == 0)) = true) := by simpa using h0
      rw [if_neg h4]
      simp [h1, h0, h3]
theorem ballotOk_spec (a b : Int) : spec_l21Ballot.f a b = some (ballotB a b) := by
  unfold spec_l21Ballot.f ballotB
  simp only [l00In_eq, Option.bind_some]
  by_cases h0 : a = 0 ∧ b = 0
  · simp [h0]
  · by_cases h1 : 1 ≤ a ∧ a ≤ 999
    · have h2 : ¬ a = 0 := by omega
      simp [h1, h2]
    · have h3 : ¬ (1 ≤ a ∧ a ≤ 999 ∧ 0 ≤ b ∧ b ≤ 4) := by omega
      have h4 : ¬ ((a == 0 && (b == 0)) = true) := by simpa using h0
      rw [if_neg h4]
      simp [h1, h0, h3]
theorem lessBallot_impl (k : Nat) (a b c d : Int) : impl_lessBallot.f (k + 3) a b c d = some (decide (a < c ∨ a = c ∧ b < d)) := by
  unfold impl_lessBallot.f impl_compareBallots.f
  simp only [compare_eq, Option.bind_some, or_two, Option.some.injEq]
  by_cases h : a < c
  · simp [h]
  · by_cases h' : c < a
    · have : ¬ a = c := by omega
      simp [h, h', this]
    · have e : a = c := by omega
      by_cases h2 : b < d
      · simp [h2, e]
      · by_cases h3 : d < b <;> simp [h2, h3, e]
theorem lessBallot_spec (a b c d : Int) : spec_l21Less.f a b c d = some (decide (a < c ∨ a = c ∧ b < d)) := by
  unfold spec_l21Less.f
  by_cases h : a < c
  · simp [h]
  · by_cases h2 : a = c <;> simp [h, h2]
theorem monMsgOk_same (k : Nat) (kd fr tt ep b0 b1 c0 c1 i0 i1 i2 i3 : Int) : ∃ v, spec_MonMsgOk.f (k + 6) kd fr tt ep b0 b1 c0 c1 i0 i1 i2 i3 = some v ∧ impl_MonMsgOk.f (k + 6) kd fr tt ep b0 b1 c0 c1 i0 i1 i2 i3 = some v := by
  unfold spec_MonMsgOk.f impl_MonMsgOk.f
  simp only [spec_MonMsgOk.j0, impl_MonMsgOk.j0, spec_MonMsgOk.j1, impl_MonMsgOk.j1, spec_l21Epoch.f, impl_isDecidable.f, spec_l21Full.f, spec_l21Value.f, impl_incWith.f, impl_incFor.f, ballotOk_impl, ballotOk_spec, lessBallot_impl, lessBallot_spec, l00In_eq, between_eq, incOk_impl, incOk_spec, Option.bind_some]
  generalize incB i0 i1 i2 i3 = p1
  generalize ballotB b0 b1 = p2
  generalize ballotB c0 c1 = p3
  generalize decide (c0 < b0 ∨ c0 = b0 ∧ c1 < b1) = p4
  generalize decide (0 ≤ fr ∧ fr ≤ 4) = p5
  generalize decide (0 ≤ tt ∧ tt ≤ 4) = p6
  generalize decide (2 ≤ ep ∧ ep ≤ 60) = p7
  generalize (i0 == 0 && (i1 == 0 && (i2 == 0 && (i3 == 0)))) = p8
  generalize (i0 == ep) = p9
  have hz : (!(b0 == 0) || (!(b1 == 0))) = !(b0 == 0 && (b1 == 0)) := by cases (b0 == 0) <;> cases (b1 == 0) <;> rfl
  rw [hz]
  generalize (b0 == 0 && (b1 == 0)) = p10
  generalize (c0 == 0 && (c1 == 0)) = p11
  cases p5
  · exact ⟨false, by simp⟩
  cases p6
  · exact ⟨false, by simp⟩
  cases p7
  · exact ⟨false, by simp⟩
  cases p2
  · exact ⟨false, by simp⟩
  cases p10
  · by_cases h1 : kd = 1
    · subst h1; cases p11 <;> simp
    · by_cases h4 : kd = 4
      · subst h4; cases p11 <;> simp
      · have e4 : (kd == 4) = false := by simp [h4]
        by_cases h2 : kd = 2
        · subst h2; cases p3 <;> cases p4 <;> cases p11 <;> cases p1 <;> simp
        · by_cases h3 : kd = 3
          · subst h3; cases p11 <;> cases p1 <;> simp
          · simp [h1, h2, h3, e4]
  · exact ⟨false, by simp⟩
theorem FnExactMonMsgOk : Stmt.FnExactMonMsgOk.PureS := by
  intro a0 a1 a2 a3 a4 a5 a6 a7 a8 a9 a10 a11 _ _ _ _ _ _ _ _ _ _ _ _
  refine ⟨6, ?_⟩
  unfold laws_FnExactMonMsgOk.f laws_toMonMsg.f laws_toBallot.f laws_toInc.f
  obtain ⟨v, h1, h2⟩ := monMsgOk_same 0 a0 a1 a2 a3 a4 a5 a6 a7 a8 a9 a10 a11
  simp only [Option.bind_some]
  rw [h1, h2]; simp
end Go.Proofs.Ytchajonibjacaaa.Pure
