/- The program's ApplyOp and the reference's give one body at every operation. No condition. -/
import Derived.Test.YthphhklbliambaaStmtFnExactApplyOp
import Derived.Lib.Strings
set_option linter.unusedSimpArgs false
set_option linter.unusedVariables false
namespace Go.Proofs.Ythphhklbliambaa.Pure
open Go.RowKit Go.Proofs.Ythphhklbliambaa.MFnExactApplyOp Go.Proofs.YthphhklbliambaaW.PrintWords Go.Proofs.YthphhklbliambaaW.PrintLast
theorem evc {α : Type} {g : Nat → Option α} {r : α} (h : ∀ k, g k = some r) : Ev g r := ⟨0, fun k _ => h k⟩
theorem evsucc {α : Type} {g : Nat → Option α} {r : α} (h : Ev (fun k => g (k + 1)) r) : Ev g r := by
  obtain ⟨K, hK⟩ := h
  refine ⟨K + 1, fun k hk => ?_⟩
  obtain ⟨k, rfl⟩ : ∃ m, k = m + 1 := ⟨k - 1, by omega⟩
  exact hK k (by omega)
theorem evp {α : Type} {c : Prop} [Decidable c] {g f : Nat → Option α} {r : α} (hc : c) (h : Ev g r) : Ev (fun k => if c then g k else f k) r := by
  simp only [if_pos hc]; exact h
theorem evn {α : Type} {c : Prop} [Decidable c] {g f : Nat → Option α} {r : α} (hc : ¬ c) (h : Ev f r) : Ev (fun k => if c then g k else f k) r := by
  simp only [if_neg hc]; exact h
theorem evb {α β : Type} {g : Nat → Option α} {f : Nat → α → Option β} {a : α} {r : β} (h : Ev g a) (k : Ev (fun n => f n a) r) : Ev (fun n => (g n).bind (f n)) r := Ev.bind h k
theorem evk {α β : Type} {g : Option α} {f : Nat → α → Option β} {a : α} {r : β} (h : g = some a) (k : Ev (fun n => f n a) r) : Ev (fun n => g.bind (f n)) r := by subst h; exact k
theorem ev_ex {α : Type} {g : Nat → Option α} {r : α} (h : Ev g r) : ∃ k, g k = some r := by obtain ⟨K, hK⟩ := h; exact ⟨K, hK K (Nat.le_refl _)⟩
theorem wsucc {i n : Nat} (h : i < n) (hn : n ≤ 140737488351232) : wrap64 ((i : Int) + 1) = ((i + 1 : Nat) : Int) := by unfold wrap64; omega
theorem rd_at {l : List Int} {i : Nat} (h : i < l.length) : rd l (i : Int) = l[i] := by
  simp [rd, List.getD_eq_getElem?_getD, List.getElem?_eq_getElem h]
theorem drop_at {α : Type} {l : List α} {i : Nat} (h : i < l.length) : l.drop i = l[i] :: l.drop (i + 1) := List.drop_eq_getElem_cons h
theorem take_at {α : Type} {l : List α} {i : Nat} (h : i < l.length) : l.take (i + 1) = l.take i ++ [l[i]] := by
  rw [List.take_succ_eq_append_getElem h]
theorem between_eq (a b c : Int) : impl_between.f a b c = some (decide (b ≤ a ∧ a ≤ c)) := by
  unfold impl_between.f
  by_cases h : a ≥ b
  · have h' : b ≤ a := h
    simp [h, h']
  · have h' : ¬ b ≤ a := h
    simp [h, h']
theorem l00In_eq (a b c : Int) : spec_l00In.f a b c = some (decide (b ≤ a ∧ a ≤ c)) := by
  unfold spec_l00In.f
  by_cases h : a ≥ b
  · have h' : b ≤ a := h
    simp [h, h']
  · have h' : ¬ b ≤ a := h
    simp [h, h']
def codeB (a b : Int) : Bool := decide (1 ≤ a ∧ a ≤ 4) && decide (0 ≤ b ∧ b ≤ 3)
theorem codeOk_impl (a b : Int) : impl_CodeOk.f a b = some (codeB a b) := by
  unfold impl_CodeOk.f codeB
  simp only [between_eq, Option.bind_some]
  by_cases h : 1 ≤ a ∧ a ≤ 4 <;> simp [h]
theorem codeOk_spec (a b : Int) : spec_CodeOk.f a b = some (codeB a b) := by
  unfold spec_CodeOk.f spec_l04Code.f codeB
  simp only [l00In_eq, Option.bind_some]
  by_cases h : 1 ≤ a ∧ a ≤ 4 <;> simp [h]
theorem opOk_same (k : Nat) (a b x y : Int) (s : ByteArray) : ∃ v, spec_OpOk.f (k + 1) a b x y s = some v ∧ impl_OpOk.f (k + 1) a b x y s = some v := by
  unfold spec_OpOk.f impl_OpOk.f
  simp only [codeOk_impl, codeOk_spec, l00In_eq, Option.bind_some, spec_OpOk.j0, impl_OpOk.j0, between_eq]
  cases codeB a b with
  | false => exact ⟨false, by simp⟩
  | true =>
    simp only [if_true]
    by_cases h1 : x = 1
    · subst h1; by_cases hy : y = 0 <;> simp [hy]
    · by_cases h6 : x = 6
      · subst h6; by_cases hy : y = 0 <;> simp [hy]
      · have e1 : (x == 1) = false := by simp [h1]
        have e6 : (x == 6) = false := by simp [h6]
        simp only [if_neg h1, e6, Bool.false_eq_true, if_false]
        by_cases h2 : x = 2
        · subst h2; by_cases hy : y = 0 <;> simp [hy]
        · by_cases h3 : x = 3
          · subst h3; by_cases ha : a = 1 <;> by_cases hr : 0 ≤ y ∧ y ≤ 64 <;> simp [ha, hr]
          · by_cases h4 : x = 4
            · subst h4; by_cases ha : a = 1 <;> by_cases hy : y = 0 <;> simp [ha, hy]
            · by_cases h5 : x = 5
              · subst h5; by_cases ha : a = 1 <;> by_cases hr : 0 ≤ y ∧ y ≤ 64 <;> simp [ha, hr]
              · simp [h2, h3, h4, h5]
theorem empty_size {s : ByteArray} (h : (s.toList == ([] : List UInt8)) = true) : s.size ≤ 64 := by
  have h1 : s.toList = [] := by simpa using h
  have h2 : s.size = 0 := by
    rw [Lib.toList_data] at h1
    have := congrArg List.length h1
    simpa using this
  omega
theorem opOk_bounds (k : Nat) (a b x y : Int) (s : ByteArray) (h : impl_OpOk.f (k + 1) a b x y s = some true) : 1 ≤ x ∧ x ≤ 6 ∧ 0 ≤ y ∧ y ≤ 64 ∧ s.size ≤ 64 := by
  unfold impl_OpOk.f at h
  simp only [codeOk_impl, Option.bind_some, impl_OpOk.j0, between_eq] at h
  cases hc : codeB a b with
  | false => rw [hc] at h; simp at h
  | true =>
    rw [hc] at h
    simp only [if_true] at h
    by_cases h1 : x = 1
    · subst h1
      by_cases hy : y = 0
      · subst hy
        simp only [if_true, beq_self_eq_true, Option.some.injEq] at h
        have := empty_size h
        omega
      · simp [hy] at h
    · by_cases h6 : x = 6
      · subst h6
        by_cases hy : y = 0
        · subst hy
          simp only [if_true, beq_self_eq_true, Option.some.injEq, if_neg h1] at h
          have := empty_size h
          omega
        · simp [hy] at h
      · have e6 : (x == 6) = false := by simp [h6]
        simp only [if_neg h1, e6, Bool.false_eq_true, if_false] at h
        by_cases h2 : x = 2
        · subst h2
          by_cases hy : y = 0
          · simp [hy] at h; omega
          · simp [hy] at h
        · by_cases h3 : x = 3
          · subst h3
            by_cases ha : a = 1 <;> by_cases hr : 0 ≤ y ∧ y ≤ 64 <;> simp [ha, hr] at h
            omega
          · by_cases h4 : x = 4
            · subst h4
              by_cases ha : a = 1 <;> by_cases hy : y = 0 <;> simp [ha, hy] at h
              omega
            · by_cases h5 : x = 5
              · subst h5
                by_cases ha : a = 1
                · by_cases hr : 0 ≤ y ∧ y ≤ 64
                  · simp only [ha, if_true, Option.some.injEq, if_neg h2, if_neg h3, if_neg h4, decide_eq_true hr] at h
                    have := empty_size h
                    omega
                  · simp [ha, hr] at h
                · simp [ha] at h
              · simp [h2, h3, h4, h5] at h
theorem opOk_ex (x y : Int) (s : ByteArray) : ∃ v : Bool, (∀ k, spec_OpOk.f (k + 1) 1 0 x y s = some v) ∧ (∀ k, impl_OpOk.f (k + 1) 1 0 x y s = some v) ∧ (v = true → 1 ≤ x ∧ x ≤ 6 ∧ 0 ≤ y ∧ y ≤ 64 ∧ s.size ≤ 64) := by
  obtain ⟨v, h1, h2⟩ := opOk_same 0 1 0 x y s
  refine ⟨v, fun k => ?_, fun k => ?_, fun hv => opOk_bounds 0 1 0 x y s (by rw [h2, hv])⟩
  · rw [← h1]; unfold spec_OpOk.f; simp only [spec_OpOk.j0]
  · rw [← h2]; unfold impl_OpOk.f; simp only [impl_OpOk.j0]
theorem ow_both (B X : ByteArray) (a : Int) (h0 : 0 ≤ a) (h1 : a ≤ 64) (hB : B.size ≤ 64) (hX : X.size ≤ 64) : ∃ r, spec_l16Lay.f B a X = some r ∧ impl_overwritten.f B a X = some r := by
  unfold spec_l16Lay.f impl_overwritten.f
  rw [if_pos ⟨h0, h1, hB, hX⟩]
  exact ⟨_, rfl, rfl⟩
/-- What the two do with an operation that is right. -/
theorem apply_same (b : ByteArray) (t : Bool) (x y : Int) (s : ByteArray) (hb : b.size ≤ 64) (hx : 1 ≤ x ∧ x ≤ 6 ∧ 0 ≤ y ∧ y ≤ 64 ∧ s.size ≤ 64) : ∃ r : ByteArray × Bool, (∀ k, spec_ApplyOp.j1 (k + 1) b t x y s = some r) ∧ (∀ k, impl_Op_apply.j0 (k + 1) b t x y s = some r) := by
  obtain ⟨h1, h6, hy0, hy1, hs⟩ := hx
  obtain ⟨q, hq1, hq2⟩ := ow_both b s y hy0 hy1 hb hs
  obtain ⟨p, hp1, hp2⟩ := ow_both b s (b.size : Int) (by omega) (by omega) hb hs
  by_cases e1 : x = 1
  · subst e1; exact ⟨(b, t), fun k => (by simp [spec_ApplyOp.j1]), fun k => by simp [impl_Op_apply.j0]⟩
  · by_cases e2 : x = 2
    · subst e2; exact ⟨(s, true), fun k => (by simp [spec_ApplyOp.j1]), fun k => by simp [impl_Op_apply.j0]⟩
    · by_cases e3 : x = 3
      · subst e3; exact ⟨(q, true), fun k => (by simp [spec_ApplyOp.j1, hq1]), fun k => by simp [impl_Op_apply.j0, hq2]⟩
      · by_cases e4 : x = 4
        · subst e4; exact ⟨(p, true), fun k => (by simp [spec_ApplyOp.j1, hp1]), fun k => by simp [impl_Op_apply.j0, hp2]⟩
        · by_cases e5 : x = 5
          · subst e5
            have hm : mn (b.size : Int) y = if y < (b.size : Int) then y else (b.size : Int) := rfl
            have hn : spec_l00Min.f y (b.size : Int) = some (if y < (b.size : Int) then y else (b.size : Int)) := by unfold spec_l00Min.f; split <;> rfl
            refine ⟨(b.extract 0 (if y < (b.size : Int) then y else (b.size : Int)).toNat, t), fun k => ?_, fun k => ?_⟩
            · simp only [spec_ApplyOp.j1, hn, Option.bind_some]
              rw [if_neg (by omega), if_neg (by omega), if_neg (by omega), if_neg (by omega), if_pos trivial, if_pos (by split <;> omega), if_pos (by split <;> omega)]
            · simp only [impl_Op_apply.j0, hm]
              rw [if_neg (by omega), if_neg (by omega), if_neg (by omega), if_pos trivial, if_pos (by split <;> omega), if_pos (by split <;> omega)]
          · obtain rfl : x = 6 := by omega
            exact ⟨((⟨#[]⟩ : ByteArray), false), fun k => by simp [spec_ApplyOp.j1], fun k => by simp [impl_Op_apply.j0]⟩
theorem applyOp_same (b : ByteArray) (t : Bool) (x y : Int) (s : ByteArray) : ∃ r : ByteArray × Bool, (∀ k, spec_ApplyOp.f (k + 2) b t x y s = some r) ∧ (∀ k, impl_ApplyOp.f (k + 2) b t x y s = some r) := by
  obtain ⟨v, h1, h2, h3⟩ := opOk_ex x y s
  have e1 : ∀ k, spec_ApplyOp.f (k + 2) b t x y s = if v = true then spec_ApplyOp.j0 (k + 2) b t (decide ((b.size : Int) > 64)) x y s else spec_ApplyOp.j0 (k + 2) b t true x y s := fun k => by
    unfold spec_ApplyOp.f spec_l16Plain.f
    simp only [Option.bind_some, h1 (k + 1)]
  have e2 : ∀ k, impl_ApplyOp.f (k + 2) b t x y s = if v = true then (if (b.size : Int) > 64 then some ((⟨#[]⟩ : ByteArray), false) else impl_Op_apply.f (k + 2) x y s b t) else some ((⟨#[]⟩ : ByteArray), false) := fun k => by
    unfold impl_ApplyOp.f impl_plainCode.f
    simp only [Option.bind_some, h2 (k + 1)]
    cases impl_Op_apply.f (k + 2) x y s b t <;> rfl
  cases v with
  | false => exact ⟨((⟨#[]⟩ : ByteArray), false), fun k => by rw [e1]; simp [spec_ApplyOp.j0], fun k => by rw [e2]; simp⟩
  | true =>
    by_cases hb : (b.size : Int) > 64
    · exact ⟨((⟨#[]⟩ : ByteArray), false), fun k => by rw [e1]; simp [spec_ApplyOp.j0, hb], fun k => by rw [e2]; simp [hb]⟩
    · cases t with
      | true =>
        obtain ⟨r, q1, q2⟩ := apply_same b true x y s (by omega) (h3 rfl)
        exact ⟨r, fun k => by rw [e1, if_pos rfl, decide_eq_false hb]; simp only [spec_ApplyOp.j0, Bool.false_eq_true, if_false, if_true]; exact q1 k, fun k => by rw [e2, if_pos rfl, if_neg hb]; unfold impl_Op_apply.f; rw [if_pos rfl]; exact q2 (k + 1)⟩
      | false =>
        obtain ⟨r, q1, q2⟩ := apply_same (⟨#[]⟩ : ByteArray) false x y s (by decide) (h3 rfl)
        exact ⟨r, fun k => by rw [e1, if_pos rfl, decide_eq_false hb]; simp only [spec_ApplyOp.j0, Bool.false_eq_true, if_false]; exact q1 k, fun k => by rw [e2, if_pos rfl, if_neg hb]; unfold impl_Op_apply.f; rw [if_neg (by decide)]; exact q2 (k + 1)⟩
theorem FnExactApplyOp : Stmt.FnExactApplyOp.PureS := by
  intro b t x y s _ _ _ _
  obtain ⟨r, h1, h2⟩ := applyOp_same b t x y s
  refine ⟨0 + 2, ?_⟩
  unfold laws_FnExactApplyOp.f laws_szOp.f laws_toOp.f
  simp only [Option.bind_some, h1 0, h2 0]
  repeat' split
  all_goals (first | rfl | simp_all)
end Go.Proofs.Ythphhklbliambaa.Pure
