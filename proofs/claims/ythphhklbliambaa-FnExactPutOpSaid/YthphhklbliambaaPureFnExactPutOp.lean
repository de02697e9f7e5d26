/- The program's PutOp and the reference's give one text at every operation. No condition. -/
import Derived.Test.YthphhklbliambaaStmtFnExactPutOp
import Derived.Lib.Strings
set_option linter.unusedSimpArgs false
set_option linter.unusedVariables false
namespace Go.Proofs.Ythphhklbliambaa.Pure
open Go.RowKit Go.Proofs.Ythphhklbliambaa.MFnExactPutOp Go.Proofs.YthphhklbliambaaW.PrintWords Go.Proofs.YthphhklbliambaaW.PrintLast
theorem evc {α : Type} {g : Nat → Option α} {r : α} (h : ∀ k, g k = some r) : Ev g r := ⟨0, fun k _ => h k⟩
theorem evsucc {α : Type} {g : Nat → Option α} {r : α} (h : Ev (fun k => g (k + 1)) r) : Ev g r := by
  obtain ⟨K, hK⟩ := h
  refine ⟨K + 1, fun k hk => ?_⟩
  obtain ⟨k, rfl⟩ : ∃ m, k = m + 1 := ⟨k - 1, by omega⟩
  exact hK k (by omega)
theorem evp {α : Type} {c : Prop} [Decidable c] {g f : Nat → Option α} {r : α} (hc : c) (h : Ev g r) : Ev (fun k => if c then g k else f k) r := by
  simp only [if_pos hc]; exact h
theorem evn {α : Type} {c : Prop} [Decidable c] {g f : Nat → Option α} {r : α} (hc : ¬ c) (h : Ev f r) : Ev (fun k => if c then g k else f k) r := by
  simp only [if_neg hc]; exact h
theorem evb {α β : Type} {g : Nat → Option α} {f : Nat → α → Option β} {a : α} {r : β} (h : Ev g a) (k : Ev (fun n => f n a) r) : Ev (fun n => (g n).bind (f n)) r := Ev.bind h k
theorem evk {α β : Type} {g : Option α} {f : Nat → α → Option β} {a : α} {r : β} (h : g = some a) (k : Ev (fun n => f n a) r) : Ev (fun n => g.bind (f n)) r := by subst h; exact k
theorem ev_ex {α : Type} {g : Nat → Option α} {r : α} (h : Ev g r) : ∃ k, g k = some r := by obtain ⟨K, hK⟩ := h; exact ⟨K, hK K (Nat.le_refl _)⟩
theorem wsucc {i n : Nat} (h : i < n) (hn : n ≤ 140737488351232) : wrap64 ((i : Int) + 1) = ((i + 1 : Nat) : Int) := by unfold wrap64; omega
theorem rd_at {l : List Int} {i : Nat} (h : i < l.length) : rd l (i : Int) = l[i] := by
  simp [rd, List.getD_eq_getElem?_getD, List.getElem?_eq_getElem h]
theorem drop_at {α : Type} {l : List α} {i : Nat} (h : i < l.length) : l.drop i = l[i] :: l.drop (i + 1) := List.drop_eq_getElem_cons h
theorem take_at {α : Type} {l : List α} {i : Nat} (h : i < l.length) : l.take (i + 1) = l.take i ++ [l[i]] := by
  rw [List.take_succ_eq_append_getElem h]
theorem between_eq (a b c : Int) : impl_between.f a b c = some (decide (b ≤ a ∧ a ≤ c)) := by
  unfold impl_between.f
  by_cases h : a ≥ b
  · have h' : b ≤ a := h
    simp [h, h']
  · have h' : ¬ b ≤ a := h
    simp [h, h']
theorem l00In_eq (a b c : Int) : spec_l00In.f a b c = some (decide (b ≤ a ∧ a ≤ c)) := by
  unfold spec_l00In.f
  by_cases h : a ≥ b
  · have h' : b ≤ a := h
    simp [h, h']
  · have h' : ¬ b ≤ a := h
    simp [h, h']
def codeB (a b : Int) : Bool := decide (1 ≤ a ∧ a ≤ 4) && decide (0 ≤ b ∧ b ≤ 3)
theorem codeOk_impl (a b : Int) : impl_CodeOk.f a b = some (codeB a b) := by
  unfold impl_CodeOk.f codeB
  simp only [between_eq, Option.bind_some]
  by_cases h : 1 ≤ a ∧ a ≤ 4 <;> simp [h]
theorem codeOk_spec (a b : Int) : spec_CodeOk.f a b = some (codeB a b) := by
  unfold spec_CodeOk.f spec_l04Code.f codeB
  simp only [l00In_eq, Option.bind_some]
  by_cases h : 1 ≤ a ∧ a ≤ 4 <;> simp [h]
theorem opOk_same (k : Nat) (a b x y : Int) (s : ByteArray) : ∃ v, spec_OpOk.f (k + 1) a b x y s = some v ∧ impl_OpOk.f (k + 1) a b x y s = some v := by
  unfold spec_OpOk.f impl_OpOk.f
  simp only [codeOk_impl, codeOk_spec, l00In_eq, Option.bind_some, spec_OpOk.j0, impl_OpOk.j0, between_eq]
  cases codeB a b with
  | false => exact ⟨false, by simp⟩
  | true =>
    simp only [if_true]
    by_cases h1 : x = 1
    · subst h1; by_cases hy : y = 0 <;> simp [hy]
    · by_cases h6 : x = 6
      · subst h6; by_cases hy : y = 0 <;> simp [hy]
      · have e1 : (x == 1) = false := by simp [h1]
        have e6 : (x == 6) = false := by simp [h6]
        simp only [if_neg h1, e6, Bool.false_eq_true, if_false]
        by_cases h2 : x = 2
        · subst h2; by_cases hy : y = 0 <;> simp [hy]
        · by_cases h3 : x = 3
          · subst h3; by_cases ha : a = 1 <;> by_cases hr : 0 ≤ y ∧ y ≤ 64 <;> simp [ha, hr]
          · by_cases h4 : x = 4
            · subst h4; by_cases ha : a = 1 <;> by_cases hy : y = 0 <;> simp [ha, hy]
            · by_cases h5 : x = 5
              · subst h5; by_cases ha : a = 1 <;> by_cases hr : 0 ≤ y ∧ y ≤ 64 <;> simp [ha, hr]
              · simp [h2, h3, h4, h5]
theorem empty_size {s : ByteArray} (h : (s.toList == ([] : List UInt8)) = true) : s.size ≤ 64 := by
  have h1 : s.toList = [] := by simpa using h
  have h2 : s.size = 0 := by
    rw [Lib.toList_data] at h1
    have := congrArg List.length h1
    simpa using this
  omega
theorem opOk_bounds (k : Nat) (a b x y : Int) (s : ByteArray) (h : impl_OpOk.f (k + 1) a b x y s = some true) : 1 ≤ x ∧ x ≤ 6 ∧ 0 ≤ y ∧ y ≤ 64 ∧ s.size ≤ 64 := by
  unfold impl_OpOk.f at h
  simp only [codeOk_impl, Option.bind_some, impl_OpOk.j0, between_eq] at h
  cases hc : codeB a b with
  | false => rw [hc] at h; simp at h
  | true =>
    rw [hc] at h
    simp only [if_true] at h
    by_cases h1 : x = 1
    · subst h1
      by_cases hy : y = 0
      · subst hy
        simp only [if_true, beq_self_eq_true, Option.some.injEq] at h
        have := empty_size h
        omega
      · simp [hy] at h
    · by_cases h6 : x = 6
      · subst h6
        by_cases hy : y = 0
        · subst hy
          simp only [if_true, beq_self_eq_true, Option.some.injEq, if_neg h1] at h
          have := empty_size h
          omega
        · simp [hy] at h
      · have e6 : (x == 6) = false := by simp [h6]
        simp only [if_neg h1, e6, Bool.false_eq_true, if_false] at h
        by_cases h2 : x = 2
        · subst h2
          by_cases hy : y = 0
          · simp [hy] at h; omega
          · simp [hy] at h
        · by_cases h3 : x = 3
          · subst h3
            by_cases ha : a = 1 <;> by_cases hr : 0 ≤ y ∧ y ≤ 64 <;> simp [ha, hr] at h
            omega
          · by_cases h4 : x = 4
            · subst h4
              by_cases ha : a = 1 <;> by_cases hy : y = 0 <;> simp [ha, hy] at h
              omega
            · by_cases h5 : x = 5
              · subst h5
                by_cases ha : a = 1
                · by_cases hr : 0 ≤ y ∧ y ≤ 64
                  · simp only [ha, if_true, Option.some.injEq, if_neg h2, if_neg h3, if_neg h4, decide_eq_true hr] at h
                    have := empty_size h
                    omega
                  · simp [ha, hr] at h
                · simp [ha] at h
              · simp [h2, h3, h4, h5] at h
theorem tdiv_nat (n : Nat) (h : n ≤ 9223372036854775807) : wrap64 (Int.tdiv (n : Int) 128) = ((n / 128 : Nat) : Int) := by
  rw [Int.tdiv_eq_ediv_of_nonneg (by omega)]; unfold wrap64; omega
theorem tmod_nat (n : Nat) : Int.tmod (n : Int) 128 = (n : Int) % 128 := by
  rw [Int.tmod_eq_emod_of_nonneg (by omega)]
/-- The two write a number's bytes alike, and not many. -/
theorem var_same (n : Nat) : ∀ (xs : List Int), xs.length + n < 140737488355328 → ∃ l : List Int, l.length ≤ n + 1 ∧ Ev (fun k => spec_l01Var.l0 k (n : Int) xs) (strOfNums (xs ++ l)) ∧ Ev (fun k => impl_PutVar.l0 k (n : Int) xs) (strOfNums (xs ++ l)) := by
  induction n using Nat.strongRecOn with
  | ind n ih =>
    intro xs hx
    by_cases h : n ≤ 127
    · refine ⟨[(n : Int) % 256], by simp, ?_, ?_⟩
      · apply evsucc
        simp only [spec_l01Var.l0]
        exact evn (by omega) (evp (by omega) (evc fun _ => rfl))
      · apply evsucc
        simp only [impl_PutVar.l0]
        exact evn (by omega) (evp (by omega) (evc fun _ => rfl))
    · obtain ⟨l, hl, h1, h2⟩ := ih (n / 128) (by omega) (xs ++ [(wrap64 (128 + (Int.tmod (n : Int) 128))) % 256]) (by simp; omega)
      refine ⟨(wrap64 (128 + (Int.tmod (n : Int) 128))) % 256 :: l, by simp; omega, ?_, ?_⟩
      · apply evsucc
        simp only [spec_l01Var.l0]
        refine evp (by omega) (evp (by omega) ?_)
        rw [tdiv_nat n (by omega)]
        simpa using h1
      · apply evsucc
        simp only [impl_PutVar.l0]
        refine evp (by omega) (evp (by omega) ?_)
        rw [tdiv_nat n (by omega), Int.add_comm]
        simpa using h2
theorem putVar_same (n : Int) (h0 : 0 ≤ n) (h1 : n ≤ 1000000) : ∃ t : ByteArray, t.size ≤ 1000001 ∧ Ev (fun k => spec_l01Var.f k n) t ∧ Ev (fun k => spec_PutVar.f k n) t ∧ Ev (fun k => impl_PutVar.f k n) t := by
  obtain ⟨m, rfl⟩ := Int.eq_ofNat_of_zero_le h0
  obtain ⟨l, hl, h2, h3⟩ := var_same m [] (by simp; omega)
  refine ⟨strOfNums l, by rw [strOfNums_size]; omega, ?_, ?_, ?_⟩
  · unfold spec_l01Var.f
    simpa using h2
  · unfold spec_PutVar.f
    refine evk (l00In_eq _ _ _) (evp (by simp; omega) (evb (a := strOfNums l) ?_ (evc fun _ => rfl)))
    unfold spec_l01Var.f
    simpa using h2
  · unfold impl_PutVar.f
    refine evk (between_eq _ _ _) (evp (by simp; omega) ?_)
    simpa using h3
theorem putText_same (s : ByteArray) (h : s.size ≤ 1000000) : ∃ t : ByteArray, t.size ≤ 2000001 ∧ Ev (fun k => spec_PutText.f k s) t ∧ Ev (fun k => impl_PutText.f k s) t := by
  obtain ⟨t, ht, h1, _, h3⟩ := putVar_same (s.size : Int) (by omega) (by omega)
  refine ⟨t ++ s, by rw [ByteArray.size_append]; omega, ?_, ?_⟩
  · unfold spec_PutText.f spec_l01Text.f
    exact evb (evb h1 (evp (by omega) (evc fun _ => rfl))) (evc fun _ => rfl)
  · unfold impl_PutText.f
    exact evb h3 (evp (by omega) (evc fun _ => rfl))
theorem putOp_same (x y : Int) (s : ByteArray) : ∃ t : ByteArray, Ev (fun k => spec_PutOp.f k x y s) t ∧ Ev (fun k => impl_PutOp.f k x y s) t := by
  obtain ⟨v, hs, hi⟩ := opOk_same 0 1 0 x y s
  have es : Ev (fun k => spec_OpOk.f k 1 0 x y s) v := evsucc (evc fun k => by
    obtain ⟨v', a, b⟩ := opOk_same k 1 0 x y s
    simpa [spec_OpOk.f, spec_OpOk.j0] using hs)
  have ei : Ev (fun k => impl_OpOk.f k 1 0 x y s) v := evsucc (evc fun k => by
    simpa [impl_OpOk.f, impl_OpOk.j0] using hi)
  unfold spec_PutOp.f impl_PutOp.f spec_l16Plain.f impl_plainCode.f
  simp only [Option.bind_some]
  cases v with
  | false => exact ⟨_, evb es (evn (by simp) (evc fun _ => rfl)), evb ei (evn (by simp) (evc fun _ => rfl))⟩
  | true =>
    have hb := opOk_bounds 0 1 0 x y s hi
    obtain ⟨t1, q1, _, a1, b1⟩ := putVar_same x (by omega) (by omega)
    obtain ⟨t2, q2, _, a2, b2⟩ := putVar_same y (by omega) (by omega)
    obtain ⟨t3, q3, a3, b3⟩ := putText_same s (by omega)
    refine ⟨(t1 ++ t2) ++ t3, ?_, ?_⟩
    · exact evb es (evp rfl (evb a1 (evb a2 (evp (by omega) (evb a3 (evp (by rw [ByteArray.size_append]; omega) (evc fun _ => rfl)))))))
    · exact evb ei (evp rfl (evb b1 (evb b2 (evp (by omega) (evb b3 (evp (by rw [ByteArray.size_append]; omega) (evc fun _ => rfl)))))))
theorem FnExactPutOp : Stmt.FnExactPutOp.PureS := by
  intro x y s _ _ hs
  apply ev_ex
  obtain ⟨t, a, b⟩ := putOp_same x y s
  unfold laws_FnExactPutOp.f laws_szOp.f laws_toOp.f
  split
  · exact evc fun _ => by simp
  · rename_i h
    simp only [Option.bind_some]
    exact evn h (evb a (evb b (evp rfl (evc fun _ => rfl))))
end Go.Proofs.Ythphhklbliambaa.Pure
