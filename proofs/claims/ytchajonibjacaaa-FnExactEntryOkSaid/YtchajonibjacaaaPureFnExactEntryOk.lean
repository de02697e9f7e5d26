/- The program's EntryOk and the reference's give one bool at every log entry. No condition. -/
import Derived.Test.YtchajonibjacaaaStmtFnExactEntryOk
set_option linter.unusedSimpArgs false
set_option linter.unusedVariables false
namespace Go.Proofs.Ytchajonibjacaaa.Pure
open Go.RowKit Go.Proofs.Ytchajonibjacaaa.PFnExactEntryOk Go.Proofs.YtchajonibjacaaaW.PrintWords Go.Proofs.YtchajonibjacaaaW.PrintLast
theorem between_eq (a b c : Int) : impl_between.f a b c = some (decide (b ≤ a ∧ a ≤ c)) := by
  unfold impl_between.f
  by_cases h : a ≥ b
  · have h' : b ≤ a := h
    simp [h, h']
  · have h' : ¬ b ≤ a := h
    simp [h, h']
theorem l00In_eq (a b c : Int) : spec_l00In.f a b c = some (decide (b ≤ a ∧ a ≤ c)) := by
  unfold spec_l00In.f
  by_cases h : a ≥ b
  · have h' : b ≤ a := h
    simp [h, h']
  · have h' : ¬ b ≤ a := h
    simp [h, h']
theorem isNaN (a : Int) : cmp_isNaN_int64.f a = some false := by simp [cmp_isNaN_int64.f]
theorem compare_eq (a b : Int) : cmp_Compare_int64.f a b = some (if a < b then -1 else if b < a then 1 else 0) := by
  unfold cmp_Compare_int64.f
  simp only [isNaN, Option.bind_some]
  by_cases h : a < b
  · simp [h]
  · by_cases h' : b < a <;> simp [h, h']
theorem or_two (k : Nat) (a b : Int) : cmp_Or_int.f (k + 3) [a, b] = some (if a = 0 then b else a) := by
  by_cases ha : a = 0 <;> by_cases hb : b = 0 <;> simp [cmp_Or_int.f, cmp_Or_int.l0, rd, wrap64, ha, hb]
theorem compareVers_eq (k : Nat) (a b c d : Int) : impl_compareVers.f (k + 3) a b c d = some (if a < c then -1 else if c < a then 1 else if b < d then -1 else if d < b then 1 else 0) := by
  unfold impl_compareVers.f
  simp only [compare_eq, Option.bind_some, or_two]
  by_cases h : a < c
  · simp [h]
  · by_cases h' : c < a
    · simp [h, h']
    · simp [h, h']
theorem verLess_eq (k : Nat) (a b c d : Int) : impl_VerLess.f (k + 3) a b c d = some (decide (a < c ∨ a = c ∧ b < d)) := by
  unfold impl_VerLess.f
  simp only [compareVers_eq, Option.bind_some, Option.some.injEq]
  by_cases h : a < c
  · simp [h]
  · by_cases h' : c < a
    · have : ¬ a = c := by omega
      simp [h, h', this]
    · have e : a = c := by omega
      by_cases h2 : b < d
      · simp [h2, e]
      · by_cases h3 : d < b <;> simp [h2, h3, e]
def okCh (c : Int) : Bool := (decide (97 ≤ c) && decide (c ≤ 122)) || (decide (48 ≤ c) && decide (c ≤ 57))
theorem okCh_no1 {c : Int} (h : c < 48) : okCh c = false := by unfold okCh; simp; omega
theorem okCh_no2 {c : Int} (h : 57 < c) (h1 : c < 97) : okCh c = false := by unfold okCh; simp; omega
theorem okCh_no3 {c : Int} (h : 122 < c) : okCh c = false := by unfold okCh; simp; omega
theorem okCh_yes1 {c : Int} (h : 48 ≤ c) (h1 : c ≤ 57) : okCh c = true := by unfold okCh; simp; omega
theorem okCh_yes2 {c : Int} (h : 97 ≤ c) (h1 : c ≤ 122) : okCh c = true := by unfold okCh; simp; omega
theorem chTree {α : Type} (c : Int) (n r : α) : (if c < 97 then (if c < 48 then n else (if c > 57 then n else r)) else (if c > 122 then (if c < 48 then n else (if c > 57 then n else r)) else r)) = if okCh c = true then r else n := by
  by_cases h1 : c < 97
  · rw [if_pos h1]
    by_cases h2 : c < 48
    · rw [if_pos h2, okCh_no1 h2]; simp
    · rw [if_neg h2]
      by_cases h3 : c > 57
      · rw [if_pos h3, okCh_no2 h3 h1]; simp
      · rw [if_neg h3, okCh_yes1 (by omega) (by omega)]; simp
  · rw [if_neg h1]
    by_cases h4 : c > 122
    · rw [if_pos h4, if_neg (by omega), if_pos (by omega), okCh_no3 h4]; simp
    · rw [if_neg h4, okCh_yes2 (by omega) (by omega)]; simp
def allCh (s : ByteArray) : Nat → Nat → Bool
  | 0, _ => true
  | d + 1, i => okCh (bt s (i : Int)) && allCh s d (i + 1)
theorem nameImpl (s : ByteArray) (hs : s.size ≤ 140737488351232) : ∀ (d k i : Nat), i + d = s.size → d < k → impl_NameOk.l0 k s (s.size : Int) (i : Int) = some (allCh s d i && decide ((1 : Int) ≤ (s.size : Int) ∧ (s.size : Int) ≤ 8)) := by
  intro d
  induction d with
  | zero =>
    intro k i h hk
    obtain ⟨k, rfl⟩ : ∃ m, k = m + 1 := ⟨k - 1, by omega⟩
    simp only [impl_NameOk.l0]
    rw [if_neg (by omega), between_eq]
    simp [allCh]
  | succ d ih =>
    intro k i h hk
    obtain ⟨k, rfl⟩ : ∃ m, k = m + 1 := ⟨k - 1, by omega⟩
    have hw : wrap64 ((i : Int) + 1) = ((i + 1 : Nat) : Int) := by unfold wrap64; omega
    simp only [impl_NameOk.l0]
    rw [if_pos (by omega), if_pos (by omega), if_pos (by omega), hw, ih k (i + 1) (by omega) (by omega)]
    rw [chTree]
    simp only [allCh]
    cases okCh (bt s (i : Int)) <;> simp
theorem nameSpec (s : ByteArray) (hs : s.size ≤ 140737488351232) : ∀ (d k i : Nat), i + d = s.size → d < k → spec_l09Name.l0 k s (i : Int) = some (allCh s d i) := by
  intro d
  induction d with
  | zero =>
    intro k i h hk
    obtain ⟨k, rfl⟩ : ∃ m, k = m + 1 := ⟨k - 1, by omega⟩
    simp only [spec_l09Name.l0]
    rw [if_neg (by omega)]
    simp [allCh]
  | succ d ih =>
    intro k i h hk
    obtain ⟨k, rfl⟩ : ∃ m, k = m + 1 := ⟨k - 1, by omega⟩
    have hw : wrap64 ((i : Int) + 1) = ((i + 1 : Nat) : Int) := by unfold wrap64; omega
    simp only [spec_l09Name.l0]
    rw [if_pos (by omega), if_pos (by omega), hw, ih k (i + 1) (by omega) (by omega)]
    rw [chTree]
    simp only [allCh]
    cases okCh (bt s (i : Int)) <;> simp
def nameB (s : ByteArray) : Bool := allCh s s.size 0 && decide ((1 : Int) ≤ (s.size : Int) ∧ (s.size : Int) ≤ 8)
theorem nameOk_impl (s : ByteArray) (hs : s.size ≤ 140737488351232) (k : Nat) (hk : s.size < k) : impl_NameOk.f k s = some (nameB s) := by
  unfold impl_NameOk.f nameB
  exact nameImpl s hs s.size k 0 (by omega) hk
theorem nameOk_spec (s : ByteArray) (hs : s.size ≤ 140737488351232) (k : Nat) (hk : s.size + 1 < k) : spec_NameOk.f k s = some (nameB s) := by
  unfold spec_NameOk.f spec_l09Name.f nameB
  obtain ⟨k, rfl⟩ : ∃ m, k = m + 1 := ⟨k - 1, by omega⟩
  have h0 : spec_l09Name.l0 k s 0 = some (allCh s s.size 0) := nameSpec s hs s.size k 0 (by omega) (by omega)
  by_cases h1 : (s.size : Int) < 1
  · rw [if_pos h1]
    have : ¬ (1 : Int) ≤ (s.size : Int) := by omega
    simp [spec_l09Name.j0, this]
  · rw [if_neg h1]
    simp only [spec_l09Name.j0]
    by_cases h2 : (s.size : Int) > 8
    · have : ¬ (s.size : Int) ≤ 8 := by omega
      simp [h2, this]
    · have a : (1 : Int) ≤ (s.size : Int) := by omega
      have b : (s.size : Int) ≤ 8 := by omega
      rw [if_neg (by simp [h2])]
      rw [h0]
      simp [a, b]
def verB (a b : Int) : Bool := decide ((a = 0 ∧ b = 0) ∨ (1 ≤ a ∧ a ≤ 60 ∧ 1 ≤ b ∧ b ≤ 1000))
theorem verOk_impl (a b : Int) : impl_verOk.f a b = some (verB a b) := by
  unfold impl_verOk.f verB
  simp only [between_eq, Option.bind_some]
  by_cases h0 : a = 0 ∧ b = 0
  · simp [h0]
  · by_cases h1 : 1 ≤ a ∧ a ≤ 60
    · have h2 : ¬ a = 0 := by omega
      simp [h1, h2]
    · have h3 : ¬ (1 ≤ a ∧ a ≤ 60 ∧ 1 ≤ b ∧ b ≤ 1000) := by omega
      have h4 : ¬ ((a == 0 && (b == 0)) = true) := by simpa using h0
      rw [if_neg h4]
      simp [h1, h0, h3]
theorem verOk_spec (a b : Int) : spec_l17Ver.f a b = some (verB a b) := by
  unfold spec_l17Ver.f spec_l17Zero.f verB
  simp only [l00In_eq, Option.bind_some]
  by_cases h0 : a = 0 ∧ b = 0
  · simp [h0]
  · by_cases h1 : 1 ≤ a ∧ a ≤ 60
    · have h2 : ¬ a = 0 := by omega
      simp [h1, h2]
    · have h3 : ¬ (1 ≤ a ∧ a ≤ 60 ∧ 1 ≤ b ∧ b ≤ 1000) := by omega
      have h4 : ¬ ((a == 0 && (b == 0)) = true) := by simpa using h0
      rw [if_neg h4]
      simp [h1, h0, h3]
theorem specVerLess_eq (a b c d : Int) : spec_VerLess.f a b c d = some (decide (a < c ∨ a = c ∧ b < d)) := by
  unfold spec_VerLess.f
  by_cases h : a < c
  · simp [h]
  · by_cases h2 : a = c <;> simp [h, h2]
def reqB (a b : Int) : Bool := decide ((a = 0 ∧ b = 0) ∨ (100 ≤ a ∧ a ≤ 105 ∧ 1 ≤ b ∧ b ≤ 1000))
theorem reqOk_impl (a b : Int) : impl_reqOk.f a b = some (reqB a b) := by
  unfold impl_reqOk.f impl_isClient.f reqB
  simp only [between_eq, Option.bind_some]
  by_cases h0 : a = 0 ∧ b = 0
  · simp [h0]
  · by_cases h1 : 100 ≤ a ∧ a ≤ 105
    · have h2 : ¬ a = 0 := by omega
      simp [h1, h2]
    · have h3 : ¬ (100 ≤ a ∧ a ≤ 105 ∧ 1 ≤ b ∧ b ≤ 1000) := by omega
      have h4 : ¬ ((a == 0 && (b == 0)) = true) := by simpa using h0
      rw [if_neg h4]
      simp [h1, h0, h3]
theorem reqOk_spec (a b : Int) : spec_l17Req.f a b = some (reqB a b) := by
  unfold spec_l17Req.f spec_l17Client.f reqB
  simp only [l00In_eq, Option.bind_some]
  by_cases h0 : a = 0 ∧ b = 0
  · simp [h0]
  · by_cases h1 : 100 ≤ a ∧ a ≤ 105
    · have h2 : ¬ a = 0 := by omega
      simp [h1, h2]
    · have h3 : ¬ (100 ≤ a ∧ a ≤ 105 ∧ 1 ≤ b ∧ b ≤ 1000) := by omega
      have h4 : ¬ ((a == 0 && (b == 0)) = true) := by simpa using h0
      rw [if_neg h4]
      simp [h1, h0, h3]
theorem entryOk_same (n : ByteArray) (hn : n.size ≤ 140737488351232) (k : Nat) (hk : n.size + 4 < k) (a b c d : Int) (g : Bool) (z s x y : Int) : ∃ v, spec_EntryOk.f k a b c d n g z s x y = some v ∧ impl_EntryOk.f k a b c d n g z s x y = some v := by
  obtain ⟨k, rfl⟩ : ∃ m, k = m + 3 := ⟨k - 3, by omega⟩
  unfold spec_EntryOk.f impl_EntryOk.f impl_sizeOk.f
  simp only [nameOk_impl n hn (k + 3) (by omega), nameOk_spec n hn (k + 3) (by omega), verOk_impl, verOk_spec, verLess_eq, specVerLess_eq, reqOk_impl, reqOk_spec, l00In_eq, between_eq, Option.bind_some, spec_EntryOk.j0, spec_l17Sum.f]
  generalize nameB n = p1
  generalize verB a b = p2
  generalize verB c d = p3
  generalize decide (c < a ∨ c = a ∧ d < b) = p4
  generalize reqB x y = p5
  cases p2 <;> cases p3 <;> cases p4 <;> cases p1 <;> cases p5 <;> cases g <;> by_cases h3 : 0 ≤ z ∧ z ≤ 64 <;> by_cases h4 : 0 ≤ s ∧ s ≤ 4294967295 <;> by_cases h5 : z = 0 <;> by_cases h6 : s = 0 <;> simp [h3, h4, h5, h6] <;> omega
theorem FnExactEntryOk : Stmt.FnExactEntryOk.PureS := by
  intro a b c d n g z s x y _ _ _ _ hn _ _ _ _
  refine ⟨n.size + 5, ?_⟩
  unfold laws_FnExactEntryOk.f laws_szEntry.f laws_toEntry.f laws_toVer.f laws_toReq.f
  obtain ⟨v, h1, h2⟩ := entryOk_same n hn (n.size + 5) (by omega) a b c d g z s x y
  split
  · simp
  · simp only [Option.bind_some]
    split
    · rfl
    · rw [h1, h2]; simp
end Go.Proofs.Ytchajonibjacaaa.Pure
