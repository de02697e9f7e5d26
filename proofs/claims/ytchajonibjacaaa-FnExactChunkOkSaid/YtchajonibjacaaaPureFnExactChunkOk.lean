/- The program's ChunkOk and the reference's give one bool at every chunk. No condition. -/
import Derived.Test.YtchajonibjacaaaStmtFnExactChunkOk
set_option linter.unusedSimpArgs false
set_option linter.unusedVariables false
namespace Go.Proofs.Ytchajonibjacaaa.Pure
open Go.RowKit Go.Proofs.Ytchajonibjacaaa.PFnExactChunkOk Go.Proofs.YtchajonibjacaaaW.PrintWords Go.Proofs.YtchajonibjacaaaW.PrintLast
theorem between_eq (a b c : Int) : impl_between.f a b c = some (decide (b ≤ a ∧ a ≤ c)) := by
  unfold impl_between.f
  by_cases h : a ≥ b
  · have h' : b ≤ a := h
    simp [h, h']
  · have h' : ¬ b ≤ a := h
    simp [h, h']
theorem l00In_eq (a b c : Int) : spec_l00In.f a b c = some (decide (b ≤ a ∧ a ≤ c)) := by
  unfold spec_l00In.f
  by_cases h : a ≥ b
  · have h' : b ≤ a := h
    simp [h, h']
  · have h' : ¬ b ≤ a := h
    simp [h, h']
def okCh (c : Int) : Bool := (decide (97 ≤ c) && decide (c ≤ 122)) || (decide (48 ≤ c) && decide (c ≤ 57))
theorem okCh_no1 {c : Int} (h : c < 48) : okCh c = false := by unfold okCh; simp; omega
theorem okCh_no2 {c : Int} (h : 57 < c) (h1 : c < 97) : okCh c = false := by unfold okCh; simp; omega
theorem okCh_no3 {c : Int} (h : 122 < c) : okCh c = false := by unfold okCh; simp; omega
theorem okCh_yes1 {c : Int} (h : 48 ≤ c) (h1 : c ≤ 57) : okCh c = true := by unfold okCh; simp; omega
theorem okCh_yes2 {c : Int} (h : 97 ≤ c) (h1 : c ≤ 122) : okCh c = true := by unfold okCh; simp; omega
theorem chTree {α : Type} (c : Int) (n r : α) : (if c < 97 then (if c < 48 then n else (if c > 57 then n else r)) else (if c > 122 then (if c < 48 then n else (if c > 57 then n else r)) else r)) = if okCh c = true then r else n := by
  by_cases h1 : c < 97
  · rw [if_pos h1]
    by_cases h2 : c < 48
    · rw [if_pos h2, okCh_no1 h2]; simp
    · rw [if_neg h2]
      by_cases h3 : c > 57
      · rw [if_pos h3, okCh_no2 h3 h1]; simp
      · rw [if_neg h3, okCh_yes1 (by omega) (by omega)]; simp
  · rw [if_neg h1]
    by_cases h4 : c > 122
    · rw [if_pos h4, if_neg (by omega), if_pos (by omega), okCh_no3 h4]; simp
    · rw [if_neg h4, okCh_yes2 (by omega) (by omega)]; simp
def allCh (s : ByteArray) : Nat → Nat → Bool
  | 0, _ => true
  | d + 1, i => okCh (bt s (i : Int)) && allCh s d (i + 1)
theorem nameImpl (s : ByteArray) (hs : s.size ≤ 140737488351232) : ∀ (d k i : Nat), i + d = s.size → d < k → impl_NameOk.l0 k s (s.size : Int) (i : Int) = some (allCh s d i && decide ((1 : Int) ≤ (s.size : Int) ∧ (s.size : Int) ≤ 8)) := by
  intro d
  induction d with
  | zero =>
    intro k i h hk
    obtain ⟨k, rfl⟩ : ∃ m, k = m + 1 := ⟨k - 1, by omega⟩
    simp only [impl_NameOk.l0]
    rw [if_neg (by omega), between_eq]
    simp [allCh]
  | succ d ih =>
    intro k i h hk
    obtain ⟨k, rfl⟩ : ∃ m, k = m + 1 := ⟨k - 1, by omega⟩
    have hw : wrap64 ((i : Int) + 1) = ((i + 1 : Nat) : Int) := by unfold wrap64; omega
    simp only [impl_NameOk.l0]
    rw [if_pos (by omega), if_pos (by omega), if_pos (by omega), hw, ih k (i + 1) (by omega) (by omega)]
    rw [chTree]
    simp only [allCh]
    cases okCh (bt s (i : Int)) <;> simp
theorem nameSpec (s : ByteArray) (hs : s.size ≤ 140737488351232) : ∀ (d k i : Nat), i + d = s.size → d < k → spec_l09Name.l0 k s (i : Int) = some (allCh s d i) := by
  intro d
  induction d with
  | zero =>
    intro k i h hk
    obtain ⟨k, rfl⟩ : ∃ m, k = m + 1 := ⟨k - 1, by omega⟩
    simp only [spec_l09Name.l0]
    rw [if_neg (by omega)]
    simp [allCh]
  | succ d ih =>
    intro k i h hk
    obtain ⟨k, rfl⟩ : ∃ m, k = m + 1 := ⟨k - 1, by omega⟩
    have hw : wrap64 ((i : Int) + 1) = ((i + 1 : Nat) : Int) := by unfold wrap64; omega
    simp only [spec_l09Name.l0]
    rw [if_pos (by omega), if_pos (by omega), hw, ih k (i + 1) (by omega) (by omega)]
    rw [chTree]
    simp only [allCh]
    cases okCh (bt s (i : Int)) <;> simp
def nameB (s : ByteArray) : Bool := allCh s s.size 0 && decide ((1 : Int) ≤ (s.size : Int) ∧ (s.size : Int) ≤ 8)
theorem nameOk_impl (s : ByteArray) (hs : s.size ≤ 140737488351232) (k : Nat) (hk : s.size < k) : impl_NameOk.f k s = some (nameB s) := by
  unfold impl_NameOk.f nameB
  exact nameImpl s hs s.size k 0 (by omega) hk
theorem nameOk_spec (s : ByteArray) (hs : s.size ≤ 140737488351232) (k : Nat) (hk : s.size + 1 < k) : spec_NameOk.f k s = some (nameB s) := by
  unfold spec_NameOk.f spec_l09Name.f nameB
  obtain ⟨k, rfl⟩ : ∃ m, k = m + 1 := ⟨k - 1, by omega⟩
  have h0 : spec_l09Name.l0 k s 0 = some (allCh s s.size 0) := nameSpec s hs s.size k 0 (by omega) (by omega)
  by_cases h1 : (s.size : Int) < 1
  · rw [if_pos h1]
    have : ¬ (1 : Int) ≤ (s.size : Int) := by omega
    simp [spec_l09Name.j0, this]
  · rw [if_neg h1]
    simp only [spec_l09Name.j0]
    by_cases h2 : (s.size : Int) > 8
    · have : ¬ (s.size : Int) ≤ 8 := by omega
      simp [h2, this]
    · have a : (1 : Int) ≤ (s.size : Int) := by omega
      have b : (s.size : Int) ≤ 8 := by omega
      rw [if_neg (by simp [h2])]
      rw [h0]
      simp [a, b]
def verB (a b : Int) : Bool := decide ((a = 0 ∧ b = 0) ∨ (1 ≤ a ∧ a ≤ 60 ∧ 1 ≤ b ∧ b ≤ 1000))
theorem verOk_impl (a b : Int) : impl_verOk.f a b = some (verB a b) := by
  unfold impl_verOk.f verB
  simp only [between_eq, Option.bind_some]
  by_cases h0 : a = 0 ∧ b = 0
  · simp [h0]
  · by_cases h1 : 1 ≤ a ∧ a ≤ 60
    · have h2 : ¬ a = 0 := by omega
      simp [h1, h2]
    · have h3 : ¬ (1 ≤ a ∧ a ≤ 60 ∧ 1 ≤ b ∧ b ≤ 1000) := by omega
      have h4 : ¬ ((a == 0 && (b == 0)) = true) := by simpa using h0
      rw [if_neg h4]
      simp [h1, h0, h3]
theorem verOk_spec (a b : Int) : spec_l17Ver.f a b = some (verB a b) := by
  unfold spec_l17Ver.f spec_l17Zero.f verB
  simp only [l00In_eq, Option.bind_some]
  by_cases h0 : a = 0 ∧ b = 0
  · simp [h0]
  · by_cases h1 : 1 ≤ a ∧ a ≤ 60
    · have h2 : ¬ a = 0 := by omega
      simp [h1, h2]
    · have h3 : ¬ (1 ≤ a ∧ a ≤ 60 ∧ 1 ≤ b ∧ b ≤ 1000) := by omega
      have h4 : ¬ ((a == 0 && (b == 0)) = true) := by simpa using h0
      rw [if_neg h4]
      simp [h1, h0, h3]
theorem chunkOk_same (n : ByteArray) (hn : n.size ≤ 140737488351232) (k : Nat) (hk : n.size + 1 < k) (a b c d : Int) (s : ByteArray) : ∃ v, spec_ChunkOk.f k n a b c d s = some v ∧ impl_ChunkOk.f k n a b c d s = some v := by
  unfold spec_ChunkOk.f impl_ChunkOk.f spec_l17Full.f spec_l17Sum.f spec_l17Zero.f
  simp only [nameOk_impl n hn k (by omega), nameOk_spec n hn k hk, verOk_impl, verOk_spec, l00In_eq, between_eq, Option.bind_some]
  generalize nameB n = p1
  generalize verB a b = p2
  by_cases h3 : 0 ≤ c ∧ c ≤ 6 <;> by_cases h4 : 0 ≤ d ∧ d ≤ 4294967295 <;> cases p1 <;> cases p2 <;> by_cases h5 : a = 0 <;> by_cases h6 : b = 0 <;> simp [h3, h4, h5, h6]
theorem FnExactChunkOk : Stmt.FnExactChunkOk.PureS := by
  intro n a b c d s hn _ _ _ _ _
  refine ⟨n.size + 2, ?_⟩
  unfold laws_FnExactChunkOk.f laws_szChunk.f laws_toChunk.f laws_toVer.f
  obtain ⟨v, h1, h2⟩ := chunkOk_same n hn (n.size + 2) (by omega) a b c d s
  split
  · simp
  · split
    · simp
    · simp only [Option.bind_some]
      split
      · rfl
      · rw [h1, h2]; simp
end Go.Proofs.Ytchajonibjacaaa.Pure
