/- The program's ShowInc and the reference's give one text at every increment. No other condition. -/
import Derived.Test.YtmpakjgbbjkacaaDoorStmtFnExactShowInc
set_option linter.unusedSimpArgs false
set_option linter.unusedVariables false
namespace Go.Proofs.YtmpakjgbbjkacaaDoor.Pure
open Go.RowKit Go.Proofs.YtmpakjgbbjkacaaDoor.MFnExactShowInc Go.Proofs.YtmpakjgbbjkacaaDoorW.PrintWords Go.Proofs.YtmpakjgbbjkacaaDoorW.PrintLast
theorem evc {α : Type} {g : Nat → Option α} {r : α} (h : ∀ k, g k = some r) : Ev g r := ⟨0, fun k _ => h k⟩
theorem evsucc {α : Type} {g : Nat → Option α} {r : α} (h : Ev (fun k => g (k + 1)) r) : Ev g r := by
  obtain ⟨K, hK⟩ := h
  refine ⟨K + 1, fun k hk => ?_⟩
  obtain ⟨k, rfl⟩ : ∃ m, k = m + 1 := ⟨k - 1, by omega⟩
  exact hK k (by omega)
theorem evp {α : Type} {c : Prop} [Decidable c] {g f : Nat → Option α} {r : α} (hc : c) (h : Ev g r) : Ev (fun k => if c then g k else f k) r := by
  simp only [if_pos hc]; exact h
theorem evn {α : Type} {c : Prop} [Decidable c] {g f : Nat → Option α} {r : α} (hc : ¬ c) (h : Ev f r) : Ev (fun k => if c then g k else f k) r := by
  simp only [if_neg hc]; exact h
theorem evb {α β : Type} {g : Nat → Option α} {f : Nat → α → Option β} {a : α} {r : β} (h : Ev g a) (k : Ev (fun n => f n a) r) : Ev (fun n => (g n).bind (f n)) r := Ev.bind h k
theorem evk {α β : Type} {g : Option α} {f : Nat → α → Option β} {a : α} {r : β} (h : g = some a) (k : Ev (fun n => f n a) r) : Ev (fun n => g.bind (f n)) r := by subst h; exact k
theorem ev_ex {α : Type} {g : Nat → Option α} {r : α} (h : Ev g r) : ∃ k, g k = some r := by obtain ⟨K, hK⟩ := h; exact ⟨K, hK K (Nat.le_refl _)⟩
theorem wsucc {i n : Nat} (h : i < n) (hn : n ≤ 140737488351232) : wrap64 ((i : Int) + 1) = ((i + 1 : Nat) : Int) := by unfold wrap64; omega
theorem rd_at {l : List Int} {i : Nat} (h : i < l.length) : rd l (i : Int) = l[i] := by
  simp [rd, List.getD_eq_getElem?_getD, List.getElem?_eq_getElem h]
theorem drop_at {α : Type} {l : List α} {i : Nat} (h : i < l.length) : l.drop i = l[i] :: l.drop (i + 1) := List.drop_eq_getElem_cons h
theorem take_at {α : Type} {l : List α} {i : Nat} (h : i < l.length) : l.take (i + 1) = l.take i ++ [l[i]] := by
  rw [List.take_succ_eq_append_getElem h]
theorem between_eq (a b c : Int) : impl_between.f a b c = some (decide (b ≤ a ∧ a ≤ c)) := by
  unfold impl_between.f
  by_cases h : a ≥ b
  · have h' : b ≤ a := h
    simp [h, h']
  · have h' : ¬ b ≤ a := h
    simp [h, h']
theorem l00In_eq (a b c : Int) : spec_l00In.f a b c = some (decide (b ≤ a ∧ a ≤ c)) := by
  unfold spec_l00In.f
  by_cases h : a ≥ b
  · have h' : b ≤ a := h
    simp [h, h']
  · have h' : ¬ b ≤ a := h
    simp [h, h']
def incB (a b c d : Int) : Bool := decide (2 ≤ a ∧ a ≤ 60 ∧ 1 ≤ b ∧ b ≤ 6 ∧ 0 ≤ c ∧ c ≤ 15 ∧ (b = 6 → c = 0) ∧ if b = 5 then 0 ≤ d ∧ d ≤ 8 else d = 0)
theorem incOk_impl (k : Nat) (a b c d : Int) : impl_IncOk.f (k + 1) a b c d = some (incB a b c d) := by
  unfold impl_IncOk.f impl_isNode.f incB
  simp only [between_eq, Option.bind_some, impl_IncOk.j0]
  by_cases h1 : 2 ≤ a ∧ a ≤ 60
  · by_cases h2 : 1 ≤ b ∧ b ≤ 6
    · by_cases h3 : 0 ≤ c ∧ c ≤ 15
      · by_cases h4 : b = 6
        · by_cases h5 : c = 0
          · subst h4; subst h5; simp [h1]; rw [Bool.eq_iff_iff]; simp
          · subst h4; simp [h1, h3, h5]
        · by_cases h6 : b = 5
          · subst h6; simp [h1, h3]
          · simp [h1, h2, h3, h4, h6]; rw [Bool.eq_iff_iff]; simp
      · simp [h1, h2, h3]; intros; omega
    · simp [h1, h2]; intros; omega
  · simp [h1]; intros; omega
theorem incOk_spec (k : Nat) (a b c d : Int) : spec_l11Inc.f (k + 1) a b c d = some (incB a b c d) := by
  unfold spec_l11Inc.f incB
  simp only [l00In_eq, Option.bind_some, spec_l11Inc.j0]
  by_cases h1 : 2 ≤ a ∧ a ≤ 60
  · by_cases h2 : 1 ≤ b ∧ b ≤ 6
    · by_cases h4 : b = 6
      · subst h4
        by_cases h5 : c = 0
        · subst h5; simp [h1]; rw [Bool.eq_iff_iff]; simp
        · simp [h1, h5]
      · by_cases h6 : b = 5
        · subst h6
          by_cases h3 : 0 ≤ c ∧ c ≤ 15
          · simp [h1, h3]
          · simp [h1, h3]; intros; omega
        · by_cases h3 : 0 ≤ c ∧ c ≤ 15
          · simp [h1, h2, h3, h4, h6]; rw [Bool.eq_iff_iff]; simp
          · simp [h1, h2, h3, h4, h6]; intros; omega
    · simp [h1, h2]; intros; omega
  · simp [h1]; intros; omega
def dig (n : Nat) : ByteArray := ⟨(Go.Lib.decDigits n).toArray⟩
theorem w256 {n : Nat} (h : n < 100) : wrap64 (48 + (n : Int)) % 256 = ((48 + n : Nat) : Int) := by unfold wrap64; omega
theorem dig_one {n : Nat} (h : n < 10) : strOfNums [wrap64 (48 + (n : Int)) % 256] = dig n := by
  rw [w256 (by omega)]
  unfold dig
  rw [Go.Lib.decDigits_one h]
  rfl
theorem dig_two {n : Nat} (h0 : ¬ n < 10) (h : n < 100) : dig (n / 10) ++ strOfNums [wrap64 (48 + (Int.tmod (n : Int) 10)) % 256] = dig n := by
  have e : Int.tmod (n : Int) 10 = ((n % 10 : Nat) : Int) := rfl
  rw [e, w256 (by omega)]
  unfold dig
  rw [Go.Lib.decDigits_one (show n / 10 < 10 by omega), Go.Lib.decDigits_two h0 h]
  have hs : strOfNums [((48 + n % 10 : Nat) : Int)] = ⟨[UInt8.ofNat (48 + n % 10)].toArray⟩ := rfl
  rw [hs]
  apply ByteArray.ext
  simp
theorem dig_size {n : Nat} (h : n < 100) : (dig n).size ≤ 2 := by
  unfold dig
  by_cases h0 : n < 10
  · rw [Go.Lib.decDigits_one h0]; simp [ByteArray.size]
  · rw [Go.Lib.decDigits_two h0 h]; simp [ByteArray.size]
theorem dig_spec {n : Nat} (h : n < 100) : Ev (fun k => spec_l11Digits.f k (n : Int)) (dig n) := by
  have small : ∀ {m : Nat}, m < 10 → Ev (fun k => spec_l11Digits.f k (m : Int)) (dig m) := fun {m} hm => by
    apply evsucc
    simp only [spec_l11Digits.f]
    exact evp (by omega) (evc fun _ => by rw [dig_one hm])
  by_cases h0 : n < 10
  · exact small h0
  · apply evsucc
    simp only [spec_l11Digits.f]
    have e : wrap64 (Int.tdiv (n : Int) 10) = ((n / 10 : Nat) : Int) := by
      have : Int.tdiv (n : Int) 10 = ((n / 10 : Nat) : Int) := rfl
      rw [this]; unfold wrap64; omega
    rw [e]
    have hs := dig_size (n := n / 10) (by omega)
    refine evn (by omega) (evb (small (show n / 10 < 10 by omega)) (evk rfl (evp ?_ (evc fun _ => by rw [dig_two h0 h]))))
    have : (strOfNums [wrap64 (48 + (Int.tmod (n : Int) 10)) % 256]).size = 1 := rfl
    omega
theorem dig_spec' {a : Int} (h0 : 0 ≤ a) (h : a < 100) : Ev (fun k => spec_l11Digits.f k a) (dig a.toNat) := by
  have := dig_spec (n := a.toNat) (by omega)
  rwa [Int.toNat_of_nonneg h0] at this
theorem dig_impl {a : Int} (h0 : 0 ≤ a) (h : a < 100) : impl_decimal.f a = some (dig a.toNat) := by
  unfold impl_decimal.f strconv_FormatInt.f
  rw [if_pos ⟨⟨h0, h⟩, rfl⟩]
  rfl
theorem s32 : (⟨#[32]⟩ : ByteArray).size = 1 := rfl
def words : List ByteArray := [(⟨#[]⟩ : ByteArray), (⟨#[117, 112]⟩ : ByteArray), (⟨#[100, 111, 119, 110]⟩ : ByteArray), (⟨#[105, 110]⟩ : ByteArray), (⟨#[111, 117, 116]⟩ : ByteArray), (⟨#[119, 101, 105, 103, 104, 116]⟩ : ByteArray), (⟨#[116, 101, 114, 109]⟩ : ByteArray)]
theorem word_size (b : Int) (h0 : 0 ≤ b) (h1 : b < 7) : (rdOf ByteArray.empty words b).size ≤ 6 := by
  have : b = 0 ∨ b = 1 ∨ b = 2 ∨ b = 3 ∨ b = 4 ∨ b = 5 ∨ b = 6 := by omega
  rcases this with rfl | rfl | rfl | rfl | rfl | rfl | rfl <;> decide
theorem incB_of {a b c d : Int} (h : incB a b c d = true) : (2 ≤ a ∧ a ≤ 60) ∧ (1 ≤ b ∧ b ≤ 6) ∧ (0 ≤ c ∧ c ≤ 15) ∧ (b = 5 → 0 ≤ d ∧ d ≤ 8) := by
  have := of_decide_eq_true h
  refine ⟨⟨this.1, this.2.1⟩, ⟨this.2.2.1, this.2.2.2.1⟩, ⟨this.2.2.2.2.1, this.2.2.2.2.2.1⟩, fun e => ?_⟩
  have h8 := this.2.2.2.2.2.2.2
  rw [if_pos e] at h8
  exact h8
theorem show_both (a b c d : Int) : ∃ R, Ev (fun k => spec_ShowInc.f k a b c d) R ∧ Ev (fun k => impl_ShowInc.f k a b c d) R := by
  have hS : Ev (fun k => spec_l11Inc.f k a b c d) (incB a b c d) := evsucc (evc fun k => incOk_spec k a b c d)
  have hI : Ev (fun k => impl_IncOk.f k a b c d) (incB a b c d) := evsucc (evc fun k => incOk_impl k a b c d)
  unfold spec_ShowInc.f impl_ShowInc.f
  by_cases h : incB a b c d = true
  · obtain ⟨ha, hb, hc, hd⟩ := incB_of h
    have a1 := dig_spec' (a := a) (by omega) (by omega)
    have a2 := dig_impl (a := a) (by omega) (by omega)
    have a3 := dig_size (n := a.toNat) (by omega)
    have c1 := dig_spec' (a := c) (by omega) (by omega)
    have c2 := dig_impl (a := c) (by omega) (by omega)
    have c3 := dig_size (n := c.toNat) (by omega)
    have hw := word_size b (by omega) (by omega)
    have hwl : (words.length : Int) = 7 := rfl
    have eS : spec_l11Words.f = some words := rfl
    have eI : impl_incWords.f = some words := rfl
    generalize dig a.toNat = X at a1 a2 a3
    generalize dig c.toNat = Y at c1 c2 c3
    generalize words = W at hw hwl eS eI
    unfold spec_l11Show.f
    have z1 : (X ++ (⟨#[32]⟩ : ByteArray)).size + (rdOf ByteArray.empty W b).size ≤ 9223372036854775807 := by simp only [ByteArray.size_append, s32]; omega
    by_cases h6 : b = 6
    · refine ⟨(X ++ (⟨#[32]⟩ : ByteArray)) ++ rdOf ByteArray.empty W b, evb hS (evp h (evb (a := (X ++ (⟨#[32]⟩ : ByteArray)) ++ rdOf ByteArray.empty W b) ?_ (evc fun _ => rfl))), evb hI (evp h ?_)⟩
      · refine evb a1 (evp (by omega) (evk eS (evp (by omega) (evp (by omega) (evp z1 ?_)))))
        exact evp h6 (evn (by omega) (evc fun _ => rfl))
      · refine evk a2 (evp (by omega) (evk eI (evp (by omega) (evp (by omega) (evp z1 ?_)))))
        exact evp h6 (evn (by omega) (evc fun _ => rfl))
    · have z2 : ((X ++ (⟨#[32]⟩ : ByteArray)) ++ rdOf ByteArray.empty W b).size + ((⟨#[32]⟩ : ByteArray) ++ Y).size ≤ 9223372036854775807 := by simp only [ByteArray.size_append, s32]; omega
      by_cases h5 : b = 5
      · have hd := hd h5
        have d1 := dig_spec' (a := d) (by omega) (by omega)
        have d2 := dig_impl (a := d) (by omega) (by omega)
        have d3 := dig_size (n := d.toNat) (by omega)
        generalize dig d.toNat = U at d1 d2 d3
        have z3 : (((X ++ (⟨#[32]⟩ : ByteArray)) ++ rdOf ByteArray.empty W b) ++ ((⟨#[32]⟩ : ByteArray) ++ Y)).size + ((⟨#[32]⟩ : ByteArray) ++ U).size ≤ 9223372036854775807 := by simp only [ByteArray.size_append, s32]; omega
        refine ⟨_, evb hS (evp h (evb (a := (((X ++ (⟨#[32]⟩ : ByteArray)) ++ rdOf ByteArray.empty W b) ++ ((⟨#[32]⟩ : ByteArray) ++ Y)) ++ ((⟨#[32]⟩ : ByteArray) ++ U)) ?_ (evc fun _ => rfl))), evb hI (evp h ?_)⟩
        · refine evb a1 (evp (by omega) (evk eS (evp (by omega) (evp (by omega) (evp z1 ?_)))))
          refine evn h6 (evb c1 (evp (by omega) (evp z2 ?_)))
          exact evp h5 (evb d1 (evp (by omega) (evp z3 (evc fun _ => rfl))))
        · refine evk a2 (evp (by omega) (evk eI (evp (by omega) (evp (by omega) (evp z1 ?_)))))
          refine evn h6 (evk c2 (evp (by omega) (evp z2 ?_)))
          exact evp h5 (evk d2 (evp (by omega) (evp z3 (evc fun _ => rfl))))
      · refine ⟨_, evb hS (evp h (evb (a := ((X ++ (⟨#[32]⟩ : ByteArray)) ++ rdOf ByteArray.empty W b) ++ ((⟨#[32]⟩ : ByteArray) ++ Y)) ?_ (evc fun _ => rfl))), evb hI (evp h ?_)⟩
        · refine evb a1 (evp (by omega) (evk eS (evp (by omega) (evp (by omega) (evp z1 ?_)))))
          refine evn h6 (evb c1 (evp (by omega) (evp z2 ?_)))
          exact evn h5 (evc fun _ => rfl)
        · refine evk a2 (evp (by omega) (evk eI (evp (by omega) (evp (by omega) (evp z1 ?_)))))
          refine evn h6 (evk c2 (evp (by omega) (evp z2 ?_)))
          exact evn h5 (evc fun _ => rfl)
  · exact ⟨_, evb hS (evn h (evc fun _ => rfl)), evb hI (evn h (evc fun _ => rfl))⟩
theorem FnExactShowInc : Stmt.FnExactShowInc.PureS := by
  intro a b c d _ _ _ _
  apply ev_ex
  unfold laws_FnExactShowInc.f
  refine evk rfl ?_
  obtain ⟨R, h1, h2⟩ := show_both a b c d
  exact evb h1 (evk rfl (evb h2 (evp (by trivial) (evc fun _ => rfl))))
end Go.Proofs.YtmpakjgbbjkacaaDoor.Pure
