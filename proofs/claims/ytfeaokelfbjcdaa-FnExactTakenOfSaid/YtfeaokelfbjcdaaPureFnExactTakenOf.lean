/- The program's TakenOf and the reference's give one number at every list of numbers within the reach. No other condition. -/
import Derived.Test.YtfeaokelfbjcdaaStmtFnExactTakenOf
set_option linter.unusedSimpArgs false
set_option linter.unusedVariables false
namespace Go.Proofs.Ytfeaokelfbjcdaa.Pure
open Go.RowKit Go.Proofs.Ytfeaokelfbjcdaa.MFnExactTakenOf Go.Proofs.YtfeaokelfbjcdaaW.PrintWords Go.Proofs.YtfeaokelfbjcdaaW.PrintLast
theorem evc {α : Type} {g : Nat → Option α} {r : α} (h : ∀ k, g k = some r) : Ev g r := ⟨0, fun k _ => h k⟩
theorem evsucc {α : Type} {g : Nat → Option α} {r : α} (h : Ev (fun k => g (k + 1)) r) : Ev g r := by
  obtain ⟨K, hK⟩ := h
  refine ⟨K + 1, fun k hk => ?_⟩
  obtain ⟨k, rfl⟩ : ∃ m, k = m + 1 := ⟨k - 1, by omega⟩
  exact hK k (by omega)
theorem evp {α : Type} {c : Prop} [Decidable c] {g f : Nat → Option α} {r : α} (hc : c) (h : Ev g r) : Ev (fun k => if c then g k else f k) r := by
  simp only [if_pos hc]; exact h
theorem evn {α : Type} {c : Prop} [Decidable c] {g f : Nat → Option α} {r : α} (hc : ¬ c) (h : Ev f r) : Ev (fun k => if c then g k else f k) r := by
  simp only [if_neg hc]; exact h
theorem evb {α β : Type} {g : Nat → Option α} {f : Nat → α → Option β} {a : α} {r : β} (h : Ev g a) (k : Ev (fun n => f n a) r) : Ev (fun n => (g n).bind (f n)) r := Ev.bind h k
theorem evk {α β : Type} {g : Option α} {f : Nat → α → Option β} {a : α} {r : β} (h : g = some a) (k : Ev (fun n => f n a) r) : Ev (fun n => g.bind (f n)) r := by subst h; exact k
theorem ev_ex {α : Type} {g : Nat → Option α} {r : α} (h : Ev g r) : ∃ k, g k = some r := by obtain ⟨K, hK⟩ := h; exact ⟨K, hK K (Nat.le_refl _)⟩
theorem wsucc {i n : Nat} (h : i < n) (hn : n ≤ 140737488351232) : wrap64 ((i : Int) + 1) = ((i + 1 : Nat) : Int) := by unfold wrap64; omega
theorem rd_at {l : List Int} {i : Nat} (h : i < l.length) : rd l (i : Int) = l[i] := by
  simp [rd, List.getD_eq_getElem?_getD, List.getElem?_eq_getElem h]
theorem drop_at {α : Type} {l : List α} {i : Nat} (h : i < l.length) : l.drop i = l[i] :: l.drop (i + 1) := List.drop_eq_getElem_cons h
theorem take_at {α : Type} {l : List α} {i : Nat} (h : i < l.length) : l.take (i + 1) = l.take i ++ [l[i]] := by
  rw [List.take_succ_eq_append_getElem h]
theorem between_eq (a b c : Int) : impl_between.f a b c = some (decide (b ≤ a ∧ a ≤ c)) := by
  unfold impl_between.f
  by_cases h : a ≥ b
  · have h' : b ≤ a := h
    simp [h, h']
  · have h' : ¬ b ≤ a := h
    simp [h, h']
theorem l00In_eq (a b c : Int) : spec_l00In.f a b c = some (decide (b ≤ a ∧ a ≤ c)) := by
  unfold spec_l00In.f
  by_cases h : a ≥ b
  · have h' : b ≤ a := h
    simp [h, h']
  · have h' : ¬ b ≤ a := h
    simp [h, h']
theorem toInts_loop (l : List Int) (hn : l.length ≤ 140737488351232) : ∀ (d i : Nat) (ys : List Int), i + d = l.length → ys.length = l.length → ys.take i = l.take i → Ev (fun k => laws_toInt64S.l0 k l ys (i : Int)) l := by
  intro d
  induction d with
  | zero =>
    intro i ys h hl ht
    apply evsucc
    simp only [laws_toInt64S.l0]
    refine evn (by omega) (evc fun _ => ?_)
    obtain rfl : i = l.length := by omega
    rw [← hl, List.take_length] at ht
    rw [ht, hl, List.take_length]
  | succ d ih =>
    intro i ys h hl ht
    apply evsucc
    simp only [laws_toInt64S.l0]
    refine evp (by omega) (evp (by omega) (evp (by omega) ?_))
    rw [wsucc (n := l.length) (by omega) hn, rd_at (by omega), Int.toNat_natCast]
    refine ih (i + 1) _ (by omega) (by simpa using hl) ?_
    rw [take_at (by simp; omega), take_at (by omega), List.take_set_of_le (by omega), ht]
    simp
theorem toInts_ev (l : List Int) (hn : l.length ≤ 35184372088832) : Ev (fun k => laws_toInt64S.f k l) l := by
  unfold laws_toInt64S.f
  refine evp (by omega) (evp (by omega) ?_)
  exact toInts_loop l (by omega) l.length 0 _ (by omega) (by simp) (by simp)
theorem eqInts_loop (l : List Int) (hn : l.length ≤ 140737488351232) : ∀ (d i : Nat), i + d = l.length → Ev (fun k => laws_eqInt64S.l0 k l l (i : Int)) true := by
  intro d
  induction d with
  | zero =>
    intro i h
    apply evsucc
    simp only [laws_eqInt64S.l0]
    exact evn (by omega) (evc fun _ => rfl)
  | succ d ih =>
    intro i h
    apply evsucc
    simp only [laws_eqInt64S.l0]
    refine evp (by omega) (evp (by omega) (evp (by omega) (evp (by trivial) ?_)))
    rw [wsucc (n := l.length) (by omega) hn]
    exact ih (i + 1) (by omega)
theorem eqInts_ev (l : List Int) (hn : l.length ≤ 140737488351232) : Ev (fun k => laws_eqInt64S.f k l l) true := by
  unfold laws_eqInt64S.f
  exact evp rfl (eqInts_loop l hn l.length 0 (by omega))
theorem has_loop (l : List Int) (v : Int) (hn : l.length ≤ 140737488351232) : ∀ (d i : Nat), i + d = l.length → Ev (fun k => spec_l00Has.l0 k l v (i : Int)) (decide (v ∈ l.drop i)) := by
  intro d
  induction d with
  | zero =>
    intro i h
    apply evsucc
    simp only [spec_l00Has.l0]
    refine evn (by omega) (evc fun _ => ?_)
    rw [List.drop_of_length_le (by omega)]
    simp
  | succ d ih =>
    intro i h
    apply evsucc
    simp only [spec_l00Has.l0]
    refine evp (by omega) (evp (by omega) ?_)
    have hi : i < l.length := by omega
    rw [wsucc hi hn, rd_at hi, drop_at hi]
    by_cases e : l[i] = v
    · refine evp e (evc fun _ => ?_)
      simp [e]
    · refine evn e ?_
      have e' : ¬ v = l[i] := fun h => e h.symm
      have e2 : decide (v ∈ l[i] :: l.drop (i + 1)) = decide (v ∈ l.drop (i + 1)) := decide_eq_decide.2 (by rw [List.mem_cons]; exact ⟨fun h => h.resolve_left e', Or.inr⟩)
      rw [e2]
      exact ih (i + 1) (by omega)
theorem has_ev (l : List Int) (v : Int) (hn : l.length ≤ 140737488351232) : Ev (fun k => spec_l00Has.f k l v) (decide (v ∈ l)) := by
  have := has_loop l v hn l.length 0 (by omega)
  simpa [spec_l00Has.f] using this
/-- Where a value stands first from i on, or -1. -/
def idxFrom : List Int → Nat → Int → Int
  | [], _, _ => -1
  | x :: r, i, v => if v = x then (i : Int) else idxFrom r (i + 1) v
theorem idxFrom_nonneg (l : List Int) (i : Nat) (v : Int) : idxFrom l i v ≥ 0 ↔ v ∈ l := by
  induction l generalizing i with
  | nil => simp [idxFrom]
  | cons x r ih =>
    simp only [idxFrom]
    by_cases e : v = x
    · simp [e]
    · rw [if_neg e, ih, List.mem_cons]
      exact ⟨Or.inr, fun h => h.resolve_left e⟩
theorem index_loop (l : List Int) (v : Int) (hn : l.length ≤ 140737488351232) : ∀ (d i : Nat), i + d = l.length → Ev (fun k => slices_Index_int64_int64.l0 k l v (l.length : Int) (i : Int)) (idxFrom (l.drop i) i v) := by
  intro d
  induction d with
  | zero =>
    intro i h
    apply evsucc
    simp only [slices_Index_int64_int64.l0]
    refine evn (by omega) (evc fun _ => ?_)
    rw [List.drop_of_length_le (by omega)]
    rfl
  | succ d ih =>
    intro i h
    apply evsucc
    simp only [slices_Index_int64_int64.l0]
    refine evp (by omega) (evp (by omega) (evp (by omega) ?_))
    have hi : i < l.length := by omega
    rw [wsucc hi hn, rd_at hi, drop_at hi]
    simp only [idxFrom]
    by_cases e : v = l[i]
    · rw [if_pos e]
      exact evp e (evc fun _ => rfl)
    · rw [if_neg e]
      exact evn e (ih (i + 1) (by omega))
theorem index_ev (l : List Int) (v : Int) (hn : l.length ≤ 140737488351232) : Ev (fun k => slices_Index_int64_int64.f k l v) (idxFrom l 0 v) := by
  have := index_loop l v hn l.length 0 (by omega)
  simpa [slices_Index_int64_int64.f] using this
theorem contains_ev (l : List Int) (v : Int) (hn : l.length ≤ 140737488351232) : Ev (fun k => slices_Contains_int64_int64.f k l v) (decide (v ∈ l)) := by
  unfold slices_Contains_int64_int64.f
  refine evb (index_ev l v hn) (evc fun _ => ?_)
  rw [decide_eq_decide.2 (idxFrom_nonneg l 0 v)]
/-- The elements behind those that were seen are nodes or holes, and no node comes twice. -/
def actFrom : List Int → List Int → Bool
  | _, [] => true
  | seen, n :: r => decide (-1 ≤ n ∧ n ≤ 15) && (!(decide (0 ≤ n) && decide (n ∈ seen)) && actFrom (seen ++ [n]) r)
def actB (l : List Int) : Bool := decide ((1 : Int) ≤ (l.length : Int) ∧ (l.length : Int) ≤ 7) && actFrom [] l
theorem actImpl_loop (l : List Int) (hn : l.length ≤ 140737488351232) : ∀ (d i : Nat), i + d = l.length →
    Ev (fun k => impl_ActingOk.l0 k l l (l.length : Int) (i : Int)) (actFrom (l.take i) (l.drop i) && decide ((1 : Int) ≤ (l.length : Int) ∧ (l.length : Int) ≤ 7)) := by
  intro d
  induction d with
  | zero =>
    intro i h
    apply evsucc
    simp only [impl_ActingOk.l0]
    refine evn (by omega) (evk (between_eq _ _ _) (evc fun _ => ?_))
    rw [List.drop_of_length_le (by omega)]
    simp [actFrom]
  | succ d ih =>
    intro i h
    apply evsucc
    simp only [impl_ActingOk.l0]
    refine evp (by omega) (evp (by omega) (evp (by omega) (evk (between_eq _ _ _) ?_)))
    have hi : i < l.length := by omega
    rw [wsucc hi hn, rd_at hi, drop_at hi, Int.toNat_natCast]
    have hs := ih (i + 1) (by omega)
    rw [take_at hi] at hs
    simp only [actFrom]
    by_cases hr : -1 ≤ l[i] ∧ l[i] ≤ 15
    · refine evp (by simpa using hr) ?_
      rw [decide_eq_true hr, Bool.true_and]
      by_cases h0 : l[i] ≥ 0
      · refine evp h0 (evp (by omega) (evb (contains_ev (l.take i) l[i] (by rw [List.length_take]; omega)) ?_))
        have h0' : (0 : Int) ≤ l[i] := h0
        by_cases hm : l[i] ∈ l.take i
        · exact evp (by simpa using hm) (evc fun _ => by simp [h0', hm])
        · refine evn (by simpa using hm) ?_
          simpa [hm] using hs
      · refine evn h0 ?_
        have h0' : ¬ (0 : Int) ≤ l[i] := h0
        simpa [h0'] using hs
    · exact evn (by simpa using hr) (evc fun _ => by rw [decide_eq_false hr]; rfl)
theorem actImpl (l : List Int) (hn : l.length ≤ 140737488351232) : Ev (fun k => impl_ActingOk.f k l) (actB l) := by
  have := actImpl_loop l hn l.length 0 (by omega)
  rw [Bool.and_comm] at this
  simpa [impl_ActingOk.f, actB] using this
theorem actSpec_loop (l : List Int) (hn : l.length ≤ 140737488351232) : ∀ (d i : Nat), i + d = l.length →
    Ev (fun k => spec_l12Ok.l0 k l (i : Int)) (actFrom (l.take i) (l.drop i)) := by
  intro d
  induction d with
  | zero =>
    intro i h
    apply evsucc
    simp only [spec_l12Ok.l0]
    refine evn (by omega) (evc fun _ => ?_)
    rw [List.drop_of_length_le (by omega)]
    simp [actFrom]
  | succ d ih =>
    intro i h
    apply evsucc
    simp only [spec_l12Ok.l0]
    refine evp (by omega) (evp (by omega) (evk (l00In_eq _ _ _) ?_))
    have hi : i < l.length := by omega
    rw [wsucc hi hn, rd_at hi, drop_at hi, Int.toNat_natCast]
    have hs := ih (i + 1) (by omega)
    rw [take_at hi] at hs
    simp only [actFrom]
    by_cases hr : -1 ≤ l[i] ∧ l[i] ≤ 15
    · refine evp (by simpa using hr) ?_
      rw [decide_eq_true hr, Bool.true_and]
      by_cases h0 : l[i] ≥ 0
      · refine evp h0 (evp (by omega) (evb (has_ev (l.take i) l[i] (by rw [List.length_take]; omega)) ?_))
        have h0' : (0 : Int) ≤ l[i] := h0
        by_cases hm : l[i] ∈ l.take i
        · exact evp (by simpa using hm) (evc fun _ => by simp [h0', hm])
        · refine evn (by simpa using hm) ?_
          simpa [hm] using hs
      · refine evn h0 ?_
        have h0' : ¬ (0 : Int) ≤ l[i] := h0
        simpa [h0'] using hs
    · exact evn (by simpa using hr) (evc fun _ => by rw [decide_eq_false hr]; rfl)
theorem actSpec (l : List Int) (hn : l.length ≤ 140737488351232) : Ev (fun k => spec_l12Ok.f k l) (actB l) := by
  have hs := actSpec_loop l hn l.length 0 (by omega)
  unfold spec_l12Ok.f
  by_cases h1 : (l.length : Int) < 1
  · refine evp h1 (evsucc ?_)
    have h1' : ¬ (1 : Int) ≤ (l.length : Int) := by omega
    simp only [spec_l12Ok.j0]
    exact evp (by simp) (evc fun _ => by simp [actB, h1'])
  · refine evn h1 (evsucc ?_)
    have h1' : (1 : Int) ≤ (l.length : Int) := by omega
    simp only [spec_l12Ok.j0]
    by_cases h2 : (l.length : Int) > 7
    · have h2' : ¬ (l.length : Int) ≤ 7 := by omega
      exact evp (by simpa using h2) (evc fun _ => by simp [actB, h2'])
    · have h2' : (l.length : Int) ≤ 7 := by omega
      refine evn (by simpa using h2) ?_
      simpa [actB, h1', h2'] using hs
/-- How many nodes. -/
def cnt : List Int → Nat
  | [] => 0
  | n :: r => (if n ≥ 0 then 1 else 0) + cnt r
theorem cnt_filter : ∀ (l seen : List Int), actFrom seen l = true → (l.filter fun x => !decide (x = -1)).length = cnt l
  | [], _, _ => rfl
  | n :: r, seen, h => by
    simp only [actFrom, Bool.and_eq_true] at h
    have h1 := of_decide_eq_true h.1
    have ih := cnt_filter r _ h.2.2
    by_cases hn : n = -1
    · subst hn
      rw [List.filter_cons_of_neg (by simp), ih]
      simp only [cnt]
      rw [if_neg (by omega)]
      omega
    · rw [List.filter_cons_of_pos (by simpa using hn), List.length_cons, ih]
      simp only [cnt]
      rw [if_pos (by omega)]
      omega
theorem members_ev (l : List Int) (hn : l.length ≤ 1048576) : impl_members.f l = some ((l.filter fun x => !decide (x = -1)).mergeSort fun x y => decide (x ≤ y)) := by
  unfold impl_members.f impl_removed.f
  rw [if_pos (by omega)]
  rfl
theorem taken_loop (l : List Int) (hn : l.length ≤ 140737488351232) : ∀ (d i c : Nat), i + d = l.length → c ≤ i → Ev (fun k => spec_l12Taken.l0 k l (c : Int) (i : Int)) ((c + cnt (l.drop i) : Nat) : Int) := by
  intro d
  induction d with
  | zero =>
    intro i c h hc
    apply evsucc
    simp only [spec_l12Taken.l0]
    refine evn (by omega) (evc fun _ => ?_)
    rw [List.drop_of_length_le (by omega)]
    simp [cnt]
  | succ d ih =>
    intro i c h hc
    have hi : i < l.length := by omega
    apply evsucc
    simp only [spec_l12Taken.l0]
    refine evp (by omega) (evp (by omega) ?_)
    rw [wsucc hi hn, rd_at hi, drop_at hi]
    by_cases h0 : l[i] ≥ 0
    · refine evp h0 ?_
      rw [wsucc (show c < l.length by omega) hn]
      have e : c + cnt (l[i] :: l.drop (i + 1)) = c + 1 + cnt (l.drop (i + 1)) := by simp only [cnt]; rw [if_pos h0]; omega
      rw [e]
      exact ih (i + 1) (c + 1) (by omega) (by omega)
    · refine evn h0 ?_
      have e : c + cnt (l[i] :: l.drop (i + 1)) = c + cnt (l.drop (i + 1)) := by simp only [cnt]; rw [if_neg h0]; omega
      rw [e]
      exact ih (i + 1) c (by omega) (by omega)
theorem takenSpec (l : List Int) (hn : l.length ≤ 140737488351232) : Ev (fun k => spec_l12Taken.f k l) (cnt l : Int) := by
  have := taken_loop l hn l.length 0 0 (by omega) (by omega)
  simpa [spec_l12Taken.f] using this
theorem FnExactTakenOf : Stmt.FnExactTakenOf.PureS := by
  intro l ⟨_, hl, _⟩
  apply ev_ex
  unfold laws_FnExactTakenOf.f
  by_cases h : (l.length : Int) > 1048576
  · exact evp h (evc fun _ => rfl)
  · refine evn h (evb (toInts_ev l (by omega)) ?_)
    have hs : Ev (fun k => spec_TakenOf.f k l) (if actB l = true then (cnt l : Int) else 0) := by
      unfold spec_TakenOf.f
      refine evb (actSpec l (by omega)) ?_
      cases hb : actB l with
      | true => exact evp rfl (evb (takenSpec l (by omega)) (evc fun _ => rfl))
      | false => exact evn (by simp) (evc fun _ => rfl)
    have hi : Ev (fun k => impl_TakenOf.f k l) (if actB l = true then (cnt l : Int) else 0) := by
      unfold impl_TakenOf.f
      refine evb (actImpl l (by omega)) ?_
      cases hb : actB l with
      | true =>
        have hf : actFrom [] l = true := by simp only [actB, Bool.and_eq_true] at hb; exact hb.2
        exact evp rfl (evk (members_ev l (by omega)) (evc fun _ => by rw [List.length_mergeSort, cnt_filter l [] hf]; rfl))
      | false => exact evn (by simp) (evc fun _ => rfl)
    exact evb hs (evb (toInts_ev l (by omega)) (evb hi (evp rfl (evb (toInts_ev l (by omega)) (evb (eqInts_ev l (by omega)) (evp rfl (evc fun _ => rfl)))))))
end Go.Proofs.Ytfeaokelfbjcdaa.Pure
