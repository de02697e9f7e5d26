/- The program's IntervalsOk and the reference's give one bool at every list of intervals within the reach. No other condition. -/
import Derived.Test.YtfeaokelfbjcdaaStmtFnExactIntervalsOk
set_option linter.unusedSimpArgs false
set_option linter.unusedVariables false
namespace Go.Proofs.Ytfeaokelfbjcdaa.Pure
open Go.RowKit Go.Proofs.Ytfeaokelfbjcdaa.MFnExactIntervalsOk Go.Proofs.YtfeaokelfbjcdaaW.PrintWords Go.Proofs.YtfeaokelfbjcdaaW.PrintLast
theorem evc {α : Type} {g : Nat → Option α} {r : α} (h : ∀ k, g k = some r) : Ev g r := ⟨0, fun k _ => h k⟩
theorem evsucc {α : Type} {g : Nat → Option α} {r : α} (h : Ev (fun k => g (k + 1)) r) : Ev g r := by
  obtain ⟨K, hK⟩ := h
  refine ⟨K + 1, fun k hk => ?_⟩
  obtain ⟨k, rfl⟩ : ∃ m, k = m + 1 := ⟨k - 1, by omega⟩
  exact hK k (by omega)
theorem evp {α : Type} {c : Prop} [Decidable c] {g f : Nat → Option α} {r : α} (hc : c) (h : Ev g r) : Ev (fun k => if c then g k else f k) r := by
  simp only [if_pos hc]; exact h
theorem evn {α : Type} {c : Prop} [Decidable c] {g f : Nat → Option α} {r : α} (hc : ¬ c) (h : Ev f r) : Ev (fun k => if c then g k else f k) r := by
  simp only [if_neg hc]; exact h
theorem evb {α β : Type} {g : Nat → Option α} {f : Nat → α → Option β} {a : α} {r : β} (h : Ev g a) (k : Ev (fun n => f n a) r) : Ev (fun n => (g n).bind (f n)) r := Ev.bind h k
theorem evk {α β : Type} {g : Option α} {f : Nat → α → Option β} {a : α} {r : β} (h : g = some a) (k : Ev (fun n => f n a) r) : Ev (fun n => g.bind (f n)) r := by subst h; exact k
theorem ev_ex {α : Type} {g : Nat → Option α} {r : α} (h : Ev g r) : ∃ k, g k = some r := by obtain ⟨K, hK⟩ := h; exact ⟨K, hK K (Nat.le_refl _)⟩
theorem wsucc {i n : Nat} (h : i < n) (hn : n ≤ 140737488351232) : wrap64 ((i : Int) + 1) = ((i + 1 : Nat) : Int) := by unfold wrap64; omega
theorem rd_at {l : List Int} {i : Nat} (h : i < l.length) : rd l (i : Int) = l[i] := by
  simp [rd, List.getD_eq_getElem?_getD, List.getElem?_eq_getElem h]
theorem drop_at {α : Type} {l : List α} {i : Nat} (h : i < l.length) : l.drop i = l[i] :: l.drop (i + 1) := List.drop_eq_getElem_cons h
theorem take_at {α : Type} {l : List α} {i : Nat} (h : i < l.length) : l.take (i + 1) = l.take i ++ [l[i]] := by
  rw [List.take_succ_eq_append_getElem h]
theorem between_eq (a b c : Int) : impl_between.f a b c = some (decide (b ≤ a ∧ a ≤ c)) := by
  unfold impl_between.f
  by_cases h : a ≥ b
  · have h' : b ≤ a := h
    simp [h, h']
  · have h' : ¬ b ≤ a := h
    simp [h, h']
theorem l00In_eq (a b c : Int) : spec_l00In.f a b c = some (decide (b ≤ a ∧ a ≤ c)) := by
  unfold spec_l00In.f
  by_cases h : a ≥ b
  · have h' : b ≤ a := h
    simp [h, h']
  · have h' : ¬ b ≤ a := h
    simp [h, h']
theorem toInts_loop (l : List Int) (hn : l.length ≤ 140737488351232) : ∀ (d i : Nat) (ys : List Int), i + d = l.length → ys.length = l.length → ys.take i = l.take i → Ev (fun k => laws_toInt64S.l0 k l ys (i : Int)) l := by
  intro d
  induction d with
  | zero =>
    intro i ys h hl ht
    apply evsucc
    simp only [laws_toInt64S.l0]
    refine evn (by omega) (evc fun _ => ?_)
    obtain rfl : i = l.length := by omega
    rw [← hl, List.take_length] at ht
    rw [ht, hl, List.take_length]
  | succ d ih =>
    intro i ys h hl ht
    apply evsucc
    simp only [laws_toInt64S.l0]
    refine evp (by omega) (evp (by omega) (evp (by omega) ?_))
    rw [wsucc (n := l.length) (by omega) hn, rd_at (by omega), Int.toNat_natCast]
    refine ih (i + 1) _ (by omega) (by simpa using hl) ?_
    rw [take_at (by simp; omega), take_at (by omega), List.take_set_of_le (by omega), ht]
    simp
theorem toInts_ev (l : List Int) (hn : l.length ≤ 35184372088832) : Ev (fun k => laws_toInt64S.f k l) l := by
  unfold laws_toInt64S.f
  refine evp (by omega) (evp (by omega) ?_)
  exact toInts_loop l (by omega) l.length 0 _ (by omega) (by simp) (by simp)
theorem eqInts_loop (l : List Int) (hn : l.length ≤ 140737488351232) : ∀ (d i : Nat), i + d = l.length → Ev (fun k => laws_eqInt64S.l0 k l l (i : Int)) true := by
  intro d
  induction d with
  | zero =>
    intro i h
    apply evsucc
    simp only [laws_eqInt64S.l0]
    exact evn (by omega) (evc fun _ => rfl)
  | succ d ih =>
    intro i h
    apply evsucc
    simp only [laws_eqInt64S.l0]
    refine evp (by omega) (evp (by omega) (evp (by omega) (evp (by trivial) ?_)))
    rw [wsucc (n := l.length) (by omega) hn]
    exact ih (i + 1) (by omega)
theorem eqInts_ev (l : List Int) (hn : l.length ≤ 140737488351232) : Ev (fun k => laws_eqInt64S.f k l l) true := by
  unfold laws_eqInt64S.f
  exact evp rfl (eqInts_loop l hn l.length 0 (by omega))
theorem has_loop (l : List Int) (v : Int) (hn : l.length ≤ 140737488351232) : ∀ (d i : Nat), i + d = l.length → Ev (fun k => spec_l00Has.l0 k l v (i : Int)) (decide (v ∈ l.drop i)) := by
  intro d
  induction d with
  | zero =>
    intro i h
    apply evsucc
    simp only [spec_l00Has.l0]
    refine evn (by omega) (evc fun _ => ?_)
    rw [List.drop_of_length_le (by omega)]
    simp
  | succ d ih =>
    intro i h
    apply evsucc
    simp only [spec_l00Has.l0]
    refine evp (by omega) (evp (by omega) ?_)
    have hi : i < l.length := by omega
    rw [wsucc hi hn, rd_at hi, drop_at hi]
    by_cases e : l[i] = v
    · refine evp e (evc fun _ => ?_)
      simp [e]
    · refine evn e ?_
      have e' : ¬ v = l[i] := fun h => e h.symm
      have e2 : decide (v ∈ l[i] :: l.drop (i + 1)) = decide (v ∈ l.drop (i + 1)) := decide_eq_decide.2 (by rw [List.mem_cons]; exact ⟨fun h => h.resolve_left e', Or.inr⟩)
      rw [e2]
      exact ih (i + 1) (by omega)
theorem has_ev (l : List Int) (v : Int) (hn : l.length ≤ 140737488351232) : Ev (fun k => spec_l00Has.f k l v) (decide (v ∈ l)) := by
  have := has_loop l v hn l.length 0 (by omega)
  simpa [spec_l00Has.f] using this
/-- Where a value stands first from i on, or -1. -/
def idxFrom : List Int → Nat → Int → Int
  | [], _, _ => -1
  | x :: r, i, v => if v = x then (i : Int) else idxFrom r (i + 1) v
theorem idxFrom_nonneg (l : List Int) (i : Nat) (v : Int) : idxFrom l i v ≥ 0 ↔ v ∈ l := by
  induction l generalizing i with
  | nil => simp [idxFrom]
  | cons x r ih =>
    simp only [idxFrom]
    by_cases e : v = x
    · simp [e]
    · rw [if_neg e, ih, List.mem_cons]
      exact ⟨Or.inr, fun h => h.resolve_left e⟩
theorem index_loop (l : List Int) (v : Int) (hn : l.length ≤ 140737488351232) : ∀ (d i : Nat), i + d = l.length → Ev (fun k => slices_Index_int64_int64.l0 k l v (l.length : Int) (i : Int)) (idxFrom (l.drop i) i v) := by
  intro d
  induction d with
  | zero =>
    intro i h
    apply evsucc
    simp only [slices_Index_int64_int64.l0]
    refine evn (by omega) (evc fun _ => ?_)
    rw [List.drop_of_length_le (by omega)]
    rfl
  | succ d ih =>
    intro i h
    apply evsucc
    simp only [slices_Index_int64_int64.l0]
    refine evp (by omega) (evp (by omega) (evp (by omega) ?_))
    have hi : i < l.length := by omega
    rw [wsucc hi hn, rd_at hi, drop_at hi]
    simp only [idxFrom]
    by_cases e : v = l[i]
    · rw [if_pos e]
      exact evp e (evc fun _ => rfl)
    · rw [if_neg e]
      exact evn e (ih (i + 1) (by omega))
theorem index_ev (l : List Int) (v : Int) (hn : l.length ≤ 140737488351232) : Ev (fun k => slices_Index_int64_int64.f k l v) (idxFrom l 0 v) := by
  have := index_loop l v hn l.length 0 (by omega)
  simpa [slices_Index_int64_int64.f] using this
theorem contains_ev (l : List Int) (v : Int) (hn : l.length ≤ 140737488351232) : Ev (fun k => slices_Contains_int64_int64.f k l v) (decide (v ∈ l)) := by
  unfold slices_Contains_int64_int64.f
  refine evb (index_ev l v hn) (evc fun _ => ?_)
  rw [decide_eq_decide.2 (idxFrom_nonneg l 0 v)]
/-- The elements behind those that were seen are nodes or holes, and no node comes twice. -/
def actFrom : List Int → List Int → Bool
  | _, [] => true
  | seen, n :: r => decide (-1 ≤ n ∧ n ≤ 15) && (!(decide (0 ≤ n) && decide (n ∈ seen)) && actFrom (seen ++ [n]) r)
def actB (l : List Int) : Bool := decide ((1 : Int) ≤ (l.length : Int) ∧ (l.length : Int) ≤ 7) && actFrom [] l
theorem actImpl_loop (l : List Int) (hn : l.length ≤ 140737488351232) : ∀ (d i : Nat), i + d = l.length →
    Ev (fun k => impl_ActingOk.l0 k l l (l.length : Int) (i : Int)) (actFrom (l.take i) (l.drop i) && decide ((1 : Int) ≤ (l.length : Int) ∧ (l.length : Int) ≤ 7)) := by
  intro d
  induction d with
  | zero =>
    intro i h
    apply evsucc
    simp only [impl_ActingOk.l0]
    refine evn (by omega) (evk (between_eq _ _ _) (evc fun _ => ?_))
    rw [List.drop_of_length_le (by omega)]
    simp [actFrom]
  | succ d ih =>
    intro i h
    apply evsucc
    simp only [impl_ActingOk.l0]
    refine evp (by omega) (evp (by omega) (evp (by omega) (evk (between_eq _ _ _) ?_)))
    have hi : i < l.length := by omega
    rw [wsucc hi hn, rd_at hi, drop_at hi, Int.toNat_natCast]
    have hs := ih (i + 1) (by omega)
    rw [take_at hi] at hs
    simp only [actFrom]
    by_cases hr : -1 ≤ l[i] ∧ l[i] ≤ 15
    · refine evp (by simpa using hr) ?_
      rw [decide_eq_true hr, Bool.true_and]
      by_cases h0 : l[i] ≥ 0
      · refine evp h0 (evp (by omega) (evb (contains_ev (l.take i) l[i] (by rw [List.length_take]; omega)) ?_))
        have h0' : (0 : Int) ≤ l[i] := h0
        by_cases hm : l[i] ∈ l.take i
        · exact evp (by simpa using hm) (evc fun _ => by simp [h0', hm])
        · refine evn (by simpa using hm) ?_
          simpa [hm] using hs
      · refine evn h0 ?_
        have h0' : ¬ (0 : Int) ≤ l[i] := h0
        simpa [h0'] using hs
    · exact evn (by simpa using hr) (evc fun _ => by rw [decide_eq_false hr]; rfl)
theorem actImpl (l : List Int) (hn : l.length ≤ 140737488351232) : Ev (fun k => impl_ActingOk.f k l) (actB l) := by
  have := actImpl_loop l hn l.length 0 (by omega)
  rw [Bool.and_comm] at this
  simpa [impl_ActingOk.f, actB] using this
theorem actSpec_loop (l : List Int) (hn : l.length ≤ 140737488351232) : ∀ (d i : Nat), i + d = l.length →
    Ev (fun k => spec_l12Ok.l0 k l (i : Int)) (actFrom (l.take i) (l.drop i)) := by
  intro d
  induction d with
  | zero =>
    intro i h
    apply evsucc
    simp only [spec_l12Ok.l0]
    refine evn (by omega) (evc fun _ => ?_)
    rw [List.drop_of_length_le (by omega)]
    simp [actFrom]
  | succ d ih =>
    intro i h
    apply evsucc
    simp only [spec_l12Ok.l0]
    refine evp (by omega) (evp (by omega) (evk (l00In_eq _ _ _) ?_))
    have hi : i < l.length := by omega
    rw [wsucc hi hn, rd_at hi, drop_at hi, Int.toNat_natCast]
    have hs := ih (i + 1) (by omega)
    rw [take_at hi] at hs
    simp only [actFrom]
    by_cases hr : -1 ≤ l[i] ∧ l[i] ≤ 15
    · refine evp (by simpa using hr) ?_
      rw [decide_eq_true hr, Bool.true_and]
      by_cases h0 : l[i] ≥ 0
      · refine evp h0 (evp (by omega) (evb (has_ev (l.take i) l[i] (by rw [List.length_take]; omega)) ?_))
        have h0' : (0 : Int) ≤ l[i] := h0
        by_cases hm : l[i] ∈ l.take i
        · exact evp (by simpa using hm) (evc fun _ => by simp [h0', hm])
        · refine evn (by simpa using hm) ?_
          simpa [hm] using hs
      · refine evn h0 ?_
        have h0' : ¬ (0 : Int) ≤ l[i] := h0
        simpa [h0'] using hs
    · exact evn (by simpa using hr) (evc fun _ => by rw [decide_eq_false hr]; rfl)
theorem actSpec (l : List Int) (hn : l.length ≤ 140737488351232) : Ev (fun k => spec_l12Ok.f k l) (actB l) := by
  have hs := actSpec_loop l hn l.length 0 (by omega)
  unfold spec_l12Ok.f
  by_cases h1 : (l.length : Int) < 1
  · refine evp h1 (evsucc ?_)
    have h1' : ¬ (1 : Int) ≤ (l.length : Int) := by omega
    simp only [spec_l12Ok.j0]
    exact evp (by simp) (evc fun _ => by simp [actB, h1'])
  · refine evn h1 (evsucc ?_)
    have h1' : (1 : Int) ≤ (l.length : Int) := by omega
    simp only [spec_l12Ok.j0]
    by_cases h2 : (l.length : Int) > 7
    · have h2' : ¬ (l.length : Int) ≤ 7 := by omega
      exact evp (by simpa using h2) (evc fun _ => by simp [actB, h2'])
    · have h2' : (l.length : Int) ≤ 7 := by omega
      refine evn (by simpa using h2) ?_
      simpa [actB, h1', h2'] using hs
theorem rdIv_at {l : List S43} {i : Nat} (h : i < l.length) : rd_T43 l (i : Int) = l[i] := by
  simp [rd_T43, List.getD_eq_getElem?_getD, List.getElem?_eq_getElem h]
theorem rdLv_at {l : List S40} {i : Nat} (h : i < l.length) : rd_T40 l (i : Int) = l[i] := by
  simp [rd_T40, List.getD_eq_getElem?_getD, List.getElem?_eq_getElem h]
def cIv (x : S40) : S43 := ⟨x.f0, x.f1, x.f2, x.f3⟩
theorem szInts_some (l : List Int) (a : Int) : ∃ r, laws_szInt64S.f l a = some r := by
  unfold laws_szInt64S.f
  split <;> exact ⟨_, rfl⟩
theorem szIv_some (a b : Int) (l : List Int) (c : Bool) (x : Int) : ∃ r, laws_szInterval.f a b l c x = some r := by
  unfold laws_szInterval.f
  obtain ⟨r, h⟩ := szInts_some l x
  rw [h]
  simp only [Option.bind_some]
  split <;> exact ⟨_, rfl⟩
theorem szIvs_loop (l : List S40) (hn : l.length ≤ 140737488351232) : ∀ (d i : Nat) (a : Int), i + d = l.length → ∃ r, Ev (fun k => laws_szIntervalS.l0 k l a (i : Int)) r := by
  intro d
  induction d with
  | zero =>
    intro i a h
    refine ⟨a, evsucc ?_⟩
    simp only [laws_szIntervalS.l0]
    exact evn (by omega) (evc fun _ => rfl)
  | succ d ih =>
    intro i a h
    have hi : i < l.length := by omega
    obtain ⟨r, hr⟩ := szIv_some (l[i]).f0 (l[i]).f1 (l[i]).f2 (l[i]).f3 a
    by_cases hneg : r < 0
    · refine ⟨-1, evsucc ?_⟩
      simp only [laws_szIntervalS.l0, rdLv_at hi]
      exact evp (by omega) (evp (by omega) (evk hr (evp hneg (evc fun _ => rfl))))
    · obtain ⟨q, hq⟩ := ih (i + 1) r (by omega)
      refine ⟨q, evsucc ?_⟩
      simp only [laws_szIntervalS.l0, rdLv_at hi, wsucc hi hn]
      exact evp (by omega) (evp (by omega) (evk hr (evn hneg hq)))
theorem szIvs_some (l : List S40) (hn : l.length ≤ 140737488351232) (a : Int) : ∃ r, Ev (fun k => laws_szIntervalS.f k l a) r := by
  unfold laws_szIntervalS.f
  by_cases h : wrap64 (a - (l.length : Int)) < 0
  · exact ⟨-1, evp h (evc fun _ => rfl)⟩
  · obtain ⟨r, hr⟩ := szIvs_loop l hn l.length 0 (wrap64 (a - (l.length : Int))) (by omega)
    exact ⟨r, evn h hr⟩
theorem toIv_ev (a b : Int) (l : List Int) (c : Bool) (hn : l.length ≤ 35184372088832) : Ev (fun k => laws_toInterval.f k a b l c) (a, b, l, c) := by
  unfold laws_toInterval.f
  exact evb (toInts_ev l hn) (evc fun _ => rfl)
theorem toIvs_loop (l : List S40) (hn : l.length ≤ 140737488351232) (hl : ∀ x ∈ l, x.f2.length ≤ 35184372088832) : ∀ (d i : Nat) (ys : List S43), i + d = l.length → ys.length = l.length → ys.take i = (l.take i).map cIv →
    Ev (fun k => laws_toIntervalS.l0 k l ys (i : Int)) (l.map cIv) := by
  intro d
  induction d with
  | zero =>
    intro i ys h hlen ht
    apply evsucc
    simp only [laws_toIntervalS.l0]
    refine evn (by omega) (evc fun _ => ?_)
    obtain rfl : i = l.length := by omega
    rw [← hlen, List.take_length] at ht
    rw [ht, hlen, List.take_length]
  | succ d ih =>
    intro i ys h hlen ht
    have hi : i < l.length := by omega
    apply evsucc
    simp only [laws_toIntervalS.l0, rdLv_at hi, wsucc hi hn]
    refine evp (by omega) (evp (by omega) (evb (toIv_ev _ _ _ _ (hl _ (List.getElem_mem hi))) (evp (by omega) ?_)))
    rw [Int.toNat_natCast]
    refine ih (i + 1) _ (by omega) (by simpa using hlen) ?_
    rw [take_at (by simp; omega), take_at hi, List.take_set_of_le (by omega), ht, List.map_append, List.getElem_set_self]
    rfl
theorem toIvs_ev (l : List S40) (hn : l.length ≤ 5864062014805) (hl : ∀ x ∈ l, x.f2.length ≤ 35184372088832) : Ev (fun k => laws_toIntervalS.f k l) (l.map cIv) := by
  unfold laws_toIntervalS.f
  exact evp (by omega) (evp (by omega) (toIvs_loop l (by omega) hl l.length 0 _ (by omega) (by simp) (by simp)))
theorem eqIv_ev (x : S43) (hn : x.f2.length ≤ 140737488351232) : Ev (fun k => laws_eqInterval.f k x.f0 x.f1 x.f2 x.f3 x.f0 x.f1 x.f2 x.f3) true := by
  unfold laws_eqInterval.f
  exact evp rfl (evp rfl (evb (eqInts_ev _ hn) (evp rfl (evn (by simp) (evc fun _ => rfl)))))
theorem eqIvs_loop (l : List S43) (hn : l.length ≤ 140737488351232) (hl : ∀ x ∈ l, x.f2.length ≤ 140737488351232) : ∀ (d i : Nat), i + d = l.length → Ev (fun k => laws_eqIntervalS.l0 k l l (i : Int)) true := by
  intro d
  induction d with
  | zero =>
    intro i h
    apply evsucc
    simp only [laws_eqIntervalS.l0]
    exact evn (by omega) (evc fun _ => rfl)
  | succ d ih =>
    intro i h
    have hi : i < l.length := by omega
    apply evsucc
    simp only [laws_eqIntervalS.l0, rdIv_at hi, wsucc hi hn]
    exact evp (by omega) (evp (by omega) (evp (by omega) (evb (eqIv_ev _ (hl _ (List.getElem_mem hi))) (evp rfl (ih (i + 1) (by omega))))))
theorem eqIvs_ev (l : List S43) (hn : l.length ≤ 140737488351232) (hl : ∀ x ∈ l, x.f2.length ≤ 140737488351232) : Ev (fun k => laws_eqIntervalS.f k l l) true := by
  unfold laws_eqIntervalS.f
  exact evp rfl (eqIvs_loop l hn hl l.length 0 (by omega))
/-- Intervals that follow one another, each with as many places as the first. -/
def ivFrom (n0 : Int) : Int → List S43 → Bool
  | _, [] => true
  | next, v :: r => decide (v.f0 = next) && (decide (v.f0 ≤ v.f1 ∧ v.f1 ≤ 60) && (actB v.f2 && (decide ((v.f2.length : Int) = n0) && ivFrom n0 (wrap64 (v.f1 + 1)) r)))
def ivsB (l : List S43) : Bool := decide ((l.length : Int) ≤ 60) && ivFrom ((rd_T43 l 0).f2.length : Int) 1 l
theorem ivImpl_loop (l : List S43) (hn : l.length ≤ 140737488351232) (hl : ∀ x ∈ l, x.f2.length ≤ 140737488351232) : ∀ (d i : Nat) (nx : Int), i + d = l.length →
    Ev (fun k => impl_IntervalsOk.l0 k l nx l (l.length : Int) (i : Int)) (ivFrom ((rd_T43 l 0).f2.length : Int) nx (l.drop i) && decide ((l.length : Int) ≤ 60)) := by
  intro d
  induction d with
  | zero =>
    intro i nx h
    apply evsucc
    simp only [impl_IntervalsOk.l0]
    refine evn (by omega) (evc fun _ => ?_)
    rw [List.drop_of_length_le (by omega)]
    simp [ivFrom]
  | succ d ih =>
    intro i nx h
    have hi : i < l.length := by omega
    have hs := ih (i + 1) (wrap64 ((l[i]).f1 + 1)) (by omega)
    apply evsucc
    simp only [impl_IntervalsOk.l0, rdIv_at hi, wsucc hi hn]
    rw [drop_at hi]
    simp only [ivFrom]
    refine evp (by omega) (evp (by omega) (evp (by omega) ?_))
    by_cases h1 : (l[i]).f0 = nx
    · refine evp h1 (evk (between_eq _ _ _) ?_)
      by_cases h2 : (l[i]).f0 ≤ (l[i]).f1 ∧ (l[i]).f1 ≤ 60
      · refine evp (by simpa using h2) (evb (actImpl _ (hl _ (List.getElem_mem hi))) ?_)
        cases h3 : actB (l[i]).f2 with
        | false => exact evn (by simp) (evc fun _ => by simp)
        | true =>
          refine evp rfl (evp (by omega) ?_)
          by_cases h4 : ((l[i]).f2.length : Int) = ((rd_T43 l 0).f2.length : Int)
          · refine evp h4 ?_
            rw [decide_eq_true h1, decide_eq_true h2, decide_eq_true h4]
            simpa using hs
          · refine evn h4 (evc fun _ => ?_)
            rw [decide_eq_false h4]
            simp
      · refine evn (by simpa using h2) (evc fun _ => ?_)
        rw [decide_eq_false h2]
        simp
    · refine evn h1 (evc fun _ => ?_)
      rw [decide_eq_false h1]
      simp
theorem ivImpl (l : List S43) (hn : l.length ≤ 140737488351232) (hl : ∀ x ∈ l, x.f2.length ≤ 140737488351232) : Ev (fun k => impl_IntervalsOk.f k l) (ivsB l) := by
  have := ivImpl_loop l hn hl l.length 0 1 (by omega)
  rw [Bool.and_comm] at this
  simpa [impl_IntervalsOk.f, ivsB] using this
theorem ivSpec_loop (l : List S43) (hn : l.length ≤ 140737488351232) (hl : ∀ x ∈ l, x.f2.length ≤ 140737488351232) : ∀ (d i : Nat) (nx : Int), i + d = l.length →
    Ev (fun k => spec_l13Ok.l0 k l nx (i : Int)) (ivFrom ((rd_T43 l 0).f2.length : Int) nx (l.drop i)) := by
  intro d
  induction d with
  | zero =>
    intro i nx h
    apply evsucc
    simp only [spec_l13Ok.l0]
    refine evn (by omega) (evc fun _ => ?_)
    rw [List.drop_of_length_le (by omega)]
    simp [ivFrom]
  | succ d ih =>
    intro i nx h
    have hi : i < l.length := by omega
    have hs := ih (i + 1) (wrap64 ((l[i]).f1 + 1)) (by omega)
    apply evsucc
    simp only [spec_l13Ok.l0, rdIv_at hi, wsucc hi hn]
    rw [drop_at hi]
    simp only [ivFrom]
    refine evp (by omega) (evp (by omega) ?_)
    by_cases h1 : (l[i]).f0 = nx
    · refine evp h1 (evk (l00In_eq _ _ _) ?_)
      by_cases h2 : (l[i]).f0 ≤ (l[i]).f1 ∧ (l[i]).f1 ≤ 60
      · refine evp (by simpa using h2) (evb (actSpec _ (hl _ (List.getElem_mem hi))) ?_)
        cases h3 : actB (l[i]).f2 with
        | false => exact evn (by simp) (evc fun _ => by simp)
        | true =>
          refine evp rfl (evp (by omega) ?_)
          by_cases h4 : ((l[i]).f2.length : Int) = ((rd_T43 l 0).f2.length : Int)
          · refine evp h4 ?_
            rw [decide_eq_true h1, decide_eq_true h2, decide_eq_true h4]
            simpa using hs
          · refine evn h4 (evc fun _ => ?_)
            rw [decide_eq_false h4]
            simp
      · refine evn (by simpa using h2) (evc fun _ => ?_)
        rw [decide_eq_false h2]
        simp
    · refine evn h1 (evc fun _ => ?_)
      rw [decide_eq_false h1]
      simp
theorem ivSpec (l : List S43) (hn : l.length ≤ 140737488351232) (hl : ∀ x ∈ l, x.f2.length ≤ 140737488351232) : Ev (fun k => spec_l13Ok.f k l) (ivsB l) := by
  have hs := ivSpec_loop l hn hl l.length 0 1 (by omega)
  unfold spec_l13Ok.f
  by_cases h : (l.length : Int) > 60
  · have h' : ¬ (l.length : Int) ≤ 60 := by omega
    exact evp h (evc fun _ => by simp [ivsB, h'])
  · have h' : (l.length : Int) ≤ 60 := by omega
    refine evn h ?_
    simpa [ivsB, h'] using hs
theorem FnExactIntervalsOk : Stmt.FnExactIntervalsOk.PureS := by
  intro l ⟨_, hl, hx⟩
  have hb : ∀ x ∈ l, x.f2.length ≤ 17592186043904 := fun x h => by have := (hx x h).2.2.1.2.1; omega
  have hc : ∀ x ∈ l.map cIv, x.f2.length ≤ 17592186043904 := fun x h => by
    obtain ⟨y, hy, rfl⟩ := List.mem_map.1 h
    exact hb y hy
  have hlen : (l.map cIv).length = l.length := by simp
  apply ev_ex
  unfold laws_FnExactIntervalsOk.f
  obtain ⟨r, hr⟩ := szIvs_some l (by omega) 1048576
  refine evb hr ?_
  by_cases h : r < 0
  · exact evp h (evc fun _ => rfl)
  · have ht := toIvs_ev l (by omega) (fun x h => by have := hb x h; omega)
    have hs : Ev (fun k => spec_IntervalsOk.f k (l.map cIv)) (ivsB (l.map cIv)) := by
      unfold spec_IntervalsOk.f
      exact evb (ivSpec _ (by omega) (fun x h => by have := hc x h; omega)) (evc fun _ => rfl)
    exact evn h (evb ht (evb hs (evb ht (evb (ivImpl _ (by omega) (fun x h => by have := hc x h; omega)) (evn (by simp) (evb ht (evb (eqIvs_ev _ (by omega) (fun x h => by have := hc x h; omega)) (evp rfl (evc fun _ => rfl)))))))))
end Go.Proofs.Ytfeaokelfbjcdaa.Pure
