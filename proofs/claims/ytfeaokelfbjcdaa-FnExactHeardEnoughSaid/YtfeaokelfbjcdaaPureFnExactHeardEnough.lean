/- The program's HeardEnough and the reference's give one answer at all intervals, numbers and lists within the reach. No other condition. -/
import Derived.Test.YtfeaokelfbjcdaaStmtFnExactHeardEnough
set_option linter.unusedSimpArgs false
set_option linter.unusedVariables false
namespace Go.Proofs.Ytfeaokelfbjcdaa.Pure
open Go.RowKit Go.Proofs.Ytfeaokelfbjcdaa.MFnExactHeardEnough Go.Proofs.YtfeaokelfbjcdaaW.PrintWords Go.Proofs.YtfeaokelfbjcdaaW.PrintLast
theorem evc {α : Type} {g : Nat → Option α} {r : α} (h : ∀ k, g k = some r) : Ev g r := ⟨0, fun k _ => h k⟩
theorem evsucc {α : Type} {g : Nat → Option α} {r : α} (h : Ev (fun k => g (k + 1)) r) : Ev g r := by
  obtain ⟨K, hK⟩ := h
  refine ⟨K + 1, fun k hk => ?_⟩
  obtain ⟨k, rfl⟩ : ∃ m, k = m + 1 := ⟨k - 1, by omega⟩
  exact hK k (by omega)
theorem evp {α : Type} {c : Prop} [Decidable c] {g f : Nat → Option α} {r : α} (hc : c) (h : Ev g r) : Ev (fun k => if c then g k else f k) r := by
  simp only [if_pos hc]; exact h
theorem evn {α : Type} {c : Prop} [Decidable c] {g f : Nat → Option α} {r : α} (hc : ¬ c) (h : Ev f r) : Ev (fun k => if c then g k else f k) r := by
  simp only [if_neg hc]; exact h
theorem evb {α β : Type} {g : Nat → Option α} {f : Nat → α → Option β} {a : α} {r : β} (h : Ev g a) (k : Ev (fun n => f n a) r) : Ev (fun n => (g n).bind (f n)) r := Ev.bind h k
theorem evk {α β : Type} {g : Option α} {f : Nat → α → Option β} {a : α} {r : β} (h : g = some a) (k : Ev (fun n => f n a) r) : Ev (fun n => g.bind (f n)) r := by subst h; exact k
theorem ev_ex {α : Type} {g : Nat → Option α} {r : α} (h : Ev g r) : ∃ k, g k = some r := by obtain ⟨K, hK⟩ := h; exact ⟨K, hK K (Nat.le_refl _)⟩
theorem wsucc {i n : Nat} (h : i < n) (hn : n ≤ 140737488351232) : wrap64 ((i : Int) + 1) = ((i + 1 : Nat) : Int) := by unfold wrap64; omega
theorem rd_at {l : List Int} {i : Nat} (h : i < l.length) : rd l (i : Int) = l[i] := by
  simp [rd, List.getD_eq_getElem?_getD, List.getElem?_eq_getElem h]
theorem drop_at {α : Type} {l : List α} {i : Nat} (h : i < l.length) : l.drop i = l[i] :: l.drop (i + 1) := List.drop_eq_getElem_cons h
theorem take_at {α : Type} {l : List α} {i : Nat} (h : i < l.length) : l.take (i + 1) = l.take i ++ [l[i]] := by
  rw [List.take_succ_eq_append_getElem h]
theorem between_eq (a b c : Int) : impl_between.f a b c = some (decide (b ≤ a ∧ a ≤ c)) := by
  unfold impl_between.f
  by_cases h : a ≥ b
  · have h' : b ≤ a := h
    simp [h, h']
  · have h' : ¬ b ≤ a := h
    simp [h, h']
theorem l00In_eq (a b c : Int) : spec_l00In.f a b c = some (decide (b ≤ a ∧ a ≤ c)) := by
  unfold spec_l00In.f
  by_cases h : a ≥ b
  · have h' : b ≤ a := h
    simp [h, h']
  · have h' : ¬ b ≤ a := h
    simp [h, h']
theorem toInts_loop (l : List Int) (hn : l.length ≤ 140737488351232) : ∀ (d i : Nat) (ys : List Int), i + d = l.length → ys.length = l.length → ys.take i = l.take i → Ev (fun k => laws_toInt64S.l0 k l ys (i : Int)) l := by
  intro d
  induction d with
  | zero =>
    intro i ys h hl ht
    apply evsucc
    simp only [laws_toInt64S.l0]
    refine evn (by omega) (evc fun _ => ?_)
    obtain rfl : i = l.length := by omega
    rw [← hl, List.take_length] at ht
    rw [ht, hl, List.take_length]
  | succ d ih =>
    intro i ys h hl ht
    apply evsucc
    simp only [laws_toInt64S.l0]
    refine evp (by omega) (evp (by omega) (evp (by omega) ?_))
    rw [wsucc (n := l.length) (by omega) hn, rd_at (by omega), Int.toNat_natCast]
    refine ih (i + 1) _ (by omega) (by simpa using hl) ?_
    rw [take_at (by simp; omega), take_at (by omega), List.take_set_of_le (by omega), ht]
    simp
theorem toInts_ev (l : List Int) (hn : l.length ≤ 35184372088832) : Ev (fun k => laws_toInt64S.f k l) l := by
  unfold laws_toInt64S.f
  refine evp (by omega) (evp (by omega) ?_)
  exact toInts_loop l (by omega) l.length 0 _ (by omega) (by simp) (by simp)
theorem eqInts_loop (l : List Int) (hn : l.length ≤ 140737488351232) : ∀ (d i : Nat), i + d = l.length → Ev (fun k => laws_eqInt64S.l0 k l l (i : Int)) true := by
  intro d
  induction d with
  | zero =>
    intro i h
    apply evsucc
    simp only [laws_eqInt64S.l0]
    exact evn (by omega) (evc fun _ => rfl)
  | succ d ih =>
    intro i h
    apply evsucc
    simp only [laws_eqInt64S.l0]
    refine evp (by omega) (evp (by omega) (evp (by omega) (evp (by trivial) ?_)))
    rw [wsucc (n := l.length) (by omega) hn]
    exact ih (i + 1) (by omega)
theorem eqInts_ev (l : List Int) (hn : l.length ≤ 140737488351232) : Ev (fun k => laws_eqInt64S.f k l l) true := by
  unfold laws_eqInt64S.f
  exact evp rfl (eqInts_loop l hn l.length 0 (by omega))
theorem has_loop (l : List Int) (v : Int) (hn : l.length ≤ 140737488351232) : ∀ (d i : Nat), i + d = l.length → Ev (fun k => spec_l00Has.l0 k l v (i : Int)) (decide (v ∈ l.drop i)) := by
  intro d
  induction d with
  | zero =>
    intro i h
    apply evsucc
    simp only [spec_l00Has.l0]
    refine evn (by omega) (evc fun _ => ?_)
    rw [List.drop_of_length_le (by omega)]
    simp
  | succ d ih =>
    intro i h
    apply evsucc
    simp only [spec_l00Has.l0]
    refine evp (by omega) (evp (by omega) ?_)
    have hi : i < l.length := by omega
    rw [wsucc hi hn, rd_at hi, drop_at hi]
    by_cases e : l[i] = v
    · refine evp e (evc fun _ => ?_)
      simp [e]
    · refine evn e ?_
      have e' : ¬ v = l[i] := fun h => e h.symm
      have e2 : decide (v ∈ l[i] :: l.drop (i + 1)) = decide (v ∈ l.drop (i + 1)) := decide_eq_decide.2 (by rw [List.mem_cons]; exact ⟨fun h => h.resolve_left e', Or.inr⟩)
      rw [e2]
      exact ih (i + 1) (by omega)
theorem has_ev (l : List Int) (v : Int) (hn : l.length ≤ 140737488351232) : Ev (fun k => spec_l00Has.f k l v) (decide (v ∈ l)) := by
  have := has_loop l v hn l.length 0 (by omega)
  simpa [spec_l00Has.f] using this
/-- Where a value stands first from i on, or -1. -/
def idxFrom : List Int → Nat → Int → Int
  | [], _, _ => -1
  | x :: r, i, v => if v = x then (i : Int) else idxFrom r (i + 1) v
theorem idxFrom_nonneg (l : List Int) (i : Nat) (v : Int) : idxFrom l i v ≥ 0 ↔ v ∈ l := by
  induction l generalizing i with
  | nil => simp [idxFrom]
  | cons x r ih =>
    simp only [idxFrom]
    by_cases e : v = x
    · simp [e]
    · rw [if_neg e, ih, List.mem_cons]
      exact ⟨Or.inr, fun h => h.resolve_left e⟩
theorem index_loop (l : List Int) (v : Int) (hn : l.length ≤ 140737488351232) : ∀ (d i : Nat), i + d = l.length → Ev (fun k => slices_Index_int64_int64.l0 k l v (l.length : Int) (i : Int)) (idxFrom (l.drop i) i v) := by
  intro d
  induction d with
  | zero =>
    intro i h
    apply evsucc
    simp only [slices_Index_int64_int64.l0]
    refine evn (by omega) (evc fun _ => ?_)
    rw [List.drop_of_length_le (by omega)]
    rfl
  | succ d ih =>
    intro i h
    apply evsucc
    simp only [slices_Index_int64_int64.l0]
    refine evp (by omega) (evp (by omega) (evp (by omega) ?_))
    have hi : i < l.length := by omega
    rw [wsucc hi hn, rd_at hi, drop_at hi]
    simp only [idxFrom]
    by_cases e : v = l[i]
    · rw [if_pos e]
      exact evp e (evc fun _ => rfl)
    · rw [if_neg e]
      exact evn e (ih (i + 1) (by omega))
theorem index_ev (l : List Int) (v : Int) (hn : l.length ≤ 140737488351232) : Ev (fun k => slices_Index_int64_int64.f k l v) (idxFrom l 0 v) := by
  have := index_loop l v hn l.length 0 (by omega)
  simpa [slices_Index_int64_int64.f] using this
theorem contains_ev (l : List Int) (v : Int) (hn : l.length ≤ 140737488351232) : Ev (fun k => slices_Contains_int64_int64.f k l v) (decide (v ∈ l)) := by
  unfold slices_Contains_int64_int64.f
  refine evb (index_ev l v hn) (evc fun _ => ?_)
  rw [decide_eq_decide.2 (idxFrom_nonneg l 0 v)]
/-- The elements behind those that were seen are nodes or holes, and no node comes twice. -/
def actFrom : List Int → List Int → Bool
  | _, [] => true
  | seen, n :: r => decide (-1 ≤ n ∧ n ≤ 15) && (!(decide (0 ≤ n) && decide (n ∈ seen)) && actFrom (seen ++ [n]) r)
def actB (l : List Int) : Bool := decide ((1 : Int) ≤ (l.length : Int) ∧ (l.length : Int) ≤ 7) && actFrom [] l
theorem actImpl_loop (l : List Int) (hn : l.length ≤ 140737488351232) : ∀ (d i : Nat), i + d = l.length →
    Ev (fun k => impl_ActingOk.l0 k l l (l.length : Int) (i : Int)) (actFrom (l.take i) (l.drop i) && decide ((1 : Int) ≤ (l.length : Int) ∧ (l.length : Int) ≤ 7)) := by
  intro d
  induction d with
  | zero =>
    intro i h
    apply evsucc
    simp only [impl_ActingOk.l0]
    refine evn (by omega) (evk (between_eq _ _ _) (evc fun _ => ?_))
    rw [List.drop_of_length_le (by omega)]
    simp [actFrom]
  | succ d ih =>
    intro i h
    apply evsucc
    simp only [impl_ActingOk.l0]
    refine evp (by omega) (evp (by omega) (evp (by omega) (evk (between_eq _ _ _) ?_)))
    have hi : i < l.length := by omega
    rw [wsucc hi hn, rd_at hi, drop_at hi, Int.toNat_natCast]
    have hs := ih (i + 1) (by omega)
    rw [take_at hi] at hs
    simp only [actFrom]
    by_cases hr : -1 ≤ l[i] ∧ l[i] ≤ 15
    · refine evp (by simpa using hr) ?_
      rw [decide_eq_true hr, Bool.true_and]
      by_cases h0 : l[i] ≥ 0
      · refine evp h0 (evp (by omega) (evb (contains_ev (l.take i) l[i] (by rw [List.length_take]; omega)) ?_))
        have h0' : (0 : Int) ≤ l[i] := h0
        by_cases hm : l[i] ∈ l.take i
        · exact evp (by simpa using hm) (evc fun _ => by simp [h0', hm])
        · refine evn (by simpa using hm) ?_
          simpa [hm] using hs
      · refine evn h0 ?_
        have h0' : ¬ (0 : Int) ≤ l[i] := h0
        simpa [h0'] using hs
    · exact evn (by simpa using hr) (evc fun _ => by rw [decide_eq_false hr]; rfl)
theorem actImpl (l : List Int) (hn : l.length ≤ 140737488351232) : Ev (fun k => impl_ActingOk.f k l) (actB l) := by
  have := actImpl_loop l hn l.length 0 (by omega)
  rw [Bool.and_comm] at this
  simpa [impl_ActingOk.f, actB] using this
theorem actSpec_loop (l : List Int) (hn : l.length ≤ 140737488351232) : ∀ (d i : Nat), i + d = l.length →
    Ev (fun k => spec_l12Ok.l0 k l (i : Int)) (actFrom (l.take i) (l.drop i)) := by
  intro d
  induction d with
  | zero =>
    intro i h
    apply evsucc
    simp only [spec_l12Ok.l0]
    refine evn (by omega) (evc fun _ => ?_)
    rw [List.drop_of_length_le (by omega)]
    simp [actFrom]
  | succ d ih =>
    intro i h
    apply evsucc
    simp only [spec_l12Ok.l0]
    refine evp (by omega) (evp (by omega) (evk (l00In_eq _ _ _) ?_))
    have hi : i < l.length := by omega
    rw [wsucc hi hn, rd_at hi, drop_at hi, Int.toNat_natCast]
    have hs := ih (i + 1) (by omega)
    rw [take_at hi] at hs
    simp only [actFrom]
    by_cases hr : -1 ≤ l[i] ∧ l[i] ≤ 15
    · refine evp (by simpa using hr) ?_
      rw [decide_eq_true hr, Bool.true_and]
      by_cases h0 : l[i] ≥ 0
      · refine evp h0 (evp (by omega) (evb (has_ev (l.take i) l[i] (by rw [List.length_take]; omega)) ?_))
        have h0' : (0 : Int) ≤ l[i] := h0
        by_cases hm : l[i] ∈ l.take i
        · exact evp (by simpa using hm) (evc fun _ => by simp [h0', hm])
        · refine evn (by simpa using hm) ?_
          simpa [hm] using hs
      · refine evn h0 ?_
        have h0' : ¬ (0 : Int) ≤ l[i] := h0
        simpa [h0'] using hs
    · exact evn (by simpa using hr) (evc fun _ => by rw [decide_eq_false hr]; rfl)
theorem actSpec (l : List Int) (hn : l.length ≤ 140737488351232) : Ev (fun k => spec_l12Ok.f k l) (actB l) := by
  have hs := actSpec_loop l hn l.length 0 (by omega)
  unfold spec_l12Ok.f
  by_cases h1 : (l.length : Int) < 1
  · refine evp h1 (evsucc ?_)
    have h1' : ¬ (1 : Int) ≤ (l.length : Int) := by omega
    simp only [spec_l12Ok.j0]
    exact evp (by simp) (evc fun _ => by simp [actB, h1'])
  · refine evn h1 (evsucc ?_)
    have h1' : (1 : Int) ≤ (l.length : Int) := by omega
    simp only [spec_l12Ok.j0]
    by_cases h2 : (l.length : Int) > 7
    · have h2' : ¬ (l.length : Int) ≤ 7 := by omega
      exact evp (by simpa using h2) (evc fun _ => by simp [actB, h2'])
    · have h2' : (l.length : Int) ≤ 7 := by omega
      refine evn (by simpa using h2) ?_
      simpa [actB, h1', h2'] using hs
/-- How many nodes. -/
def cnt : List Int → Nat
  | [] => 0
  | n :: r => (if n ≥ 0 then 1 else 0) + cnt r
theorem cnt_filter : ∀ (l seen : List Int), actFrom seen l = true → (l.filter fun x => !decide (x = -1)).length = cnt l
  | [], _, _ => rfl
  | n :: r, seen, h => by
    simp only [actFrom, Bool.and_eq_true] at h
    have h1 := of_decide_eq_true h.1
    have ih := cnt_filter r _ h.2.2
    by_cases hn : n = -1
    · subst hn
      rw [List.filter_cons_of_neg (by simp), ih]
      simp only [cnt]
      rw [if_neg (by omega)]
      omega
    · rw [List.filter_cons_of_pos (by simpa using hn), List.length_cons, ih]
      simp only [cnt]
      rw [if_pos (by omega)]
      omega
theorem members_ev (l : List Int) (hn : l.length ≤ 1048576) : impl_members.f l = some ((l.filter fun x => !decide (x = -1)).mergeSort fun x y => decide (x ≤ y)) := by
  unfold impl_members.f impl_removed.f
  rw [if_pos (by omega)]
  rfl
def ins (v : Int) : List Int → List Int
  | [] => [v]
  | y :: r => if y ≥ v then (if y > v then v :: y :: r else y :: r) else y :: ins v r
def mem : List Int → List Int → List Int
  | acc, [] => acc
  | acc, n :: r => if n ≥ 0 then mem (ins n acc) r else mem acc r
theorem ins_len (v : Int) : ∀ l : List Int, (ins v l).length ≤ l.length + 1
  | [] => by simp [ins]
  | y :: r => by
    have := ins_len v r
    simp only [ins]
    by_cases h : y ≥ v
    · rw [if_pos h]
      by_cases h2 : y > v
      · rw [if_pos h2]; simp
      · rw [if_neg h2]; simp
    · rw [if_neg h]; simp only [List.length_cons]; omega
theorem ins_perm (v : Int) : ∀ l : List Int, v ∉ l → (ins v l).Perm (v :: l)
  | [], _ => List.Perm.refl _
  | y :: r, h => by
    have hy : v ≠ y := fun e => h (by simp [e])
    have hr : v ∉ r := fun e => h (by simp [e])
    simp only [ins]
    by_cases h1 : y ≥ v
    · rw [if_pos h1, if_pos (by omega)]
    · rw [if_neg h1]
      exact ((ins_perm v r hr).cons y).trans (List.Perm.swap v y r)
theorem ins_sorted (v : Int) : ∀ l : List Int, l.Pairwise (· ≤ ·) → (ins v l).Pairwise (· ≤ ·)
  | [], _ => by simp [ins]
  | y :: r, h => by
    have h' := List.pairwise_cons.1 h
    simp only [ins]
    by_cases h1 : y ≥ v
    · rw [if_pos h1]
      by_cases h2 : y > v
      · rw [if_pos h2]
        refine List.pairwise_cons.2 ⟨fun a ha => ?_, h⟩
        rcases List.mem_cons.1 ha with rfl | ha
        · exact h1
        · have := h'.1 a ha; omega
      · rw [if_neg h2]; exact h
    · rw [if_neg h1]
      refine List.pairwise_cons.2 ⟨fun a ha => ?_, ins_sorted v r h'.2⟩
      have : ∀ (l : List Int), a ∈ ins v l → a = v ∨ a ∈ l := by
        intro l
        induction l with
        | nil => intro h; left; simpa [ins] using h
        | cons z t ih =>
          intro h
          simp only [ins] at h
          by_cases g1 : z ≥ v
          · rw [if_pos g1] at h
            by_cases g2 : z > v
            · rw [if_pos g2] at h
              rcases List.mem_cons.1 h with h | h
              · exact .inl h
              · exact .inr h
            · rw [if_neg g2] at h; exact .inr h
          · rw [if_neg g1] at h
            rcases List.mem_cons.1 h with h | h
            · exact .inr (by simp [h])
            · rcases ih h with h | h
              · exact .inl h
              · exact .inr (List.mem_cons_of_mem _ h)
      rcases this r ha with e | e
      · omega
      · exact h'.1 a e
theorem mem_spec : ∀ (l seen acc : List Int), actFrom seen l = true → acc.Pairwise (· ≤ ·) → (∀ x ∈ acc, x ∈ seen) →
    (mem acc l).Pairwise (· ≤ ·) ∧ (mem acc l).Perm (acc ++ l.filter fun x => !decide (x = -1))
  | [], _, acc, _, hs, _ => ⟨hs, by simp [mem]⟩
  | n :: r, seen, acc, h, hs, hsub => by
    simp only [actFrom, Bool.and_eq_true] at h
    have h1 := of_decide_eq_true h.1
    simp only [mem]
    by_cases h0 : n ≥ 0
    · rw [if_pos h0, List.filter_cons_of_pos (by simp; omega)]
      have hn : n ∉ acc := fun e => by
        have := hsub n e
        have h2 := h.2.1
        simp [this] at h2
        omega
      have ih := mem_spec r (seen ++ [n]) (ins n acc) h.2.2 (ins_sorted n acc hs) (fun x hx => by
        have := (ins_perm n acc hn).mem_iff.1 hx
        rcases List.mem_cons.1 this with e | e
        · simp [e]
        · simp [hsub x e])
      refine ⟨ih.1, ih.2.trans ?_⟩
      exact ((ins_perm n acc hn).append_right _).trans (by simpa using List.perm_middle.symm)
    · rw [if_neg h0, List.filter_cons_of_neg (by simp; omega)]
      exact mem_spec r (seen ++ [n]) acc h.2.2 hs (fun x hx => by simp [hsub x hx])
theorem mem_members (l : List Int) (h : actFrom [] l = true) : (l.filter fun x => !decide (x = -1)).mergeSort (fun x y => decide (x ≤ y)) = mem [] l := by
  have hm := mem_spec l [] [] h List.Pairwise.nil (by simp)
  refine List.Perm.eq_of_pairwise (le := fun a b : Int => a ≤ b) (fun a b _ _ h1 h2 => Int.le_antisymm h1 h2) ?_ hm.1 ?_
  · have := List.pairwise_mergeSort (le := fun x y : Int => decide (x ≤ y)) (by simp; intro a b c; omega) (by simp; intro a b; omega) (l.filter fun x => !decide (x = -1))
    simpa using this
  · exact (List.mergeSort_perm _ _).trans (by simpa using hm.2.symm)
/-- Every element of a list lies above the one before it. -/
def chn : List Int → Bool
  | [] => true
  | [_] => true
  | x :: y :: r => decide (x < y) && chn (y :: r)
theorem chn_pairwise : ∀ l : List Int, chn l = true → l.Pairwise (· < ·)
  | [], _ => List.Pairwise.nil
  | [x], _ => by simp
  | x :: y :: r, h => by
    simp only [chn, Bool.and_eq_true] at h
    have ih := chn_pairwise (y :: r) h.2
    have hxy : x < y := of_decide_eq_true h.1
    refine List.pairwise_cons.2 ⟨fun a ha => ?_, ih⟩
    rcases List.mem_cons.1 ha with rfl | ha
    · exact hxy
    · have := (List.pairwise_cons.1 ih).1 a ha; omega
def inR (l : List Int) : Bool := l.all fun n => decide (0 ≤ n ∧ n ≤ 15)
theorem chn_step {l : List Int} {j : Nat} (h : j + 1 < l.length) : chn (l.drop j) = (decide (l[j] < l[j + 1]) && chn (l.drop (j + 1))) := by
  rw [drop_at (show j < l.length by omega), drop_at h]
  rfl
theorem chn_end {l : List Int} {j : Nat} (h : l.length ≤ j + 1) : chn (l.drop j) = true := by
  have hl : (l.drop j).length ≤ 1 := by rw [List.length_drop]; omega
  match hm : l.drop j with
  | [] => rfl
  | [x] => rfl
  | x :: y :: r => rw [hm] at hl; simp at hl
theorem wpred {j : Nat} (h : j ≤ 1048576) : wrap64 (((j + 1 : Nat) : Int) - 1) = (j : Int) := by unfold wrap64; omega
theorem incr_loop (l : List Int) (hn : l.length ≤ 1048576) : ∀ (d j : Nat), l.length ≤ j + 1 + d → j ≤ l.length →
    Ev (fun k => impl_increasing.l0 k l ((j + 1 : Nat) : Int)) (chn (l.drop j)) := by
  intro d
  induction d with
  | zero =>
    intro j h hj
    apply evsucc
    simp only [impl_increasing.l0]
    exact evn (by omega) (evc fun _ => by rw [chn_end (by omega)])
  | succ d ih =>
    intro j h hj
    apply evsucc
    simp only [impl_increasing.l0]
    by_cases h1 : j + 1 < l.length
    · refine evp (by omega) (evp (by omega) ?_)
      rw [wpred (by omega), wsucc h1 (by omega), rd_at h1, rd_at (show j < l.length by omega), chn_step h1]
      refine evp (by omega) (evp (by omega) ?_)
      by_cases h2 : l[j + 1] ≤ l[j]
      · exact evp h2 (evc fun _ => by rw [decide_eq_false (by omega)]; rfl)
      · refine evn h2 ?_
        rw [decide_eq_true (by omega), Bool.true_and]
        exact ih (j + 1) (by omega) (by omega)
    · exact evn (by omega) (evc fun _ => by rw [chn_end (by omega)])
theorem incr_ev (l : List Int) (hn : l.length ≤ 1048576) : Ev (fun k => impl_increasing.f k l) (chn l) := by
  have := incr_loop l hn l.length 0 (by omega) (by omega)
  simpa [impl_increasing.f] using this
theorem rises_loop (l : List Int) (hn : l.length ≤ 1048576) : ∀ (d j : Nat), j + 1 + d = l.length →
    Ev (fun k => spec_l00Rises.l0 k l 0 15 ((j + 1 : Nat) : Int)) (inR (l.drop (j + 1)) && chn (l.drop j)) := by
  intro d
  induction d with
  | zero =>
    intro j h
    apply evsucc
    simp only [spec_l00Rises.l0]
    refine evn (by omega) (evc fun _ => ?_)
    rw [chn_end (by omega), List.drop_of_length_le (by omega)]
    rfl
  | succ d ih =>
    intro j h
    have h1 : j + 1 < l.length := by omega
    apply evsucc
    simp only [spec_l00Rises.l0]
    refine evp (by omega) (evp (by omega) (evk (l00In_eq _ _ _) ?_))
    rw [wpred (by omega), wsucc h1 (by omega), rd_at h1, rd_at (show j < l.length by omega), chn_step h1, drop_at h1]
    by_cases hr : 0 ≤ l[j + 1] ∧ l[j + 1] ≤ 15
    · refine evp (by simpa using hr) (evp (by omega) (evp (by omega) (evp (by omega) ?_)))
      by_cases h2 : l[j] ≥ l[j + 1]
      · exact evp h2 (evc fun _ => by rw [decide_eq_false (by omega), Bool.false_and, Bool.and_false])
      · refine evn h2 ?_
        rw [decide_eq_true (show l[j] < l[j + 1] by omega), Bool.true_and]
        have := ih (j + 1) (by omega)
        rw [drop_at h1] at this
        simp only [inR, List.all_cons, decide_eq_true hr, Bool.true_and] at this ⊢
        exact this
    · exact evn (by simpa using hr) (evc fun _ => by simp only [inR, List.all_cons, decide_eq_false hr, Bool.false_and])
theorem rises_ev (l : List Int) (hn : l.length ≤ 1048576) : Ev (fun k => spec_l00Rises.f k l 0 15) (inR l && chn l) := by
  unfold spec_l00Rises.f
  apply evsucc
  simp only [spec_l00Rises.l0]
  cases l with
  | nil => exact evn (by simp) (evc fun _ => rfl)
  | cons x r =>
    refine evp (by rw [List.length_cons]; omega) (evp (by omega) (evk (l00In_eq _ _ _) ?_))
    have hx : rd (x :: r) 0 = x := rfl
    rw [hx]
    by_cases hr : 0 ≤ x ∧ x ≤ 15
    · refine evp (by simpa using hr) (evn (by omega) ?_)
      have := rises_loop (x :: r) hn r.length 0 (by simp [Nat.add_comm])
      rw [show wrap64 (0 + 1) = ((0 + 1 : Nat) : Int) by unfold wrap64; omega]
      simp only [inR, List.all_cons, decide_eq_true hr, Bool.true_and, List.drop_succ_cons, List.drop_zero] at this ⊢
      exact this
    · exact evn (by simpa using hr) (evc fun _ => by simp only [inR, List.all_cons, decide_eq_false hr, Bool.false_and])
theorem eq_of_strict : ∀ (a b : List Int), a.Pairwise (· < ·) → b.Pairwise (· < ·) → (∀ x, x ∈ a ↔ x ∈ b) → a = b
  | [], [], _, _, _ => rfl
  | [], y :: b, _, _, h => absurd ((h y).2 (by simp)) (by simp)
  | x :: a, [], _, _, h => absurd ((h x).1 (by simp)) (by simp)
  | x :: a, y :: b, ha, hb, h => by
    have ha' := List.pairwise_cons.1 ha
    have hb' := List.pairwise_cons.1 hb
    have e : x = y := by
      rcases List.mem_cons.1 ((h x).1 (by simp)) with e | e
      · exact e
      · rcases List.mem_cons.1 ((h y).2 (by simp)) with e2 | e2
        · exact e2.symm
        · have := hb'.1 x e
          have := ha'.1 y e2
          omega
    subst e
    rw [eq_of_strict a b ha'.2 hb'.2 (fun z => ⟨fun hz => by
      rcases List.mem_cons.1 ((h z).1 (List.mem_cons_of_mem _ hz)) with e | e
      · have := ha'.1 z hz; omega
      · exact e, fun hz => by
      rcases List.mem_cons.1 ((h z).2 (List.mem_cons_of_mem _ hz)) with e | e
      · have := hb'.1 z hz; omega
      · exact e⟩)]
theorem ins_mem (v x : Int) : ∀ l : List Int, x ∈ ins v l ↔ x = v ∨ x ∈ l
  | [] => by simp [ins]
  | y :: r => by
    have ih := ins_mem v x r
    simp only [ins]
    by_cases h1 : y ≥ v
    · rw [if_pos h1]
      by_cases h2 : y > v
      · rw [if_pos h2]; simp
      · rw [if_neg h2]
        have e : y = v := by omega
        subst e
        simp
    · rw [if_neg h1, List.mem_cons, ih, List.mem_cons]
      exact ⟨fun h => h.elim (fun e => .inr (.inl e)) (fun e => e.elim .inl (fun e => .inr (.inr e))), fun h => h.elim (fun e => .inr (.inl e)) (fun e => e.elim .inl (fun e => .inr (.inr e)))⟩
theorem ins_strict (v : Int) : ∀ l : List Int, l.Pairwise (· < ·) → (ins v l).Pairwise (· < ·)
  | [], _ => by simp [ins]
  | y :: r, h => by
    have h' := List.pairwise_cons.1 h
    simp only [ins]
    by_cases h1 : y ≥ v
    · rw [if_pos h1]
      by_cases h2 : y > v
      · rw [if_pos h2]
        refine List.pairwise_cons.2 ⟨fun a ha => ?_, h⟩
        rcases List.mem_cons.1 ha with rfl | ha
        · exact h2
        · have := h'.1 a ha; omega
      · rw [if_neg h2]; exact h
    · rw [if_neg h1]
      refine List.pairwise_cons.2 ⟨fun a ha => ?_, ins_strict v r h'.2⟩
      rcases (ins_mem v a r).1 ha with e | e
      · omega
      · exact h'.1 a e
theorem mem_strict : ∀ (l acc : List Int), acc.Pairwise (· < ·) → (mem acc l).Pairwise (· < ·)
  | [], _, h => h
  | n :: r, acc, h => by
    simp only [mem]
    by_cases h0 : n ≥ 0
    · rw [if_pos h0]; exact mem_strict r _ (ins_strict n acc h)
    · rw [if_neg h0]; exact mem_strict r _ h
theorem mem_mem (x : Int) : ∀ (l acc : List Int), x ∈ mem acc l ↔ x ∈ acc ∨ (x ∈ l ∧ x ≥ 0)
  | [], acc => by simp [mem]
  | n :: r, acc => by
    simp only [mem]
    by_cases h0 : n ≥ 0
    · rw [if_pos h0, mem_mem x r, ins_mem, List.mem_cons]
      constructor
      · rintro ((rfl | h) | h)
        · exact .inr ⟨.inl rfl, h0⟩
        · exact .inl h
        · exact .inr ⟨.inr h.1, h.2⟩
      · rintro (h | ⟨rfl | h, h2⟩)
        · exact .inl (.inr h)
        · exact .inl (.inl rfl)
        · exact .inr ⟨h, h2⟩
    · rw [if_neg h0, mem_mem x r, List.mem_cons]
      constructor
      · rintro (h | h)
        · exact .inl h
        · exact .inr ⟨.inr h.1, h.2⟩
      · rintro (h | ⟨rfl | h, h2⟩)
        · exact .inl h
        · exact absurd h2 h0
        · exact .inr ⟨h, h2⟩
/-- The sorted nodes that were heard are the heard ones that are nodes. -/
theorem heard_eq (l h : List Int) (hc : h.Pairwise (· < ·)) (h0 : ∀ x ∈ h, 0 ≤ x) : (mem [] l).filter (fun x => decide (x ∈ h)) = h.filter fun x => decide (x ∈ l) := by
  refine eq_of_strict _ _ ((mem_strict l [] List.Pairwise.nil).sublist List.filter_sublist) (hc.sublist List.filter_sublist) fun x => ?_
  rw [List.mem_filter, List.mem_filter, mem_mem]
  simp only [List.not_mem_nil, false_or, decide_eq_true_eq]
  exact ⟨fun ⟨⟨a, _⟩, b⟩ => ⟨b, a⟩, fun ⟨a, b⟩ => ⟨⟨b, h0 x a⟩, a⟩⟩
theorem place_loop (l : List Int) (v : Int) (hn : l.length ≤ 140737488351232) : ∀ (d i : Nat), i + d = l.length → Ev (fun k => spec_l12Place.l0 k l v (i : Int)) (if v < 0 then -1 else idxFrom (l.drop i) i v) := by
  intro d
  induction d with
  | zero =>
    intro i h
    apply evsucc
    simp only [spec_l12Place.l0]
    refine evn (by omega) (evc fun _ => ?_)
    rw [List.drop_of_length_le (by omega)]
    simp [idxFrom]
  | succ d ih =>
    intro i h
    apply evsucc
    simp only [spec_l12Place.l0]
    have hi : i < l.length := by omega
    have hs := ih (i + 1) (by omega)
    rw [wsucc hi hn, rd_at hi, drop_at hi]
    refine evp (by omega) ?_
    by_cases hv : v ≥ 0
    · have hv' : ¬ v < 0 := by omega
      refine evp hv (evp (by omega) ?_)
      rw [if_neg hv'] at hs ⊢
      simp only [idxFrom]
      by_cases e : l[i] = v
      · rw [if_pos e.symm]
        exact evp e (evc fun _ => rfl)
      · rw [if_neg (fun h => e h.symm)]
        exact evn e hs
    · have hv' : v < 0 := by omega
      rw [if_pos hv'] at hs ⊢
      exact evn hv hs
theorem place_ev (l : List Int) (v : Int) (hn : l.length ≤ 140737488351232) : Ev (fun k => spec_l12Place.f k l v) (if v < 0 then -1 else idxFrom l 0 v) := by
  have := place_loop l v hn l.length 0 (by omega)
  simpa [spec_l12Place.f] using this
theorem rdIv_at {l : List S43} {i : Nat} (h : i < l.length) : rd_T43 l (i : Int) = l[i] := by
  simp [rd_T43, List.getD_eq_getElem?_getD, List.getElem?_eq_getElem h]
theorem rdLv_at {l : List S40} {i : Nat} (h : i < l.length) : rd_T40 l (i : Int) = l[i] := by
  simp [rd_T40, List.getD_eq_getElem?_getD, List.getElem?_eq_getElem h]
def cIv (x : S40) : S43 := ⟨x.f0, x.f1, x.f2, x.f3⟩
theorem szInts_some (l : List Int) (a : Int) : ∃ r, laws_szInt64S.f l a = some r := by
  unfold laws_szInt64S.f
  split <;> exact ⟨_, rfl⟩
theorem szIv_some (a b : Int) (l : List Int) (c : Bool) (x : Int) : ∃ r, laws_szInterval.f a b l c x = some r := by
  unfold laws_szInterval.f
  obtain ⟨r, h⟩ := szInts_some l x
  rw [h]
  simp only [Option.bind_some]
  split <;> exact ⟨_, rfl⟩
theorem szIvs_loop (l : List S40) (hn : l.length ≤ 140737488351232) : ∀ (d i : Nat) (a : Int), i + d = l.length → ∃ r, Ev (fun k => laws_szIntervalS.l0 k l a (i : Int)) r := by
  intro d
  induction d with
  | zero =>
    intro i a h
    refine ⟨a, evsucc ?_⟩
    simp only [laws_szIntervalS.l0]
    exact evn (by omega) (evc fun _ => rfl)
  | succ d ih =>
    intro i a h
    have hi : i < l.length := by omega
    obtain ⟨r, hr⟩ := szIv_some (l[i]).f0 (l[i]).f1 (l[i]).f2 (l[i]).f3 a
    by_cases hneg : r < 0
    · refine ⟨-1, evsucc ?_⟩
      simp only [laws_szIntervalS.l0, rdLv_at hi]
      exact evp (by omega) (evp (by omega) (evk hr (evp hneg (evc fun _ => rfl))))
    · obtain ⟨q, hq⟩ := ih (i + 1) r (by omega)
      refine ⟨q, evsucc ?_⟩
      simp only [laws_szIntervalS.l0, rdLv_at hi, wsucc hi hn]
      exact evp (by omega) (evp (by omega) (evk hr (evn hneg hq)))
theorem szIvs_some (l : List S40) (hn : l.length ≤ 140737488351232) (a : Int) : ∃ r, Ev (fun k => laws_szIntervalS.f k l a) r := by
  unfold laws_szIntervalS.f
  by_cases h : wrap64 (a - (l.length : Int)) < 0
  · exact ⟨-1, evp h (evc fun _ => rfl)⟩
  · obtain ⟨r, hr⟩ := szIvs_loop l hn l.length 0 (wrap64 (a - (l.length : Int))) (by omega)
    exact ⟨r, evn h hr⟩
theorem toIv_ev (a b : Int) (l : List Int) (c : Bool) (hn : l.length ≤ 35184372088832) : Ev (fun k => laws_toInterval.f k a b l c) (a, b, l, c) := by
  unfold laws_toInterval.f
  exact evb (toInts_ev l hn) (evc fun _ => rfl)
theorem toIvs_loop (l : List S40) (hn : l.length ≤ 140737488351232) (hl : ∀ x ∈ l, x.f2.length ≤ 35184372088832) : ∀ (d i : Nat) (ys : List S43), i + d = l.length → ys.length = l.length → ys.take i = (l.take i).map cIv →
    Ev (fun k => laws_toIntervalS.l0 k l ys (i : Int)) (l.map cIv) := by
  intro d
  induction d with
  | zero =>
    intro i ys h hlen ht
    apply evsucc
    simp only [laws_toIntervalS.l0]
    refine evn (by omega) (evc fun _ => ?_)
    obtain rfl : i = l.length := by omega
    rw [← hlen, List.take_length] at ht
    rw [ht, hlen, List.take_length]
  | succ d ih =>
    intro i ys h hlen ht
    have hi : i < l.length := by omega
    apply evsucc
    simp only [laws_toIntervalS.l0, rdLv_at hi, wsucc hi hn]
    refine evp (by omega) (evp (by omega) (evb (toIv_ev _ _ _ _ (hl _ (List.getElem_mem hi))) (evp (by omega) ?_)))
    rw [Int.toNat_natCast]
    refine ih (i + 1) _ (by omega) (by simpa using hlen) ?_
    rw [take_at (by simp; omega), take_at hi, List.take_set_of_le (by omega), ht, List.map_append, List.getElem_set_self]
    rfl
theorem toIvs_ev (l : List S40) (hn : l.length ≤ 5864062014805) (hl : ∀ x ∈ l, x.f2.length ≤ 35184372088832) : Ev (fun k => laws_toIntervalS.f k l) (l.map cIv) := by
  unfold laws_toIntervalS.f
  exact evp (by omega) (evp (by omega) (toIvs_loop l (by omega) hl l.length 0 _ (by omega) (by simp) (by simp)))
theorem eqIv_ev (x : S43) (hn : x.f2.length ≤ 140737488351232) : Ev (fun k => laws_eqInterval.f k x.f0 x.f1 x.f2 x.f3 x.f0 x.f1 x.f2 x.f3) true := by
  unfold laws_eqInterval.f
  exact evp rfl (evp rfl (evb (eqInts_ev _ hn) (evp rfl (evn (by simp) (evc fun _ => rfl)))))
theorem eqIvs_loop (l : List S43) (hn : l.length ≤ 140737488351232) (hl : ∀ x ∈ l, x.f2.length ≤ 140737488351232) : ∀ (d i : Nat), i + d = l.length → Ev (fun k => laws_eqIntervalS.l0 k l l (i : Int)) true := by
  intro d
  induction d with
  | zero =>
    intro i h
    apply evsucc
    simp only [laws_eqIntervalS.l0]
    exact evn (by omega) (evc fun _ => rfl)
  | succ d ih =>
    intro i h
    have hi : i < l.length := by omega
    apply evsucc
    simp only [laws_eqIntervalS.l0, rdIv_at hi, wsucc hi hn]
    exact evp (by omega) (evp (by omega) (evp (by omega) (evb (eqIv_ev _ (hl _ (List.getElem_mem hi))) (evp rfl (ih (i + 1) (by omega))))))
theorem eqIvs_ev (l : List S43) (hn : l.length ≤ 140737488351232) (hl : ∀ x ∈ l, x.f2.length ≤ 140737488351232) : Ev (fun k => laws_eqIntervalS.f k l l) true := by
  unfold laws_eqIntervalS.f
  exact evp rfl (eqIvs_loop l hn hl l.length 0 (by omega))
/-- Intervals that follow one another, each with as many places as the first. -/
def ivFrom (n0 : Int) : Int → List S43 → Bool
  | _, [] => true
  | next, v :: r => decide (v.f0 = next) && (decide (v.f0 ≤ v.f1 ∧ v.f1 ≤ 60) && (actB v.f2 && (decide ((v.f2.length : Int) = n0) && ivFrom n0 (wrap64 (v.f1 + 1)) r)))
def ivsB (l : List S43) : Bool := decide ((l.length : Int) ≤ 60) && ivFrom ((rd_T43 l 0).f2.length : Int) 1 l
theorem ivImpl_loop (l : List S43) (hn : l.length ≤ 140737488351232) (hl : ∀ x ∈ l, x.f2.length ≤ 140737488351232) : ∀ (d i : Nat) (nx : Int), i + d = l.length →
    Ev (fun k => impl_IntervalsOk.l0 k l nx l (l.length : Int) (i : Int)) (ivFrom ((rd_T43 l 0).f2.length : Int) nx (l.drop i) && decide ((l.length : Int) ≤ 60)) := by
  intro d
  induction d with
  | zero =>
    intro i nx h
    apply evsucc
    simp only [impl_IntervalsOk.l0]
    refine evn (by omega) (evc fun _ => ?_)
    rw [List.drop_of_length_le (by omega)]
    simp [ivFrom]
  | succ d ih =>
    intro i nx h
    have hi : i < l.length := by omega
    have hs := ih (i + 1) (wrap64 ((l[i]).f1 + 1)) (by omega)
    apply evsucc
    simp only [impl_IntervalsOk.l0, rdIv_at hi, wsucc hi hn]
    rw [drop_at hi]
    simp only [ivFrom]
    refine evp (by omega) (evp (by omega) (evp (by omega) ?_))
    by_cases h1 : (l[i]).f0 = nx
    · refine evp h1 (evk (between_eq _ _ _) ?_)
      by_cases h2 : (l[i]).f0 ≤ (l[i]).f1 ∧ (l[i]).f1 ≤ 60
      · refine evp (by simpa using h2) (evb (actImpl _ (hl _ (List.getElem_mem hi))) ?_)
        cases h3 : actB (l[i]).f2 with
        | false => exact evn (by simp) (evc fun _ => by simp)
        | true =>
          refine evp rfl (evp (by omega) ?_)
          by_cases h4 : ((l[i]).f2.length : Int) = ((rd_T43 l 0).f2.length : Int)
          · refine evp h4 ?_
            rw [decide_eq_true h1, decide_eq_true h2, decide_eq_true h4]
            simpa using hs
          · refine evn h4 (evc fun _ => ?_)
            rw [decide_eq_false h4]
            simp
      · refine evn (by simpa using h2) (evc fun _ => ?_)
        rw [decide_eq_false h2]
        simp
    · refine evn h1 (evc fun _ => ?_)
      rw [decide_eq_false h1]
      simp
theorem ivImpl (l : List S43) (hn : l.length ≤ 140737488351232) (hl : ∀ x ∈ l, x.f2.length ≤ 140737488351232) : Ev (fun k => impl_IntervalsOk.f k l) (ivsB l) := by
  have := ivImpl_loop l hn hl l.length 0 1 (by omega)
  rw [Bool.and_comm] at this
  simpa [impl_IntervalsOk.f, ivsB] using this
theorem ivSpec_loop (l : List S43) (hn : l.length ≤ 140737488351232) (hl : ∀ x ∈ l, x.f2.length ≤ 140737488351232) : ∀ (d i : Nat) (nx : Int), i + d = l.length →
    Ev (fun k => spec_l13Ok.l0 k l nx (i : Int)) (ivFrom ((rd_T43 l 0).f2.length : Int) nx (l.drop i)) := by
  intro d
  induction d with
  | zero =>
    intro i nx h
    apply evsucc
    simp only [spec_l13Ok.l0]
    refine evn (by omega) (evc fun _ => ?_)
    rw [List.drop_of_length_le (by omega)]
    simp [ivFrom]
  | succ d ih =>
    intro i nx h
    have hi : i < l.length := by omega
    have hs := ih (i + 1) (wrap64 ((l[i]).f1 + 1)) (by omega)
    apply evsucc
    simp only [spec_l13Ok.l0, rdIv_at hi, wsucc hi hn]
    rw [drop_at hi]
    simp only [ivFrom]
    refine evp (by omega) (evp (by omega) ?_)
    by_cases h1 : (l[i]).f0 = nx
    · refine evp h1 (evk (l00In_eq _ _ _) ?_)
      by_cases h2 : (l[i]).f0 ≤ (l[i]).f1 ∧ (l[i]).f1 ≤ 60
      · refine evp (by simpa using h2) (evb (actSpec _ (hl _ (List.getElem_mem hi))) ?_)
        cases h3 : actB (l[i]).f2 with
        | false => exact evn (by simp) (evc fun _ => by simp)
        | true =>
          refine evp rfl (evp (by omega) ?_)
          by_cases h4 : ((l[i]).f2.length : Int) = ((rd_T43 l 0).f2.length : Int)
          · refine evp h4 ?_
            rw [decide_eq_true h1, decide_eq_true h2, decide_eq_true h4]
            simpa using hs
          · refine evn h4 (evc fun _ => ?_)
            rw [decide_eq_false h4]
            simp
      · refine evn (by simpa using h2) (evc fun _ => ?_)
        rw [decide_eq_false h2]
        simp
    · refine evn h1 (evc fun _ => ?_)
      rw [decide_eq_false h1]
      simp
theorem ivSpec (l : List S43) (hn : l.length ≤ 140737488351232) (hl : ∀ x ∈ l, x.f2.length ≤ 140737488351232) : Ev (fun k => spec_l13Ok.f k l) (ivsB l) := by
  have hs := ivSpec_loop l hn hl l.length 0 1 (by omega)
  unfold spec_l13Ok.f
  by_cases h : (l.length : Int) > 60
  · have h' : ¬ (l.length : Int) ≤ 60 := by omega
    exact evp h (evc fun _ => by simp [ivsB, h'])
  · have h' : (l.length : Int) ≤ 60 := by omega
    refine evn h ?_
    simpa [ivsB, h'] using hs
theorem heardSpec_loop (a0 a1 : Int) (l : List Int) (b : Bool) (h : List Int) (hl : l.length ≤ 140737488351232) (hh : h.length ≤ 1048576) (h0 : ∀ x ∈ h, 0 ≤ x) : ∀ (d i : Nat) (acc : List Int), i + d = h.length → acc.length ≤ i →
    Ev (fun k => spec_l13Heard.l0 k h acc (i : Int) a0 a1 l b) (acc ++ (h.drop i).filter fun x => decide (x ∈ l)) := by
  intro d
  induction d with
  | zero =>
    intro i acc hd ha
    apply evsucc
    simp only [spec_l13Heard.l0]
    refine evn (by omega) (evc fun _ => ?_)
    rw [List.drop_of_length_le (by omega)]
    simp
  | succ d ih =>
    intro i acc hd ha
    have hi : i < h.length := by omega
    apply evsucc
    simp only [spec_l13Heard.l0]
    refine evp (by omega) (evp (by omega) ?_)
    rw [wsucc hi (by omega), rd_at hi, drop_at hi]
    refine evb (place_ev l h[i] hl) ?_
    have hx : ¬ h[i] < 0 := by have := h0 _ (List.getElem_mem hi); omega
    rw [if_neg hx]
    by_cases hm : h[i] ∈ l
    · refine evp ((idxFrom_nonneg l 0 h[i]).2 hm) (evp (by omega) ?_)
      have := ih (i + 1) (acc ++ [h[i]]) (by omega) (by simp; omega)
      rw [List.filter_cons_of_pos (by simpa using hm)]
      simpa using this
    · refine evn (fun g => hm ((idxFrom_nonneg l 0 h[i]).1 g)) ?_
      rw [List.filter_cons_of_neg (by simpa using hm)]
      exact ih (i + 1) acc (by omega) (by omega)
theorem inR_mem {h : List Int} (hr : inR h = true) : ∀ x ∈ h, 0 ≤ x := by
  intro x hx
  have := List.all_eq_true.1 hr x hx
  exact (of_decide_eq_true this).1
theorem heardSpecIn (a0 a1 : Int) (l : List Int) (b : Bool) (h : List Int) (hl : l.length ≤ 140737488351232) (hh : h.length ≤ 1048576) (hr : inR h = true) : Ev (fun k => spec_l13Heard.f k a0 a1 l b h) (h.filter fun x => decide (x ∈ l)) := by
  have := heardSpec_loop a0 a1 l b h hl hh (inR_mem hr) h.length 0 [] (by omega) (by simp)
  simpa [spec_l13Heard.f] using this
theorem nodes_ev (h : List Int) (hh : h.length ≤ 1048576) : Ev (fun k => spec_l13Nodes.f k h) (inR h && chn h) := by
  unfold spec_l13Nodes.f
  exact evb (rises_ev h hh) (evc fun _ => rfl)
theorem heardOk_ev (h : List Int) (hh : h.length ≤ 1048576) : Ev (fun k => impl_heardOk.f k h) (inR h && chn h) := by
  unfold impl_heardOk.f impl_outOk.f
  refine evb (evb (incr_ev h hh) ?_) (evc fun _ => rfl)
  have e : (!h.any fun n => !decide ((0 : Int) ≤ n ∧ n ≤ 15)) = inR h := by
    unfold inR
    rw [List.not_any_eq_all_not]
    simp
  cases hc : chn h with
  | true =>
    refine evp rfl (evk (a := inR h) (by unfold impl_allBetween.f; rw [e]) (evc fun _ => by simp))
  | false => exact evn (by simp) (evc fun _ => by simp)
theorem heardOf_eq (l h : List Int) (hl : l.length ≤ 1048576) (hh : h.length ≤ 1048576) (ha : actB l = true) (hr : inR h = true) (hc : chn h = true) : impl_heardOf.f l h = some (h.filter fun x => decide (x ∈ l)) := by
  unfold impl_heardOf.f
  have hf : actFrom [] l = true := by simp only [actB, Bool.and_eq_true] at ha; exact ha.2
  rw [if_pos (by omega), members_ev l hl, mem_members l hf]
  simp only [Option.map_some, Bool.not_not]
  rw [heard_eq l h (chn_pairwise h hc) (inR_mem hr)]
theorem act_of : ∀ (l : List S43) (n0 nx : Int), ivFrom n0 nx l = true → ∀ x ∈ l, actB x.f2 = true
  | [], _, _, _ => fun x h => by cases h
  | y :: r, n0, nx, h => fun x hx => by
    simp only [ivFrom, Bool.and_eq_true] at h
    rcases List.mem_cons.1 hx with rfl | hx
    · exact h.2.2.1
    · exact act_of r n0 _ h.2.2.2.2 x hx
theorem at_loop (l : List S43) (v : Int) (hn : l.length ≤ 140737488351232) : ∀ (d i : Nat), i + d = l.length → ∃ r : Int, Ev (fun k => spec_l13At.l0 k l v (i : Int)) r ∧ (decide (r < 0) = !(l.drop i).any fun x => (x.f0 == v)) := by
  intro d
  induction d with
  | zero =>
    intro i h
    refine ⟨-1, ?_, ?_⟩
    · apply evsucc
      simp only [spec_l13At.l0]
      exact evn (by omega) (evc fun _ => rfl)
    · rw [List.drop_of_length_le (by omega)]; rfl
  | succ d ih =>
    intro i h
    have hi : i < l.length := by omega
    obtain ⟨r, hr, he⟩ := ih (i + 1) (by omega)
    by_cases e : l[i].f0 = v
    · refine ⟨i, ?_, ?_⟩
      · apply evsucc
        simp only [spec_l13At.l0]
        rw [rdIv_at hi]
        exact evp (by omega) (evp (by omega) (evp e (evc fun _ => rfl)))
      · rw [drop_at hi, List.any_cons, beq_iff_eq.2 e, decide_eq_false (by omega)]; rfl
    · refine ⟨r, ?_, ?_⟩
      · apply evsucc
        simp only [spec_l13At.l0]
        rw [rdIv_at hi, wsucc hi (by omega)]
        exact evp (by omega) (evp (by omega) (evn e hr))
      · rw [drop_at hi, List.any_cons, beq_eq_false_iff_ne.2 e, he]; rfl
theorem own_ev (x : S43) (hn : x.f2.length ≤ 1048576) : spec_l13Own.f x.f0 x.f1 x.f2 x.f3 = some (x.f0, x.f1, x.f2, x.f3) := by
  unfold spec_l13Own.f spec_l00Own.f
  simp only [Option.bind_some, List.length_nil, List.nil_append]
  rw [if_pos (by omega)]
  rfl
theorem need_loop (l : List S43) (s : Int) (hn : l.length ≤ 60) (hl : ∀ x ∈ l, x.f2.length ≤ 7) : ∀ (d i : Nat) (acc : List S43), i + d = l.length → acc.length ≤ i →
    Ev (fun k => spec_l13Need.l0 k l s acc (i : Int)) (acc ++ (l.drop i).filter fun x => impl_heardEnough.need x s) := by
  intro d
  induction d with
  | zero =>
    intro i acc h ha
    apply evsucc
    simp only [spec_l13Need.l0]
    refine evn (by omega) (evc fun _ => ?_)
    rw [List.drop_of_length_le (by omega)]
    simp
  | succ d ih =>
    intro i acc h ha
    have hi : i < l.length := by omega
    have hx := hl l[i] (List.getElem_mem hi)
    apply evsucc
    simp only [spec_l13Need.l0]
    rw [rdIv_at hi, wsucc hi (by omega), drop_at hi]
    have hyes := ih (i + 1) (acc ++ [l[i]]) (by omega) (by simp; omega)
    have hno := ih (i + 1) acc (by omega) (by omega)
    refine evp (by omega) (evp (by omega) ?_)
    by_cases h1 : l[i].f0 = s
    · have hw : impl_heardEnough.need l[i] s = true := by unfold impl_heardEnough.need; rw [beq_iff_eq.2 h1]; simp
      rw [List.filter_cons_of_pos (p := fun x => impl_heardEnough.need x s) hw]
      refine evp h1 (evk (own_ev l[i] (by omega)) (evp (by omega) ?_))
      simpa using hyes
    · refine evn h1 ?_
      by_cases h2 : l[i].f3 = true
      · by_cases h3 : l[i].f0 ≥ s
        · have hw : impl_heardEnough.need l[i] s = true := by unfold impl_heardEnough.need; rw [h2, decide_eq_true h3]; rfl
          rw [List.filter_cons_of_pos (p := fun x => impl_heardEnough.need x s) hw]
          refine evp h2 (evp h3 (evk (own_ev l[i] (by omega)) (evp (by omega) ?_)))
          simpa using hyes
        · have hw : ¬ impl_heardEnough.need l[i] s = true := by unfold impl_heardEnough.need; rw [decide_eq_false h3, beq_eq_false_iff_ne.2 h1]; simp
          rw [List.filter_cons_of_neg (p := fun x => impl_heardEnough.need x s) hw]
          exact evp h2 (evn h3 hno)
      · have hw : ¬ impl_heardEnough.need l[i] s = true := by unfold impl_heardEnough.need; rw [Bool.not_eq_true] at h2; rw [h2, beq_eq_false_iff_ne.2 h1]; simp
        rw [List.filter_cons_of_neg (p := fun x => impl_heardEnough.need x s) hw]
        exact evn h2 hno
theorem enough_loop (l : List S43) (kk : Int) (h : List Int) (hn : l.length ≤ 60) (hl : ∀ x ∈ l, x.f2.length ≤ 7) (hh : h.length ≤ 1048576) (hr : inR h = true) : ∀ (d i : Nat), i + d = l.length →
    Ev (fun k => spec_l13Enough.l0 k kk h l (i : Int)) (!(l.drop i).any fun x => decide (((h.filter fun y => decide (y ∈ x.f2)).length : Int) < kk)) := by
  intro d
  induction d with
  | zero =>
    intro i hd
    apply evsucc
    simp only [spec_l13Enough.l0]
    refine evn (by omega) (evc fun _ => ?_)
    rw [List.drop_of_length_le (by omega)]
    rfl
  | succ d ih =>
    intro i hd
    have hi : i < l.length := by omega
    have hx := hl l[i] (List.getElem_mem hi)
    apply evsucc
    simp only [spec_l13Enough.l0]
    rw [rdIv_at hi, wsucc hi (by omega), drop_at hi]
    refine evp (by omega) (evp (by omega) (evb (heardSpecIn l[i].f0 l[i].f1 l[i].f2 l[i].f3 h (by omega) hh hr) ?_))
    by_cases h1 : ((h.filter fun y => decide (y ∈ l[i].f2)).length : Int) < kk
    · refine evp h1 (evc fun _ => ?_)
      rw [List.any_cons, decide_eq_true h1]; rfl
    · refine evn h1 ?_
      rw [List.any_cons, decide_eq_false h1]
      simpa using ih (i + 1) (by omega)
/-- Were enough nodes heard? -/
def enB (l : List S43) (kk s : Int) (h : List Int) : Bool :=
  !(decide (0 < s) && !l.any fun x => (x.f0 == s)) && !l.any fun x => impl_heardEnough.need x s && decide (((h.filter fun y => decide (y ∈ x.f2)).length : Int) < kk)
theorem enoughSpec (l : List S43) (kk s : Int) (h : List Int) (hn : l.length ≤ 60) (hl : ∀ x ∈ l, x.f2.length ≤ 7) (hh : h.length ≤ 1048576) (hr : inR h = true) :
    Ev (fun k => spec_l13Enough.f k l kk s h) (enB l kk s h) := by
  have hj : ∀ b, Ev (fun k => spec_l13Enough.j0 k l kk s h b) (!b && !l.any fun x => impl_heardEnough.need x s && decide (((h.filter fun y => decide (y ∈ x.f2)).length : Int) < kk)) := by
    intro b
    apply evsucc
    simp only [spec_l13Enough.j0]
    cases b with
    | true => exact evp rfl (evc fun _ => rfl)
    | false =>
      refine evn (by simp) (evb (a := l.filter fun x => impl_heardEnough.need x s) ?_ ?_)
      · have := need_loop l s hn hl l.length 0 [] (by omega) (by simp)
        simpa [spec_l13Need.f] using this
      · have hlen := List.length_filter_le (fun x => impl_heardEnough.need x s) l
        have := enough_loop (l.filter fun x => impl_heardEnough.need x s) kk h (by omega) (fun x hx => hl x (List.mem_filter.1 hx).1) hh hr (l.filter fun x => impl_heardEnough.need x s).length 0 (by omega)
        simpa [List.any_filter] using this
  unfold spec_l13Enough.f enB
  by_cases hs : s > 0
  · obtain ⟨r, hr2, he⟩ := at_loop l s (by omega) l.length 0 (by omega)
    refine evp hs (evb (a := r) (by simpa [spec_l13At.f] using hr2) ?_)
    have := hj (decide (r < 0))
    rw [he] at this
    have hs' : decide (0 < s) = true := decide_eq_true hs
    rw [hs', he]
    simpa using this
  · have hs' : decide (0 < s) = false := decide_eq_false hs
    refine evn hs ?_
    rw [hs']
    exact hj false
theorem enoughImpl (l : List S43) (kk s : Int) (h : List Int) (ha : ∀ x ∈ l, actB x.f2 = true) (hl : ∀ x ∈ l, x.f2.length ≤ 7) (hh : h.length ≤ 1048576) (hr : inR h = true) (hc : chn h = true) :
    impl_heardEnough.f l kk s h = some (enB l kk s h) := by
  have hx : ∀ x ∈ l, impl_heardOf.f x.f2 h = some (h.filter fun y => decide (y ∈ x.f2)) := fun x hm => heardOf_eq x.f2 h (by have := hl x hm; omega) hh (ha x hm) hr hc
  have hall : (l.all fun x => (impl_heardOf.f x.f2 h).isSome) = true := List.all_eq_true.2 fun x hm => by rw [hx x hm]; rfl
  unfold impl_heardEnough.f enB
  rw [if_pos hall]
  congr 2
  congr 1
  have any_eq : ∀ (l : List S43) (p q : S43 → Bool), (∀ x ∈ l, p x = q x) → l.any p = l.any q := by
    intro l p q
    induction l with
    | nil => intro _; rfl
    | cons y r ih => intro hpq; rw [List.any_cons, List.any_cons, hpq y (by simp), ih (fun x hx => hpq x (by simp [hx]))]
  refine any_eq l _ _ fun x hm => ?_
  unfold impl_heardEnough.few impl_heardEnough.hl
  rw [hx x hm]
  rfl
def allEnB (l : List S43) (kk s : Int) (h : List Int) : Bool := ivsB l && (decide (1 ≤ kk ∧ kk ≤ 7) && ((inR h && chn h) && enB l kk s h))
theorem ivs_facts {l : List S43} (h : ivsB l = true) : l.length ≤ 60 ∧ (∀ x ∈ l, actB x.f2 = true) ∧ ∀ x ∈ l, x.f2.length ≤ 7 := by
  unfold ivsB at h
  simp only [Bool.and_eq_true, decide_eq_true_eq] at h
  have ha := act_of l _ _ h.2
  refine ⟨by omega, ha, fun x hx => ?_⟩
  have := ha x hx
  unfold actB at this
  simp only [Bool.and_eq_true, decide_eq_true_eq] at this
  omega
theorem heSpec (l : List S43) (kk s : Int) (h : List Int) (hn : l.length ≤ 140737488351232) (hl : ∀ x ∈ l, x.f2.length ≤ 140737488351232) (hh : h.length ≤ 1048576) : Ev (fun k => spec_HeardEnough.f k l kk s h) (allEnB l kk s h) := by
  unfold spec_HeardEnough.f allEnB
  refine evb (ivSpec l hn hl) ?_
  cases hi : ivsB l with
  | false => exact evn (by simp) (evc fun _ => rfl)
  | true =>
    have hf := ivs_facts hi
    refine evp rfl (evk (l00In_eq _ _ _) ?_)
    by_cases hk : 1 ≤ kk ∧ kk ≤ 7
    · refine evp (by simpa using hk) (evb (nodes_ev h hh) ?_)
      rw [decide_eq_true hk]
      cases hq : (inR h && chn h) with
      | false => exact evn (by simp) (evc fun _ => rfl)
      | true =>
        have hr : inR h = true := by simp only [Bool.and_eq_true] at hq; exact hq.1
        exact evp rfl (evb (enoughSpec l kk s h hf.1 hf.2.2 hh hr) (evc fun _ => rfl))
    · refine evn (by simpa using hk) (evc fun _ => ?_)
      rw [decide_eq_false hk]; rfl
theorem heImpl (l : List S43) (kk s : Int) (h : List Int) (hn : l.length ≤ 140737488351232) (hl : ∀ x ∈ l, x.f2.length ≤ 140737488351232) (hh : h.length ≤ 1048576) : Ev (fun k => impl_HeardEnough.f k l kk s h) (allEnB l kk s h) := by
  unfold impl_HeardEnough.f allEnB
  refine evb (ivImpl l hn hl) ?_
  cases hi : ivsB l with
  | false => exact evn (by simp) (evc fun _ => rfl)
  | true =>
    have hf := ivs_facts hi
    refine evp rfl (evk (between_eq _ _ _) ?_)
    by_cases hk : 1 ≤ kk ∧ kk ≤ 7
    · refine evp (by simpa using hk) (evb (heardOk_ev h hh) ?_)
      rw [decide_eq_true hk]
      cases hq : (inR h && chn h) with
      | false => exact evn (by simp) (evc fun _ => rfl)
      | true =>
        simp only [Bool.and_eq_true] at hq
        exact evp rfl (evk (enoughImpl l kk s h hf.2.1 hf.2.2 hh hq.1 hq.2) (evc fun _ => rfl))
    · refine evn (by simpa using hk) (evc fun _ => ?_)
      rw [decide_eq_false hk]; rfl
theorem FnExactHeardEnough : Stmt.FnExactHeardEnough.PureS := by
  intro l kk s h ⟨_, hl, hx⟩ _ _ ⟨_, hh, _⟩
  have hb : ∀ x ∈ l, x.f2.length ≤ 17592186043904 := fun x h => by have := (hx x h).2.2.1.2.1; omega
  have hc : ∀ x ∈ l.map cIv, x.f2.length ≤ 17592186043904 := fun x h => by
    obtain ⟨y, hy, rfl⟩ := List.mem_map.1 h
    exact hb y hy
  have hlen : (l.map cIv).length = l.length := by simp
  apply ev_ex
  unfold laws_FnExactHeardEnough.f
  by_cases g : (h.length : Int) > 1048576
  · exact evp g (evc fun _ => rfl)
  · obtain ⟨r, hr⟩ := szIvs_some l (by omega) 1048576
    refine evn g (evb hr ?_)
    by_cases h0 : r < 0
    · exact evp h0 (evc fun _ => rfl)
    · have ht := toIvs_ev l (by omega) (fun x h => by have := hb x h; omega)
      have hti := toInts_ev h (by omega)
      have hs := heSpec (l.map cIv) kk s h (by omega) (fun x h => by have := hc x h; omega) (by omega)
      have hi := heImpl (l.map cIv) kk s h (by omega) (fun x h => by have := hc x h; omega) (by omega)
      exact evn h0 (evb ht (evb hti (evb hs (evb ht (evb hti (evb hi (evn (by simp) (evb ht (evb (eqIvs_ev _ (by omega) (fun x h => by have := hc x h; omega)) (evp rfl (evb hti (evb (eqInts_ev h (by omega)) (evp rfl (evc fun _ => rfl)))))))))))))) 
end Go.Proofs.Ytfeaokelfbjcdaa.Pure
