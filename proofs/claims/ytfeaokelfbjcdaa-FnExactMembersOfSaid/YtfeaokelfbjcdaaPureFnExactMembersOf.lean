/- The program's MembersOf and the reference's give one sorted list, in memory of its own, at every list of numbers within the reach. No other condition. -/
import Derived.Test.YtfeaokelfbjcdaaStmtFnExactMembersOf
set_option linter.unusedSimpArgs false
set_option linter.unusedVariables false
namespace Go.Proofs.Ytfeaokelfbjcdaa.Pure
open Go.RowKit Go.Proofs.Ytfeaokelfbjcdaa.MFnExactMembersOf Go.Proofs.YtfeaokelfbjcdaaW.PrintWords Go.Proofs.YtfeaokelfbjcdaaW.PrintLast
theorem evc {α : Type} {g : Nat → Option α} {r : α} (h : ∀ k, g k = some r) : Ev g r := ⟨0, fun k _ => h k⟩
theorem evsucc {α : Type} {g : Nat → Option α} {r : α} (h : Ev (fun k => g (k + 1)) r) : Ev g r := by
  obtain ⟨K, hK⟩ := h
  refine ⟨K + 1, fun k hk => ?_⟩
  obtain ⟨k, rfl⟩ : ∃ m, k = m + 1 := ⟨k - 1, by omega⟩
  exact hK k (by omega)
theorem evp {α : Type} {c : Prop} [Decidable c] {g f : Nat → Option α} {r : α} (hc : c) (h : Ev g r) : Ev (fun k => if c then g k else f k) r := by
  simp only [if_pos hc]; exact h
theorem evn {α : Type} {c : Prop} [Decidable c] {g f : Nat → Option α} {r : α} (hc : ¬ c) (h : Ev f r) : Ev (fun k => if c then g k else f k) r := by
  simp only [if_neg hc]; exact h
theorem evb {α β : Type} {g : Nat → Option α} {f : Nat → α → Option β} {a : α} {r : β} (h : Ev g a) (k : Ev (fun n => f n a) r) : Ev (fun n => (g n).bind (f n)) r := Ev.bind h k
theorem evk {α β : Type} {g : Option α} {f : Nat → α → Option β} {a : α} {r : β} (h : g = some a) (k : Ev (fun n => f n a) r) : Ev (fun n => g.bind (f n)) r := by subst h; exact k
theorem ev_ex {α : Type} {g : Nat → Option α} {r : α} (h : Ev g r) : ∃ k, g k = some r := by obtain ⟨K, hK⟩ := h; exact ⟨K, hK K (Nat.le_refl _)⟩
theorem wsucc {i n : Nat} (h : i < n) (hn : n ≤ 140737488351232) : wrap64 ((i : Int) + 1) = ((i + 1 : Nat) : Int) := by unfold wrap64; omega
theorem rd_at {l : List Int} {i : Nat} (h : i < l.length) : rd l (i : Int) = l[i] := by
  simp [rd, List.getD_eq_getElem?_getD, List.getElem?_eq_getElem h]
theorem drop_at {α : Type} {l : List α} {i : Nat} (h : i < l.length) : l.drop i = l[i] :: l.drop (i + 1) := List.drop_eq_getElem_cons h
theorem take_at {α : Type} {l : List α} {i : Nat} (h : i < l.length) : l.take (i + 1) = l.take i ++ [l[i]] := by
  rw [List.take_succ_eq_append_getElem h]
theorem between_eq (a b c : Int) : impl_between.f a b c = some (decide (b ≤ a ∧ a ≤ c)) := by
  unfold impl_between.f
  by_cases h : a ≥ b
  · have h' : b ≤ a := h
    simp [h, h']
  · have h' : ¬ b ≤ a := h
    simp [h, h']
theorem l00In_eq (a b c : Int) : spec_l00In.f a b c = some (decide (b ≤ a ∧ a ≤ c)) := by
  unfold spec_l00In.f
  by_cases h : a ≥ b
  · have h' : b ≤ a := h
    simp [h, h']
  · have h' : ¬ b ≤ a := h
    simp [h, h']
theorem toInts_loop (l : List Int) (hn : l.length ≤ 140737488351232) : ∀ (d i : Nat) (ys : List Int), i + d = l.length → ys.length = l.length → ys.take i = l.take i → Ev (fun k => laws_toInt64S.l0 k l ys (i : Int)) l := by
  intro d
  induction d with
  | zero =>
    intro i ys h hl ht
    apply evsucc
    simp only [laws_toInt64S.l0]
    refine evn (by omega) (evc fun _ => ?_)
    obtain rfl : i = l.length := by omega
    rw [← hl, List.take_length] at ht
    rw [ht, hl, List.take_length]
  | succ d ih =>
    intro i ys h hl ht
    apply evsucc
    simp only [laws_toInt64S.l0]
    refine evp (by omega) (evp (by omega) (evp (by omega) ?_))
    rw [wsucc (n := l.length) (by omega) hn, rd_at (by omega), Int.toNat_natCast]
    refine ih (i + 1) _ (by omega) (by simpa using hl) ?_
    rw [take_at (by simp; omega), take_at (by omega), List.take_set_of_le (by omega), ht]
    simp
theorem toInts_ev (l : List Int) (hn : l.length ≤ 35184372088832) : Ev (fun k => laws_toInt64S.f k l) l := by
  unfold laws_toInt64S.f
  refine evp (by omega) (evp (by omega) ?_)
  exact toInts_loop l (by omega) l.length 0 _ (by omega) (by simp) (by simp)
theorem eqInts_loop (l : List Int) (hn : l.length ≤ 140737488351232) : ∀ (d i : Nat), i + d = l.length → Ev (fun k => laws_eqInt64S.l0 k l l (i : Int)) true := by
  intro d
  induction d with
  | zero =>
    intro i h
    apply evsucc
    simp only [laws_eqInt64S.l0]
    exact evn (by omega) (evc fun _ => rfl)
  | succ d ih =>
    intro i h
    apply evsucc
    simp only [laws_eqInt64S.l0]
    refine evp (by omega) (evp (by omega) (evp (by omega) (evp (by trivial) ?_)))
    rw [wsucc (n := l.length) (by omega) hn]
    exact ih (i + 1) (by omega)
theorem eqInts_ev (l : List Int) (hn : l.length ≤ 140737488351232) : Ev (fun k => laws_eqInt64S.f k l l) true := by
  unfold laws_eqInt64S.f
  exact evp rfl (eqInts_loop l hn l.length 0 (by omega))
theorem has_loop (l : List Int) (v : Int) (hn : l.length ≤ 140737488351232) : ∀ (d i : Nat), i + d = l.length → Ev (fun k => spec_l00Has.l0 k l v (i : Int)) (decide (v ∈ l.drop i)) := by
  intro d
  induction d with
  | zero =>
    intro i h
    apply evsucc
    simp only [spec_l00Has.l0]
    refine evn (by omega) (evc fun _ => ?_)
    rw [List.drop_of_length_le (by omega)]
    simp
  | succ d ih =>
    intro i h
    apply evsucc
    simp only [spec_l00Has.l0]
    refine evp (by omega) (evp (by omega) ?_)
    have hi : i < l.length := by omega
    rw [wsucc hi hn, rd_at hi, drop_at hi]
    by_cases e : l[i] = v
    · refine evp e (evc fun _ => ?_)
      simp [e]
    · refine evn e ?_
      have e' : ¬ v = l[i] := fun h => e h.symm
      have e2 : decide (v ∈ l[i] :: l.drop (i + 1)) = decide (v ∈ l.drop (i + 1)) := decide_eq_decide.2 (by rw [List.mem_cons]; exact ⟨fun h => h.resolve_left e', Or.inr⟩)
      rw [e2]
      exact ih (i + 1) (by omega)
theorem has_ev (l : List Int) (v : Int) (hn : l.length ≤ 140737488351232) : Ev (fun k => spec_l00Has.f k l v) (decide (v ∈ l)) := by
  have := has_loop l v hn l.length 0 (by omega)
  simpa [spec_l00Has.f] using this
/-- Where a value stands first from i on, or -1. -/
def idxFrom : List Int → Nat → Int → Int
  | [], _, _ => -1
  | x :: r, i, v => if v = x then (i : Int) else idxFrom r (i + 1) v
theorem idxFrom_nonneg (l : List Int) (i : Nat) (v : Int) : idxFrom l i v ≥ 0 ↔ v ∈ l := by
  induction l generalizing i with
  | nil => simp [idxFrom]
  | cons x r ih =>
    simp only [idxFrom]
    by_cases e : v = x
    · simp [e]
    · rw [if_neg e, ih, List.mem_cons]
      exact ⟨Or.inr, fun h => h.resolve_left e⟩
theorem index_loop (l : List Int) (v : Int) (hn : l.length ≤ 140737488351232) : ∀ (d i : Nat), i + d = l.length → Ev (fun k => slices_Index_int64_int64.l0 k l v (l.length : Int) (i : Int)) (idxFrom (l.drop i) i v) := by
  intro d
  induction d with
  | zero =>
    intro i h
    apply evsucc
    simp only [slices_Index_int64_int64.l0]
    refine evn (by omega) (evc fun _ => ?_)
    rw [List.drop_of_length_le (by omega)]
    rfl
  | succ d ih =>
    intro i h
    apply evsucc
    simp only [slices_Index_int64_int64.l0]
    refine evp (by omega) (evp (by omega) (evp (by omega) ?_))
    have hi : i < l.length := by omega
    rw [wsucc hi hn, rd_at hi, drop_at hi]
    simp only [idxFrom]
    by_cases e : v = l[i]
    · rw [if_pos e]
      exact evp e (evc fun _ => rfl)
    · rw [if_neg e]
      exact evn e (ih (i + 1) (by omega))
theorem index_ev (l : List Int) (v : Int) (hn : l.length ≤ 140737488351232) : Ev (fun k => slices_Index_int64_int64.f k l v) (idxFrom l 0 v) := by
  have := index_loop l v hn l.length 0 (by omega)
  simpa [slices_Index_int64_int64.f] using this
theorem contains_ev (l : List Int) (v : Int) (hn : l.length ≤ 140737488351232) : Ev (fun k => slices_Contains_int64_int64.f k l v) (decide (v ∈ l)) := by
  unfold slices_Contains_int64_int64.f
  refine evb (index_ev l v hn) (evc fun _ => ?_)
  rw [decide_eq_decide.2 (idxFrom_nonneg l 0 v)]
/-- The elements behind those that were seen are nodes or holes, and no node comes twice. -/
def actFrom : List Int → List Int → Bool
  | _, [] => true
  | seen, n :: r => decide (-1 ≤ n ∧ n ≤ 15) && (!(decide (0 ≤ n) && decide (n ∈ seen)) && actFrom (seen ++ [n]) r)
def actB (l : List Int) : Bool := decide ((1 : Int) ≤ (l.length : Int) ∧ (l.length : Int) ≤ 7) && actFrom [] l
theorem actImpl_loop (l : List Int) (hn : l.length ≤ 140737488351232) : ∀ (d i : Nat), i + d = l.length →
    Ev (fun k => impl_ActingOk.l0 k l l (l.length : Int) (i : Int)) (actFrom (l.take i) (l.drop i) && decide ((1 : Int) ≤ (l.length : Int) ∧ (l.length : Int) ≤ 7)) := by
  intro d
  induction d with
  | zero =>
    intro i h
    apply evsucc
    simp only [impl_ActingOk.l0]
    refine evn (by omega) (evk (between_eq _ _ _) (evc fun _ => ?_))
    rw [List.drop_of_length_le (by omega)]
    simp [actFrom]
  | succ d ih =>
    intro i h
    apply evsucc
    simp only [impl_ActingOk.l0]
    refine evp (by omega) (evp (by omega) (evp (by omega) (evk (between_eq _ _ _) ?_)))
    have hi : i < l.length := by omega
    rw [wsucc hi hn, rd_at hi, drop_at hi, Int.toNat_natCast]
    have hs := ih (i + 1) (by omega)
    rw [take_at hi] at hs
    simp only [actFrom]
    by_cases hr : -1 ≤ l[i] ∧ l[i] ≤ 15
    · refine evp (by simpa using hr) ?_
      rw [decide_eq_true hr, Bool.true_and]
      by_cases h0 : l[i] ≥ 0
      · refine evp h0 (evp (by omega) (evb (contains_ev (l.take i) l[i] (by rw [List.length_take]; omega)) ?_))
        have h0' : (0 : Int) ≤ l[i] := h0
        by_cases hm : l[i] ∈ l.take i
        · exact evp (by simpa using hm) (evc fun _ => by simp [h0', hm])
        · refine evn (by simpa using hm) ?_
          simpa [hm] using hs
      · refine evn h0 ?_
        have h0' : ¬ (0 : Int) ≤ l[i] := h0
        simpa [h0'] using hs
    · exact evn (by simpa using hr) (evc fun _ => by rw [decide_eq_false hr]; rfl)
theorem actImpl (l : List Int) (hn : l.length ≤ 140737488351232) : Ev (fun k => impl_ActingOk.f k l) (actB l) := by
  have := actImpl_loop l hn l.length 0 (by omega)
  rw [Bool.and_comm] at this
  simpa [impl_ActingOk.f, actB] using this
theorem actSpec_loop (l : List Int) (hn : l.length ≤ 140737488351232) : ∀ (d i : Nat), i + d = l.length →
    Ev (fun k => spec_l12Ok.l0 k l (i : Int)) (actFrom (l.take i) (l.drop i)) := by
  intro d
  induction d with
  | zero =>
    intro i h
    apply evsucc
    simp only [spec_l12Ok.l0]
    refine evn (by omega) (evc fun _ => ?_)
    rw [List.drop_of_length_le (by omega)]
    simp [actFrom]
  | succ d ih =>
    intro i h
    apply evsucc
    simp only [spec_l12Ok.l0]
    refine evp (by omega) (evp (by omega) (evk (l00In_eq _ _ _) ?_))
    have hi : i < l.length := by omega
    rw [wsucc hi hn, rd_at hi, drop_at hi, Int.toNat_natCast]
    have hs := ih (i + 1) (by omega)
    rw [take_at hi] at hs
    simp only [actFrom]
    by_cases hr : -1 ≤ l[i] ∧ l[i] ≤ 15
    · refine evp (by simpa using hr) ?_
      rw [decide_eq_true hr, Bool.true_and]
      by_cases h0 : l[i] ≥ 0
      · refine evp h0 (evp (by omega) (evb (has_ev (l.take i) l[i] (by rw [List.length_take]; omega)) ?_))
        have h0' : (0 : Int) ≤ l[i] := h0
        by_cases hm : l[i] ∈ l.take i
        · exact evp (by simpa using hm) (evc fun _ => by simp [h0', hm])
        · refine evn (by simpa using hm) ?_
          simpa [hm] using hs
      · refine evn h0 ?_
        have h0' : ¬ (0 : Int) ≤ l[i] := h0
        simpa [h0'] using hs
    · exact evn (by simpa using hr) (evc fun _ => by rw [decide_eq_false hr]; rfl)
theorem actSpec (l : List Int) (hn : l.length ≤ 140737488351232) : Ev (fun k => spec_l12Ok.f k l) (actB l) := by
  have hs := actSpec_loop l hn l.length 0 (by omega)
  unfold spec_l12Ok.f
  by_cases h1 : (l.length : Int) < 1
  · refine evp h1 (evsucc ?_)
    have h1' : ¬ (1 : Int) ≤ (l.length : Int) := by omega
    simp only [spec_l12Ok.j0]
    exact evp (by simp) (evc fun _ => by simp [actB, h1'])
  · refine evn h1 (evsucc ?_)
    have h1' : (1 : Int) ≤ (l.length : Int) := by omega
    simp only [spec_l12Ok.j0]
    by_cases h2 : (l.length : Int) > 7
    · have h2' : ¬ (l.length : Int) ≤ 7 := by omega
      exact evp (by simpa using h2) (evc fun _ => by simp [actB, h2'])
    · have h2' : (l.length : Int) ≤ 7 := by omega
      refine evn (by simpa using h2) ?_
      simpa [actB, h1', h2'] using hs
/-- How many nodes. -/
def cnt : List Int → Nat
  | [] => 0
  | n :: r => (if n ≥ 0 then 1 else 0) + cnt r
theorem cnt_filter : ∀ (l seen : List Int), actFrom seen l = true → (l.filter fun x => !decide (x = -1)).length = cnt l
  | [], _, _ => rfl
  | n :: r, seen, h => by
    simp only [actFrom, Bool.and_eq_true] at h
    have h1 := of_decide_eq_true h.1
    have ih := cnt_filter r _ h.2.2
    by_cases hn : n = -1
    · subst hn
      rw [List.filter_cons_of_neg (by simp), ih]
      simp only [cnt]
      rw [if_neg (by omega)]
      omega
    · rw [List.filter_cons_of_pos (by simpa using hn), List.length_cons, ih]
      simp only [cnt]
      rw [if_pos (by omega)]
      omega
theorem members_ev (l : List Int) (hn : l.length ≤ 1048576) : impl_members.f l = some ((l.filter fun x => !decide (x = -1)).mergeSort fun x y => decide (x ≤ y)) := by
  unfold impl_members.f impl_removed.f
  rw [if_pos (by omega)]
  rfl
def ins (v : Int) : List Int → List Int
  | [] => [v]
  | y :: r => if y ≥ v then (if y > v then v :: y :: r else y :: r) else y :: ins v r
def mem : List Int → List Int → List Int
  | acc, [] => acc
  | acc, n :: r => if n ≥ 0 then mem (ins n acc) r else mem acc r
theorem ins_len (v : Int) : ∀ l : List Int, (ins v l).length ≤ l.length + 1
  | [] => by simp [ins]
  | y :: r => by
    have := ins_len v r
    simp only [ins]
    by_cases h : y ≥ v
    · rw [if_pos h]
      by_cases h2 : y > v
      · rw [if_pos h2]; simp
      · rw [if_neg h2]; simp
    · rw [if_neg h]; simp only [List.length_cons]; omega
theorem ins_perm (v : Int) : ∀ l : List Int, v ∉ l → (ins v l).Perm (v :: l)
  | [], _ => List.Perm.refl _
  | y :: r, h => by
    have hy : v ≠ y := fun e => h (by simp [e])
    have hr : v ∉ r := fun e => h (by simp [e])
    simp only [ins]
    by_cases h1 : y ≥ v
    · rw [if_pos h1, if_pos (by omega)]
    · rw [if_neg h1]
      exact ((ins_perm v r hr).cons y).trans (List.Perm.swap v y r)
theorem ins_sorted (v : Int) : ∀ l : List Int, l.Pairwise (· ≤ ·) → (ins v l).Pairwise (· ≤ ·)
  | [], _ => by simp [ins]
  | y :: r, h => by
    have h' := List.pairwise_cons.1 h
    simp only [ins]
    by_cases h1 : y ≥ v
    · rw [if_pos h1]
      by_cases h2 : y > v
      · rw [if_pos h2]
        refine List.pairwise_cons.2 ⟨fun a ha => ?_, h⟩
        rcases List.mem_cons.1 ha with rfl | ha
        · exact h1
        · have := h'.1 a ha; omega
      · rw [if_neg h2]; exact h
    · rw [if_neg h1]
      refine List.pairwise_cons.2 ⟨fun a ha => ?_, ins_sorted v r h'.2⟩
      have : ∀ (l : List Int), a ∈ ins v l → a = v ∨ a ∈ l := by
        intro l
        induction l with
        | nil => intro h; left; simpa [ins] using h
        | cons z t ih =>
          intro h
          simp only [ins] at h
          by_cases g1 : z ≥ v
          · rw [if_pos g1] at h
            by_cases g2 : z > v
            · rw [if_pos g2] at h
              rcases List.mem_cons.1 h with h | h
              · exact .inl h
              · exact .inr h
            · rw [if_neg g2] at h; exact .inr h
          · rw [if_neg g1] at h
            rcases List.mem_cons.1 h with h | h
            · exact .inr (by simp [h])
            · rcases ih h with h | h
              · exact .inl h
              · exact .inr (List.mem_cons_of_mem _ h)
      rcases this r ha with e | e
      · omega
      · exact h'.1 a e
theorem mem_spec : ∀ (l seen acc : List Int), actFrom seen l = true → acc.Pairwise (· ≤ ·) → (∀ x ∈ acc, x ∈ seen) →
    (mem acc l).Pairwise (· ≤ ·) ∧ (mem acc l).Perm (acc ++ l.filter fun x => !decide (x = -1))
  | [], _, acc, _, hs, _ => ⟨hs, by simp [mem]⟩
  | n :: r, seen, acc, h, hs, hsub => by
    simp only [actFrom, Bool.and_eq_true] at h
    have h1 := of_decide_eq_true h.1
    simp only [mem]
    by_cases h0 : n ≥ 0
    · rw [if_pos h0, List.filter_cons_of_pos (by simp; omega)]
      have hn : n ∉ acc := fun e => by
        have := hsub n e
        have h2 := h.2.1
        simp [this] at h2
        omega
      have ih := mem_spec r (seen ++ [n]) (ins n acc) h.2.2 (ins_sorted n acc hs) (fun x hx => by
        have := (ins_perm n acc hn).mem_iff.1 hx
        rcases List.mem_cons.1 this with e | e
        · simp [e]
        · simp [hsub x e])
      refine ⟨ih.1, ih.2.trans ?_⟩
      exact ((ins_perm n acc hn).append_right _).trans (by simpa using List.perm_middle.symm)
    · rw [if_neg h0, List.filter_cons_of_neg (by simp; omega)]
      exact mem_spec r (seen ++ [n]) acc h.2.2 hs (fun x hx => by simp [hsub x hx])
theorem mem_members (l : List Int) (h : actFrom [] l = true) : (l.filter fun x => !decide (x = -1)).mergeSort (fun x y => decide (x ≤ y)) = mem [] l := by
  have hm := mem_spec l [] [] h List.Pairwise.nil (by simp)
  refine List.Perm.eq_of_pairwise (le := fun a b : Int => a ≤ b) (fun a b _ _ h1 h2 => Int.le_antisymm h1 h2) ?_ hm.1 ?_
  · have := List.pairwise_mergeSort (le := fun x y : Int => decide (x ≤ y)) (by simp; intro a b c; omega) (by simp; intro a b; omega) (l.filter fun x => !decide (x = -1))
    simpa using this
  · exact (List.mergeSort_perm _ _).trans (by simpa using hm.2.symm)
theorem put_ev (l : List Int) (v : Int) (hn : l.length ≤ 1048576) : ∀ (d i : Nat) (acc : List Int) (b : Bool), i + d = l.length → acc.length ≤ i + (if b = true then 1 else 0) →
    Ev (fun k => spec_l00Put.l0 k l v acc b (i : Int)) (acc ++ if b = true then l.drop i else ins v (l.drop i)) := by
  intro d
  induction d with
  | zero =>
    intro i acc b h ha
    have hal : acc.length ≤ i + 1 := by cases b <;> simp at ha <;> omega
    apply evsucc
    simp only [spec_l00Put.l0]
    refine evn (by omega) ?_
    rw [List.drop_of_length_le (by omega)]
    cases b with
    | true => exact evp rfl (evc fun _ => by simp)
    | false => exact evn (by simp) (evp (by omega) (evc fun _ => by simp [ins]))
  | succ d ih =>
    intro i acc b h ha
    have hal : acc.length ≤ i + 1 := by cases b <;> simp at ha <;> omega
    have hi : i < l.length := by omega
    apply evsucc
    simp only [spec_l00Put.l0]
    refine evp (by omega) ?_
    cases b with
    | true =>
      refine evp rfl (evsucc ?_)
      simp only [spec_l00Put.j1]
      refine evn (by simp) (evp (by omega) (evp (by omega) (evp (by omega) ?_)))
      rw [wsucc hi (by omega), rd_at hi, drop_at hi]
      simpa [-List.getElem_cons_drop] using ih (i + 1) (acc ++ [l[i]]) true (by omega) (by simp at ha ⊢; omega)
    | false =>
      refine evn (by simp) (evp (by omega) (evsucc ?_))
      simp only [spec_l00Put.j1]
      rw [wsucc hi (by omega), rd_at hi, drop_at hi]
      simp only [ins]
      by_cases h1 : l[i] ≥ v
      · refine evp (by simpa using h1) (evp (by omega) (evp (by omega) ?_))
        rw [if_pos h1]
        by_cases h2 : l[i] > v
        · refine evp h2 (evp (by omega) ?_)
          rw [if_pos h2]
          refine evk (a := acc ++ [v]) rfl (evp (by simp; omega) ?_)
          simpa [-List.getElem_cons_drop] using ih (i + 1) (acc ++ [v] ++ [l[i]]) true (by omega) (by simp at ha ⊢; omega)
        · refine evn h2 (evp (by omega) ?_)
          rw [if_neg h2]
          simpa [-List.getElem_cons_drop] using ih (i + 1) (acc ++ [l[i]]) true (by omega) (by simp at ha ⊢; omega)
      · refine evn (by simpa using h1) (evp (by omega) (evp (by omega) (evp (by omega) ?_)))
        rw [if_neg h1]
        simpa [-List.getElem_cons_drop] using ih (i + 1) (acc ++ [l[i]]) false (by omega) (by simp at ha ⊢; omega)
theorem mem_loop (l : List Int) (hn : l.length ≤ 1048576) : ∀ (d i : Nat) (acc : List Int), i + d = l.length → acc.length ≤ i → Ev (fun k => spec_l12Members.l0 k l acc (i : Int)) (mem acc (l.drop i)) := by
  intro d
  induction d with
  | zero =>
    intro i acc h ha
    apply evsucc
    simp only [spec_l12Members.l0]
    refine evn (by omega) (evc fun _ => ?_)
    rw [List.drop_of_length_le (by omega)]
    rfl
  | succ d ih =>
    intro i acc h ha
    have hi : i < l.length := by omega
    apply evsucc
    simp only [spec_l12Members.l0]
    refine evp (by omega) (evp (by omega) ?_)
    rw [wsucc hi (by omega), rd_at hi, drop_at hi]
    simp only [mem]
    by_cases h0 : l[i] ≥ 0
    · rw [if_pos h0]
      have hp : Ev (fun k => spec_l00Put.f k acc l[i]) (ins l[i] acc) := by
        have := put_ev acc l[i] (by omega) acc.length 0 [] false (by omega) (by simp)
        simpa [spec_l00Put.f] using this
      refine evp h0 (evb hp ?_)
      have := ins_len l[i] acc
      exact ih (i + 1) (ins l[i] acc) (by omega) (by omega)
    · rw [if_neg h0]
      exact evn h0 (ih (i + 1) acc (by omega) (by omega))
theorem membersSpec (l : List Int) (hn : l.length ≤ 1048576) : Ev (fun k => spec_l12Members.f k l) (mem [] l) := by
  have := mem_loop l hn l.length 0 [] (by omega) (by simp)
  simpa [spec_l12Members.f] using this
def sq : Int → Nat → List Int
  | _, 0 => []
  | v, n + 1 => v :: sq (v + 1) n
theorem mark_loop : ∀ (d i : Nat) (v : Int) (x : List Int), i + d = x.length → x.length ≤ 1048576 → 0 ≤ v → v + d ≤ 4611686018427387904 →
    ∃ y : List Int, Ev (fun k => laws_markInt64S.l0 k x v (i : Int)) (v + d, y) ∧ y.length = x.length ∧ y.take i = x.take i ∧ y.drop i = sq v d := by
  intro d
  induction d with
  | zero =>
    intro i v x h hx hv hb
    refine ⟨x, ?_, rfl, rfl, by rw [List.drop_of_length_le (by omega)]; rfl⟩
    apply evsucc
    simp only [laws_markInt64S.l0]
    exact evn (by omega) (evc fun _ => by simp)
  | succ d ih =>
    intro i v x h hx hv hb
    have hi : i < x.length := by omega
    obtain ⟨y, hy, hl, ht, hd⟩ := ih (i + 1) (v + 1) (x.set i v) (by simp; omega) (by simp; omega) (by omega) (by omega)
    have hiy : i < y.length := by rw [hl]; simpa using hi
    have hyi : y[i] = v := by
      have h1 : (y.take (i + 1))[i]? = ((x.set i v).take (i + 1))[i]? := by rw [ht]
      rw [List.getElem?_take_of_lt (by omega), List.getElem?_take_of_lt (by omega)] at h1
      simpa [List.getElem?_eq_getElem hiy, hi] using h1
    refine ⟨y, ?_, by simpa using hl, ?_, ?_⟩
    · apply evsucc
      simp only [laws_markInt64S.l0]
      refine evp (by omega) (evp (by omega) ?_)
      rw [wsucc hi (by omega), Int.toNat_natCast, show wrap64 (v + 1) = v + 1 by unfold wrap64; omega]
      have e : v + ((d + 1 : Nat) : Int) = v + 1 + (d : Int) := by omega
      rw [e]
      exact hy
    · have h1 := congrArg (List.take i) ht
      rw [List.take_take, List.take_take, Nat.min_eq_left (by omega), List.take_set_of_le (by omega)] at h1
      exact h1
    · rw [drop_at hiy, hyi, hd]
      rfl
theorem mark_ev (x : List Int) (hx : x.length ≤ 1048576) : ∃ y : List Int, Ev (fun k => laws_markInt64S.f k x 1) (1 + (x.length : Int), y) ∧ y = sq 1 x.length := by
  obtain ⟨y, hy, _, _, hd⟩ := mark_loop x.length 0 1 x (by omega) hx (by omega) (by omega)
  exact ⟨y, by simpa [laws_markInt64S.f] using hy, by simpa using hd⟩
theorem held_loop (x : List Int) (hx : x.length ≤ 1048576) : ∀ (d i : Nat) (v : Int), i + d = x.length → 0 ≤ v → v + d ≤ 4611686018427387904 → x.drop i = sq v d →
    Ev (fun k => laws_heldInt64S.l0 k x v (i : Int)) (v + d) := by
  intro d
  induction d with
  | zero =>
    intro i v h hv hb _
    apply evsucc
    simp only [laws_heldInt64S.l0]
    exact evn (by omega) (evc fun _ => by simp)
  | succ d ih =>
    intro i v h hv hb hd
    have hi : i < x.length := by omega
    rw [drop_at hi] at hd
    simp only [sq, List.cons.injEq] at hd
    apply evsucc
    simp only [laws_heldInt64S.l0]
    refine evp (by omega) (evp (by omega) ?_)
    rw [rd_at hi, wsucc hi (by omega), show wrap64 (v + 1) = v + 1 by unfold wrap64; omega]
    refine evp hd.1 ?_
    have e : v + ((d + 1 : Nat) : Int) = v + 1 + (d : Int) := by omega
    rw [e]
    exact ih (i + 1) (v + 1) (by omega) (by omega) (by omega) hd.2
theorem sq_len : ∀ (n : Nat) (v : Int), (sq v n).length = n
  | 0, _ => rfl
  | n + 1, v => by simp [sq, sq_len n]
theorem held_ev (n : Nat) (hn : n ≤ 1048576) : Ev (fun k => laws_heldInt64S.f k (sq 1 n) 1) (1 + (n : Int)) := by
  have := held_loop (sq 1 n) (by rw [sq_len]; exact hn) n 0 1 (by rw [sq_len]; omega) (by omega) (by omega) (by simp)
  simpa [laws_heldInt64S.f] using this
theorem mem_len : ∀ (l acc : List Int), (mem acc l).length ≤ acc.length + l.length
  | [], acc => by simp [mem]
  | n :: r, acc => by
    simp only [mem]
    by_cases h : n ≥ 0
    · rw [if_pos h]
      have h1 := mem_len r (ins n acc)
      have h2 := ins_len n acc
      simp only [List.length_cons]; omega
    · rw [if_neg h]
      have h1 := mem_len r acc
      simp only [List.length_cons]; omega
theorem FnExactMembersOf : Stmt.FnExactMembersOf.PureS := by
  intro l ⟨_, hl, _⟩
  apply ev_ex
  unfold laws_FnExactMembersOf.f
  by_cases h : (l.length : Int) > 1048576
  · exact evp h (evc fun _ => rfl)
  · refine evn h (evb (toInts_ev l (by omega)) ?_)
    obtain ⟨M, hM, hML⟩ : ∃ M : List Int, M = (if actB l = true then mem [] l else []) ∧ M.length ≤ 1048576 := by
      refine ⟨_, rfl, ?_⟩
      have := mem_len l []
      by_cases hb : actB l = true
      · rw [if_pos hb]; simp at this; omega
      · rw [if_neg hb]; simp
    have hs : Ev (fun k => spec_MembersOf.f k l) M := by
      rw [hM]
      unfold spec_MembersOf.f
      refine evb (actSpec l (by omega)) ?_
      cases hb : actB l with
      | true => exact evp rfl (evb (membersSpec l (by omega)) (evc fun _ => rfl))
      | false => exact evn (by simp) (evc fun _ => rfl)
    have hi : Ev (fun k => impl_MembersOf.f k l) M := by
      rw [hM]
      unfold impl_MembersOf.f
      refine evb (actImpl l (by omega)) ?_
      cases hb : actB l with
      | true =>
        have hf : actFrom [] l = true := by simp only [actB, Bool.and_eq_true] at hb; exact hb.2
        exact evp rfl (evk (members_ev l (by omega)) (evc fun _ => by rw [mem_members l hf]; rfl))
      | false => exact evn (by simp) (evc fun _ => rfl)
    clear hM
    obtain ⟨y, hy, _⟩ := mark_ev l (by omega)
    obtain ⟨z, hz, rfl⟩ := mark_ev M hML
    have hj : Ev (fun k => laws_FnExactMembersOf.j0 k l M M false) true := by
      apply evsucc
      simp only [laws_FnExactMembersOf.j0]
      refine evn (by simp) (evb hz (evb (held_ev _ hML) (evn (by omega) (evp rfl ?_))))
      exact evb (toInts_ev l (by omega)) (evb hi (evb (eqInts_ev M (by omega)) (evp rfl (evb (held_ev _ hML) (evn (by omega) (evp rfl (evc fun _ => rfl)))))))
    refine evb hs (evb (toInts_ev l (by omega)) (evb hi (evb (eqInts_ev M (by omega)) (evp rfl ?_))))
    refine evb (toInts_ev l (by omega)) (evb (eqInts_ev l (by omega)) (evp rfl (evb hy (evn (by simp; omega) (evb (eqInts_ev M (by omega)) hj)))))
end Go.Proofs.Ytfeaokelfbjcdaa.Pure
