/- The program's HeardOf and the reference's give one sorted list, in memory of its own, at every interval and list of numbers within the reach. No other condition. -/
import Derived.Test.YtfeaokelfbjcdaaStmtFnExactHeardOf
set_option linter.unusedSimpArgs false
set_option linter.unusedVariables false
namespace Go.Proofs.Ytfeaokelfbjcdaa.Pure
open Go.RowKit Go.Proofs.Ytfeaokelfbjcdaa.MFnExactHeardOf Go.Proofs.YtfeaokelfbjcdaaW.PrintWords Go.Proofs.YtfeaokelfbjcdaaW.PrintLast
theorem evc {α : Type} {g : Nat → Option α} {r : α} (h : ∀ k, g k = some r) : Ev g r := ⟨0, fun k _ => h k⟩
theorem evsucc {α : Type} {g : Nat → Option α} {r : α} (h : Ev (fun k => g (k + 1)) r) : Ev g r := by
  obtain ⟨K, hK⟩ := h
  refine ⟨K + 1, fun k hk => ?_⟩
  obtain ⟨k, rfl⟩ : ∃ m, k = m + 1 := ⟨k - 1, by omega⟩
  exact hK k (by omega)
theorem evp {α : Type} {c : Prop} [Decidable c] {g f : Nat → Option α} {r : α} (hc : c) (h : Ev g r) : Ev (fun k => if c then g k else f k) r := by
  simp only [if_pos hc]; exact h
theorem evn {α : Type} {c : Prop} [Decidable c] {g f : Nat → Option α} {r : α} (hc : ¬ c) (h : Ev f r) : Ev (fun k => if c then g k else f k) r := by
  simp only [if_neg hc]; exact h
theorem evb {α β : Type} {g : Nat → Option α} {f : Nat → α → Option β} {a : α} {r : β} (h : Ev g a) (k : Ev (fun n => f n a) r) : Ev (fun n => (g n).bind (f n)) r := Ev.bind h k
theorem evk {α β : Type} {g : Option α} {f : Nat → α → Option β} {a : α} {r : β} (h : g = some a) (k : Ev (fun n => f n a) r) : Ev (fun n => g.bind (f n)) r := by subst h; exact k
theorem ev_ex {α : Type} {g : Nat → Option α} {r : α} (h : Ev g r) : ∃ k, g k = some r := by obtain ⟨K, hK⟩ := h; exact ⟨K, hK K (Nat.le_refl _)⟩
theorem wsucc {i n : Nat} (h : i < n) (hn : n ≤ 140737488351232) : wrap64 ((i : Int) + 1) = ((i + 1 : Nat) : Int) := by unfold wrap64; omega
theorem rd_at {l : List Int} {i : Nat} (h : i < l.length) : rd l (i : Int) = l[i] := by
  simp [rd, List.getD_eq_getElem?_getD, List.getElem?_eq_getElem h]
theorem drop_at {α : Type} {l : List α} {i : Nat} (h : i < l.length) : l.drop i = l[i] :: l.drop (i + 1) := List.drop_eq_getElem_cons h
theorem take_at {α : Type} {l : List α} {i : Nat} (h : i < l.length) : l.take (i + 1) = l.take i ++ [l[i]] := by
  rw [List.take_succ_eq_append_getElem h]
theorem between_eq (a b c : Int) : impl_between.f a b c = some (decide (b ≤ a ∧ a ≤ c)) := by
  unfold impl_between.f
  by_cases h : a ≥ b
  · have h' : b ≤ a := h
    simp [h, h']
  · have h' : ¬ b ≤ a := h
    simp [h, h']
theorem l00In_eq (a b c : Int) : spec_l00In.f a b c = some (decide (b ≤ a ∧ a ≤ c)) := by
  unfold spec_l00In.f
  by_cases h : a ≥ b
  · have h' : b ≤ a := h
    simp [h, h']
  · have h' : ¬ b ≤ a := h
    simp [h, h']
theorem toInts_loop (l : List Int) (hn : l.length ≤ 140737488351232) : ∀ (d i : Nat) (ys : List Int), i + d = l.length → ys.length = l.length → ys.take i = l.take i → Ev (fun k => laws_toInt64S.l0 k l ys (i : Int)) l := by
  intro d
  induction d with
  | zero =>
    intro i ys h hl ht
    apply evsucc
    simp only [laws_toInt64S.l0]
    refine evn (by omega) (evc fun _ => ?_)
    obtain rfl : i = l.length := by omega
    rw [← hl, List.take_length] at ht
    rw [ht, hl, List.take_length]
  | succ d ih =>
    intro i ys h hl ht
    apply evsucc
    simp only [laws_toInt64S.l0]
    refine evp (by omega) (evp (by omega) (evp (by omega) ?_))
    rw [wsucc (n := l.length) (by omega) hn, rd_at (by omega), Int.toNat_natCast]
    refine ih (i + 1) _ (by omega) (by simpa using hl) ?_
    rw [take_at (by simp; omega), take_at (by omega), List.take_set_of_le (by omega), ht]
    simp
theorem toInts_ev (l : List Int) (hn : l.length ≤ 35184372088832) : Ev (fun k => laws_toInt64S.f k l) l := by
  unfold laws_toInt64S.f
  refine evp (by omega) (evp (by omega) ?_)
  exact toInts_loop l (by omega) l.length 0 _ (by omega) (by simp) (by simp)
theorem eqInts_loop (l : List Int) (hn : l.length ≤ 140737488351232) : ∀ (d i : Nat), i + d = l.length → Ev (fun k => laws_eqInt64S.l0 k l l (i : Int)) true := by
  intro d
  induction d with
  | zero =>
    intro i h
    apply evsucc
    simp only [laws_eqInt64S.l0]
    exact evn (by omega) (evc fun _ => rfl)
  | succ d ih =>
    intro i h
    apply evsucc
    simp only [laws_eqInt64S.l0]
    refine evp (by omega) (evp (by omega) (evp (by omega) (evp (by trivial) ?_)))
    rw [wsucc (n := l.length) (by omega) hn]
    exact ih (i + 1) (by omega)
theorem eqInts_ev (l : List Int) (hn : l.length ≤ 140737488351232) : Ev (fun k => laws_eqInt64S.f k l l) true := by
  unfold laws_eqInt64S.f
  exact evp rfl (eqInts_loop l hn l.length 0 (by omega))
theorem has_loop (l : List Int) (v : Int) (hn : l.length ≤ 140737488351232) : ∀ (d i : Nat), i + d = l.length → Ev (fun k => spec_l00Has.l0 k l v (i : Int)) (decide (v ∈ l.drop i)) := by
  intro d
  induction d with
  | zero =>
    intro i h
    apply evsucc
    simp only [spec_l00Has.l0]
    refine evn (by omega) (evc fun _ => ?_)
    rw [List.drop_of_length_le (by omega)]
    simp
  | succ d ih =>
    intro i h
    apply evsucc
    simp only [spec_l00Has.l0]
    refine evp (by omega) (evp (by omega) ?_)
    have hi : i < l.length := by omega
    rw [wsucc hi hn, rd_at hi, drop_at hi]
    by_cases e : l[i] = v
    · refine evp e (evc fun _ => ?_)
      simp [e]
    · refine evn e ?_
      have e' : ¬ v = l[i] := fun h => e h.symm
      have e2 : decide (v ∈ l[i] :: l.drop (i + 1)) = decide (v ∈ l.drop (i + 1)) := decide_eq_decide.2 (by rw [List.mem_cons]; exact ⟨fun h => h.resolve_left e', Or.inr⟩)
      rw [e2]
      exact ih (i + 1) (by omega)
theorem has_ev (l : List Int) (v : Int) (hn : l.length ≤ 140737488351232) : Ev (fun k => spec_l00Has.f k l v) (decide (v ∈ l)) := by
  have := has_loop l v hn l.length 0 (by omega)
  simpa [spec_l00Has.f] using this
/-- Where a value stands first from i on, or -1. -/
def idxFrom : List Int → Nat → Int → Int
  | [], _, _ => -1
  | x :: r, i, v => if v = x then (i : Int) else idxFrom r (i + 1) v
theorem idxFrom_nonneg (l : List Int) (i : Nat) (v : Int) : idxFrom l i v ≥ 0 ↔ v ∈ l := by
  induction l generalizing i with
  | nil => simp [idxFrom]
  | cons x r ih =>
    simp only [idxFrom]
    by_cases e : v = x
    · simp [e]
    · rw [if_neg e, ih, List.mem_cons]
      exact ⟨Or.inr, fun h => h.resolve_left e⟩
theorem index_loop (l : List Int) (v : Int) (hn : l.length ≤ 140737488351232) : ∀ (d i : Nat), i + d = l.length → Ev (fun k => slices_Index_int64_int64.l0 k l v (l.length : Int) (i : Int)) (idxFrom (l.drop i) i v) := by
  intro d
  induction d with
  | zero =>
    intro i h
    apply evsucc
    simp only [slices_Index_int64_int64.l0]
    refine evn (by omega) (evc fun _ => ?_)
    rw [List.drop_of_length_le (by omega)]
    rfl
  | succ d ih =>
    intro i h
    apply evsucc
    simp only [slices_Index_int64_int64.l0]
    refine evp (by omega) (evp (by omega) (evp (by omega) ?_))
    have hi : i < l.length := by omega
    rw [wsucc hi hn, rd_at hi, drop_at hi]
    simp only [idxFrom]
    by_cases e : v = l[i]
    · rw [if_pos e]
      exact evp e (evc fun _ => rfl)
    · rw [if_neg e]
      exact evn e (ih (i + 1) (by omega))
theorem index_ev (l : List Int) (v : Int) (hn : l.length ≤ 140737488351232) : Ev (fun k => slices_Index_int64_int64.f k l v) (idxFrom l 0 v) := by
  have := index_loop l v hn l.length 0 (by omega)
  simpa [slices_Index_int64_int64.f] using this
theorem contains_ev (l : List Int) (v : Int) (hn : l.length ≤ 140737488351232) : Ev (fun k => slices_Contains_int64_int64.f k l v) (decide (v ∈ l)) := by
  unfold slices_Contains_int64_int64.f
  refine evb (index_ev l v hn) (evc fun _ => ?_)
  rw [decide_eq_decide.2 (idxFrom_nonneg l 0 v)]
/-- The elements behind those that were seen are nodes or holes, and no node comes twice. -/
def actFrom : List Int → List Int → Bool
  | _, [] => true
  | seen, n :: r => decide (-1 ≤ n ∧ n ≤ 15) && (!(decide (0 ≤ n) && decide (n ∈ seen)) && actFrom (seen ++ [n]) r)
def actB (l : List Int) : Bool := decide ((1 : Int) ≤ (l.length : Int) ∧ (l.length : Int) ≤ 7) && actFrom [] l
theorem actImpl_loop (l : List Int) (hn : l.length ≤ 140737488351232) : ∀ (d i : Nat), i + d = l.length →
    Ev (fun k => impl_ActingOk.l0 k l l (l.length : Int) (i : Int)) (actFrom (l.take i) (l.drop i) && decide ((1 : Int) ≤ (l.length : Int) ∧ (l.length : Int) ≤ 7)) := by
  intro d
  induction d with
  | zero =>
    intro i h
    apply evsucc
    simp only [impl_ActingOk.l0]
    refine evn (by omega) (evk (between_eq _ _ _) (evc fun _ => ?_))
    rw [List.drop_of_length_le (by omega)]
    simp [actFrom]
  | succ d ih =>
    intro i h
    apply evsucc
    simp only [impl_ActingOk.l0]
    refine evp (by omega) (evp (by omega) (evp (by omega) (evk (between_eq _ _ _) ?_)))
    have hi : i < l.length := by omega
    rw [wsucc hi hn, rd_at hi, drop_at hi, Int.toNat_natCast]
    have hs := ih (i + 1) (by omega)
    rw [take_at hi] at hs
    simp only [actFrom]
    by_cases hr : -1 ≤ l[i] ∧ l[i] ≤ 15
    · refine evp (by simpa using hr) ?_
      rw [decide_eq_true hr, Bool.true_and]
      by_cases h0 : l[i] ≥ 0
      · refine evp h0 (evp (by omega) (evb (contains_ev (l.take i) l[i] (by rw [List.length_take]; omega)) ?_))
        have h0' : (0 : Int) ≤ l[i] := h0
        by_cases hm : l[i] ∈ l.take i
        · exact evp (by simpa using hm) (evc fun _ => by simp [h0', hm])
        · refine evn (by simpa using hm) ?_
          simpa [hm] using hs
      · refine evn h0 ?_
        have h0' : ¬ (0 : Int) ≤ l[i] := h0
        simpa [h0'] using hs
    · exact evn (by simpa using hr) (evc fun _ => by rw [decide_eq_false hr]; rfl)
theorem actImpl (l : List Int) (hn : l.length ≤ 140737488351232) : Ev (fun k => impl_ActingOk.f k l) (actB l) := by
  have := actImpl_loop l hn l.length 0 (by omega)
  rw [Bool.and_comm] at this
  simpa [impl_ActingOk.f, actB] using this
theorem actSpec_loop (l : List Int) (hn : l.length ≤ 140737488351232) : ∀ (d i : Nat), i + d = l.length →
    Ev (fun k => spec_l12Ok.l0 k l (i : Int)) (actFrom (l.take i) (l.drop i)) := by
  intro d
  induction d with
  | zero =>
    intro i h
    apply evsucc
    simp only [spec_l12Ok.l0]
    refine evn (by omega) (evc fun _ => ?_)
    rw [List.drop_of_length_le (by omega)]
    simp [actFrom]
  | succ d ih =>
    intro i h
    apply evsucc
    simp only [spec_l12Ok.l0]
    refine evp (by omega) (evp (by omega) (evk (l00In_eq _ _ _) ?_))
    have hi : i < l.length := by omega
    rw [wsucc hi hn, rd_at hi, drop_at hi, Int.toNat_natCast]
    have hs := ih (i + 1) (by omega)
    rw [take_at hi] at hs
    simp only [actFrom]
    by_cases hr : -1 ≤ l[i] ∧ l[i] ≤ 15
    · refine evp (by simpa using hr) ?_
      rw [decide_eq_true hr, Bool.true_and]
      by_cases h0 : l[i] ≥ 0
      · refine evp h0 (evp (by omega) (evb (has_ev (l.take i) l[i] (by rw [List.length_take]; omega)) ?_))
        have h0' : (0 : Int) ≤ l[i] := h0
        by_cases hm : l[i] ∈ l.take i
        · exact evp (by simpa using hm) (evc fun _ => by simp [h0', hm])
        · refine evn (by simpa using hm) ?_
          simpa [hm] using hs
      · refine evn h0 ?_
        have h0' : ¬ (0 : Int) ≤ l[i] := h0
        simpa [h0'] using hs
    · exact evn (by simpa using hr) (evc fun _ => by rw [decide_eq_false hr]; rfl)
theorem actSpec (l : List Int) (hn : l.length ≤ 140737488351232) : Ev (fun k => spec_l12Ok.f k l) (actB l) := by
  have hs := actSpec_loop l hn l.length 0 (by omega)
  unfold spec_l12Ok.f
  by_cases h1 : (l.length : Int) < 1
  · refine evp h1 (evsucc ?_)
    have h1' : ¬ (1 : Int) ≤ (l.length : Int) := by omega
    simp only [spec_l12Ok.j0]
    exact evp (by simp) (evc fun _ => by simp [actB, h1'])
  · refine evn h1 (evsucc ?_)
    have h1' : (1 : Int) ≤ (l.length : Int) := by omega
    simp only [spec_l12Ok.j0]
    by_cases h2 : (l.length : Int) > 7
    · have h2' : ¬ (l.length : Int) ≤ 7 := by omega
      exact evp (by simpa using h2) (evc fun _ => by simp [actB, h2'])
    · have h2' : (l.length : Int) ≤ 7 := by omega
      refine evn (by simpa using h2) ?_
      simpa [actB, h1', h2'] using hs
/-- How many nodes. -/
def cnt : List Int → Nat
  | [] => 0
  | n :: r => (if n ≥ 0 then 1 else 0) + cnt r
theorem cnt_filter : ∀ (l seen : List Int), actFrom seen l = true → (l.filter fun x => !decide (x = -1)).length = cnt l
  | [], _, _ => rfl
  | n :: r, seen, h => by
    simp only [actFrom, Bool.and_eq_true] at h
    have h1 := of_decide_eq_true h.1
    have ih := cnt_filter r _ h.2.2
    by_cases hn : n = -1
    · subst hn
      rw [List.filter_cons_of_neg (by simp), ih]
      simp only [cnt]
      rw [if_neg (by omega)]
      omega
    · rw [List.filter_cons_of_pos (by simpa using hn), List.length_cons, ih]
      simp only [cnt]
      rw [if_pos (by omega)]
      omega
theorem members_ev (l : List Int) (hn : l.length ≤ 1048576) : impl_members.f l = some ((l.filter fun x => !decide (x = -1)).mergeSort fun x y => decide (x ≤ y)) := by
  unfold impl_members.f impl_removed.f
  rw [if_pos (by omega)]
  rfl
def ins (v : Int) : List Int → List Int
  | [] => [v]
  | y :: r => if y ≥ v then (if y > v then v :: y :: r else y :: r) else y :: ins v r
def mem : List Int → List Int → List Int
  | acc, [] => acc
  | acc, n :: r => if n ≥ 0 then mem (ins n acc) r else mem acc r
theorem ins_len (v : Int) : ∀ l : List Int, (ins v l).length ≤ l.length + 1
  | [] => by simp [ins]
  | y :: r => by
    have := ins_len v r
    simp only [ins]
    by_cases h : y ≥ v
    · rw [if_pos h]
      by_cases h2 : y > v
      · rw [if_pos h2]; simp
      · rw [if_neg h2]; simp
    · rw [if_neg h]; simp only [List.length_cons]; omega
theorem ins_perm (v : Int) : ∀ l : List Int, v ∉ l → (ins v l).Perm (v :: l)
  | [], _ => List.Perm.refl _
  | y :: r, h => by
    have hy : v ≠ y := fun e => h (by simp [e])
    have hr : v ∉ r := fun e => h (by simp [e])
    simp only [ins]
    by_cases h1 : y ≥ v
    · rw [if_pos h1, if_pos (by omega)]
    · rw [if_neg h1]
      exact ((ins_perm v r hr).cons y).trans (List.Perm.swap v y r)
theorem ins_sorted (v : Int) : ∀ l : List Int, l.Pairwise (· ≤ ·) → (ins v l).Pairwise (· ≤ ·)
  | [], _ => by simp [ins]
  | y :: r, h => by
    have h' := List.pairwise_cons.1 h
    simp only [ins]
    by_cases h1 : y ≥ v
    · rw [if_pos h1]
      by_cases h2 : y > v
      · rw [if_pos h2]
        refine List.pairwise_cons.2 ⟨fun a ha => ?_, h⟩
        rcases List.mem_cons.1 ha with rfl | ha
        · exact h1
        · have := h'.1 a ha; omega
      · rw [if_neg h2]; exact h
    · rw [if_neg h1]
      refine List.pairwise_cons.2 ⟨fun a ha => ?_, ins_sorted v r h'.2⟩
      have : ∀ (l : List Int), a ∈ ins v l → a = v ∨ a ∈ l := by
        intro l
        induction l with
        | nil => intro h; left; simpa [ins] using h
        | cons z t ih =>
          intro h
          simp only [ins] at h
          by_cases g1 : z ≥ v
          · rw [if_pos g1] at h
            by_cases g2 : z > v
            · rw [if_pos g2] at h
              rcases List.mem_cons.1 h with h | h
              · exact .inl h
              · exact .inr h
            · rw [if_neg g2] at h; exact .inr h
          · rw [if_neg g1] at h
            rcases List.mem_cons.1 h with h | h
            · exact .inr (by simp [h])
            · rcases ih h with h | h
              · exact .inl h
              · exact .inr (List.mem_cons_of_mem _ h)
      rcases this r ha with e | e
      · omega
      · exact h'.1 a e
theorem mem_spec : ∀ (l seen acc : List Int), actFrom seen l = true → acc.Pairwise (· ≤ ·) → (∀ x ∈ acc, x ∈ seen) →
    (mem acc l).Pairwise (· ≤ ·) ∧ (mem acc l).Perm (acc ++ l.filter fun x => !decide (x = -1))
  | [], _, acc, _, hs, _ => ⟨hs, by simp [mem]⟩
  | n :: r, seen, acc, h, hs, hsub => by
    simp only [actFrom, Bool.and_eq_true] at h
    have h1 := of_decide_eq_true h.1
    simp only [mem]
    by_cases h0 : n ≥ 0
    · rw [if_pos h0, List.filter_cons_of_pos (by simp; omega)]
      have hn : n ∉ acc := fun e => by
        have := hsub n e
        have h2 := h.2.1
        simp [this] at h2
        omega
      have ih := mem_spec r (seen ++ [n]) (ins n acc) h.2.2 (ins_sorted n acc hs) (fun x hx => by
        have := (ins_perm n acc hn).mem_iff.1 hx
        rcases List.mem_cons.1 this with e | e
        · simp [e]
        · simp [hsub x e])
      refine ⟨ih.1, ih.2.trans ?_⟩
      exact ((ins_perm n acc hn).append_right _).trans (by simpa using List.perm_middle.symm)
    · rw [if_neg h0, List.filter_cons_of_neg (by simp; omega)]
      exact mem_spec r (seen ++ [n]) acc h.2.2 hs (fun x hx => by simp [hsub x hx])
theorem mem_members (l : List Int) (h : actFrom [] l = true) : (l.filter fun x => !decide (x = -1)).mergeSort (fun x y => decide (x ≤ y)) = mem [] l := by
  have hm := mem_spec l [] [] h List.Pairwise.nil (by simp)
  refine List.Perm.eq_of_pairwise (le := fun a b : Int => a ≤ b) (fun a b _ _ h1 h2 => Int.le_antisymm h1 h2) ?_ hm.1 ?_
  · have := List.pairwise_mergeSort (le := fun x y : Int => decide (x ≤ y)) (by simp; intro a b c; omega) (by simp; intro a b; omega) (l.filter fun x => !decide (x = -1))
    simpa using this
  · exact (List.mergeSort_perm _ _).trans (by simpa using hm.2.symm)
/-- Every element of a list lies above the one before it. -/
def chn : List Int → Bool
  | [] => true
  | [_] => true
  | x :: y :: r => decide (x < y) && chn (y :: r)
theorem chn_pairwise : ∀ l : List Int, chn l = true → l.Pairwise (· < ·)
  | [], _ => List.Pairwise.nil
  | [x], _ => by simp
  | x :: y :: r, h => by
    simp only [chn, Bool.and_eq_true] at h
    have ih := chn_pairwise (y :: r) h.2
    have hxy : x < y := of_decide_eq_true h.1
    refine List.pairwise_cons.2 ⟨fun a ha => ?_, ih⟩
    rcases List.mem_cons.1 ha with rfl | ha
    · exact hxy
    · have := (List.pairwise_cons.1 ih).1 a ha; omega
def inR (l : List Int) : Bool := l.all fun n => decide (0 ≤ n ∧ n ≤ 15)
theorem chn_step {l : List Int} {j : Nat} (h : j + 1 < l.length) : chn (l.drop j) = (decide (l[j] < l[j + 1]) && chn (l.drop (j + 1))) := by
  rw [drop_at (show j < l.length by omega), drop_at h]
  rfl
theorem chn_end {l : List Int} {j : Nat} (h : l.length ≤ j + 1) : chn (l.drop j) = true := by
  have hl : (l.drop j).length ≤ 1 := by rw [List.length_drop]; omega
  match hm : l.drop j with
  | [] => rfl
  | [x] => rfl
  | x :: y :: r => rw [hm] at hl; simp at hl
theorem wpred {j : Nat} (h : j ≤ 1048576) : wrap64 (((j + 1 : Nat) : Int) - 1) = (j : Int) := by unfold wrap64; omega
theorem incr_loop (l : List Int) (hn : l.length ≤ 1048576) : ∀ (d j : Nat), l.length ≤ j + 1 + d → j ≤ l.length →
    Ev (fun k => impl_increasing.l0 k l ((j + 1 : Nat) : Int)) (chn (l.drop j)) := by
  intro d
  induction d with
  | zero =>
    intro j h hj
    apply evsucc
    simp only [impl_increasing.l0]
    exact evn (by omega) (evc fun _ => by rw [chn_end (by omega)])
  | succ d ih =>
    intro j h hj
    apply evsucc
    simp only [impl_increasing.l0]
    by_cases h1 : j + 1 < l.length
    · refine evp (by omega) (evp (by omega) ?_)
      rw [wpred (by omega), wsucc h1 (by omega), rd_at h1, rd_at (show j < l.length by omega), chn_step h1]
      refine evp (by omega) (evp (by omega) ?_)
      by_cases h2 : l[j + 1] ≤ l[j]
      · exact evp h2 (evc fun _ => by rw [decide_eq_false (by omega)]; rfl)
      · refine evn h2 ?_
        rw [decide_eq_true (by omega), Bool.true_and]
        exact ih (j + 1) (by omega) (by omega)
    · exact evn (by omega) (evc fun _ => by rw [chn_end (by omega)])
theorem incr_ev (l : List Int) (hn : l.length ≤ 1048576) : Ev (fun k => impl_increasing.f k l) (chn l) := by
  have := incr_loop l hn l.length 0 (by omega) (by omega)
  simpa [impl_increasing.f] using this
theorem rises_loop (l : List Int) (hn : l.length ≤ 1048576) : ∀ (d j : Nat), j + 1 + d = l.length →
    Ev (fun k => spec_l00Rises.l0 k l 0 15 ((j + 1 : Nat) : Int)) (inR (l.drop (j + 1)) && chn (l.drop j)) := by
  intro d
  induction d with
  | zero =>
    intro j h
    apply evsucc
    simp only [spec_l00Rises.l0]
    refine evn (by omega) (evc fun _ => ?_)
    rw [chn_end (by omega), List.drop_of_length_le (by omega)]
    rfl
  | succ d ih =>
    intro j h
    have h1 : j + 1 < l.length := by omega
    apply evsucc
    simp only [spec_l00Rises.l0]
    refine evp (by omega) (evp (by omega) (evk (l00In_eq _ _ _) ?_))
    rw [wpred (by omega), wsucc h1 (by omega), rd_at h1, rd_at (show j < l.length by omega), chn_step h1, drop_at h1]
    by_cases hr : 0 ≤ l[j + 1] ∧ l[j + 1] ≤ 15
    · refine evp (by simpa using hr) (evp (by omega) (evp (by omega) (evp (by omega) ?_)))
      by_cases h2 : l[j] ≥ l[j + 1]
      · exact evp h2 (evc fun _ => by rw [decide_eq_false (by omega), Bool.false_and, Bool.and_false])
      · refine evn h2 ?_
        rw [decide_eq_true (show l[j] < l[j + 1] by omega), Bool.true_and]
        have := ih (j + 1) (by omega)
        rw [drop_at h1] at this
        simp only [inR, List.all_cons, decide_eq_true hr, Bool.true_and] at this ⊢
        exact this
    · exact evn (by simpa using hr) (evc fun _ => by simp only [inR, List.all_cons, decide_eq_false hr, Bool.false_and])
theorem rises_ev (l : List Int) (hn : l.length ≤ 1048576) : Ev (fun k => spec_l00Rises.f k l 0 15) (inR l && chn l) := by
  unfold spec_l00Rises.f
  apply evsucc
  simp only [spec_l00Rises.l0]
  cases l with
  | nil => exact evn (by simp) (evc fun _ => rfl)
  | cons x r =>
    refine evp (by rw [List.length_cons]; omega) (evp (by omega) (evk (l00In_eq _ _ _) ?_))
    have hx : rd (x :: r) 0 = x := rfl
    rw [hx]
    by_cases hr : 0 ≤ x ∧ x ≤ 15
    · refine evp (by simpa using hr) (evn (by omega) ?_)
      have := rises_loop (x :: r) hn r.length 0 (by simp [Nat.add_comm])
      rw [show wrap64 (0 + 1) = ((0 + 1 : Nat) : Int) by unfold wrap64; omega]
      simp only [inR, List.all_cons, decide_eq_true hr, Bool.true_and, List.drop_succ_cons, List.drop_zero] at this ⊢
      exact this
    · exact evn (by simpa using hr) (evc fun _ => by simp only [inR, List.all_cons, decide_eq_false hr, Bool.false_and])
theorem eq_of_strict : ∀ (a b : List Int), a.Pairwise (· < ·) → b.Pairwise (· < ·) → (∀ x, x ∈ a ↔ x ∈ b) → a = b
  | [], [], _, _, _ => rfl
  | [], y :: b, _, _, h => absurd ((h y).2 (by simp)) (by simp)
  | x :: a, [], _, _, h => absurd ((h x).1 (by simp)) (by simp)
  | x :: a, y :: b, ha, hb, h => by
    have ha' := List.pairwise_cons.1 ha
    have hb' := List.pairwise_cons.1 hb
    have e : x = y := by
      rcases List.mem_cons.1 ((h x).1 (by simp)) with e | e
      · exact e
      · rcases List.mem_cons.1 ((h y).2 (by simp)) with e2 | e2
        · exact e2.symm
        · have := hb'.1 x e
          have := ha'.1 y e2
          omega
    subst e
    rw [eq_of_strict a b ha'.2 hb'.2 (fun z => ⟨fun hz => by
      rcases List.mem_cons.1 ((h z).1 (List.mem_cons_of_mem _ hz)) with e | e
      · have := ha'.1 z hz; omega
      · exact e, fun hz => by
      rcases List.mem_cons.1 ((h z).2 (List.mem_cons_of_mem _ hz)) with e | e
      · have := hb'.1 z hz; omega
      · exact e⟩)]
theorem ins_mem (v x : Int) : ∀ l : List Int, x ∈ ins v l ↔ x = v ∨ x ∈ l
  | [] => by simp [ins]
  | y :: r => by
    have ih := ins_mem v x r
    simp only [ins]
    by_cases h1 : y ≥ v
    · rw [if_pos h1]
      by_cases h2 : y > v
      · rw [if_pos h2]; simp
      · rw [if_neg h2]
        have e : y = v := by omega
        subst e
        simp
    · rw [if_neg h1, List.mem_cons, ih, List.mem_cons]
      exact ⟨fun h => h.elim (fun e => .inr (.inl e)) (fun e => e.elim .inl (fun e => .inr (.inr e))), fun h => h.elim (fun e => .inr (.inl e)) (fun e => e.elim .inl (fun e => .inr (.inr e)))⟩
theorem ins_strict (v : Int) : ∀ l : List Int, l.Pairwise (· < ·) → (ins v l).Pairwise (· < ·)
  | [], _ => by simp [ins]
  | y :: r, h => by
    have h' := List.pairwise_cons.1 h
    simp only [ins]
    by_cases h1 : y ≥ v
    · rw [if_pos h1]
      by_cases h2 : y > v
      · rw [if_pos h2]
        refine List.pairwise_cons.2 ⟨fun a ha => ?_, h⟩
        rcases List.mem_cons.1 ha with rfl | ha
        · exact h2
        · have := h'.1 a ha; omega
      · rw [if_neg h2]; exact h
    · rw [if_neg h1]
      refine List.pairwise_cons.2 ⟨fun a ha => ?_, ins_strict v r h'.2⟩
      rcases (ins_mem v a r).1 ha with e | e
      · omega
      · exact h'.1 a e
theorem mem_strict : ∀ (l acc : List Int), acc.Pairwise (· < ·) → (mem acc l).Pairwise (· < ·)
  | [], _, h => h
  | n :: r, acc, h => by
    simp only [mem]
    by_cases h0 : n ≥ 0
    · rw [if_pos h0]; exact mem_strict r _ (ins_strict n acc h)
    · rw [if_neg h0]; exact mem_strict r _ h
theorem mem_mem (x : Int) : ∀ (l acc : List Int), x ∈ mem acc l ↔ x ∈ acc ∨ (x ∈ l ∧ x ≥ 0)
  | [], acc => by simp [mem]
  | n :: r, acc => by
    simp only [mem]
    by_cases h0 : n ≥ 0
    · rw [if_pos h0, mem_mem x r, ins_mem, List.mem_cons]
      constructor
      · rintro ((rfl | h) | h)
        · exact .inr ⟨.inl rfl, h0⟩
        · exact .inl h
        · exact .inr ⟨.inr h.1, h.2⟩
      · rintro (h | ⟨rfl | h, h2⟩)
        · exact .inl (.inr h)
        · exact .inl (.inl rfl)
        · exact .inr ⟨h, h2⟩
    · rw [if_neg h0, mem_mem x r, List.mem_cons]
      constructor
      · rintro (h | h)
        · exact .inl h
        · exact .inr ⟨.inr h.1, h.2⟩
      · rintro (h | ⟨rfl | h, h2⟩)
        · exact .inl h
        · exact absurd h2 h0
        · exact .inr ⟨h, h2⟩
/-- The sorted nodes that were heard are the heard ones that are nodes. -/
theorem heard_eq (l h : List Int) (hc : h.Pairwise (· < ·)) (h0 : ∀ x ∈ h, 0 ≤ x) : (mem [] l).filter (fun x => decide (x ∈ h)) = h.filter fun x => decide (x ∈ l) := by
  refine eq_of_strict _ _ ((mem_strict l [] List.Pairwise.nil).sublist List.filter_sublist) (hc.sublist List.filter_sublist) fun x => ?_
  rw [List.mem_filter, List.mem_filter, mem_mem]
  simp only [List.not_mem_nil, false_or, decide_eq_true_eq]
  exact ⟨fun ⟨⟨a, _⟩, b⟩ => ⟨b, a⟩, fun ⟨a, b⟩ => ⟨⟨b, h0 x a⟩, a⟩⟩
theorem place_loop (l : List Int) (v : Int) (hn : l.length ≤ 140737488351232) : ∀ (d i : Nat), i + d = l.length → Ev (fun k => spec_l12Place.l0 k l v (i : Int)) (if v < 0 then -1 else idxFrom (l.drop i) i v) := by
  intro d
  induction d with
  | zero =>
    intro i h
    apply evsucc
    simp only [spec_l12Place.l0]
    refine evn (by omega) (evc fun _ => ?_)
    rw [List.drop_of_length_le (by omega)]
    simp [idxFrom]
  | succ d ih =>
    intro i h
    apply evsucc
    simp only [spec_l12Place.l0]
    have hi : i < l.length := by omega
    have hs := ih (i + 1) (by omega)
    rw [wsucc hi hn, rd_at hi, drop_at hi]
    refine evp (by omega) ?_
    by_cases hv : v ≥ 0
    · have hv' : ¬ v < 0 := by omega
      refine evp hv (evp (by omega) ?_)
      rw [if_neg hv'] at hs ⊢
      simp only [idxFrom]
      by_cases e : l[i] = v
      · rw [if_pos e.symm]
        exact evp e (evc fun _ => rfl)
      · rw [if_neg (fun h => e h.symm)]
        exact evn e hs
    · have hv' : v < 0 := by omega
      rw [if_pos hv'] at hs ⊢
      exact evn hv hs
theorem place_ev (l : List Int) (v : Int) (hn : l.length ≤ 140737488351232) : Ev (fun k => spec_l12Place.f k l v) (if v < 0 then -1 else idxFrom l 0 v) := by
  have := place_loop l v hn l.length 0 (by omega)
  simpa [spec_l12Place.f] using this
def sq : Int → Nat → List Int
  | _, 0 => []
  | v, n + 1 => v :: sq (v + 1) n
theorem mark_loop : ∀ (d i : Nat) (v : Int) (x : List Int), i + d = x.length → x.length ≤ 1048576 → 0 ≤ v → v + d ≤ 4611686018427387904 →
    ∃ y : List Int, Ev (fun k => laws_markInt64S.l0 k x v (i : Int)) (v + d, y) ∧ y.length = x.length ∧ y.take i = x.take i ∧ y.drop i = sq v d := by
  intro d
  induction d with
  | zero =>
    intro i v x h hx hv hb
    refine ⟨x, ?_, rfl, rfl, by rw [List.drop_of_length_le (by omega)]; rfl⟩
    apply evsucc
    simp only [laws_markInt64S.l0]
    exact evn (by omega) (evc fun _ => by simp)
  | succ d ih =>
    intro i v x h hx hv hb
    have hi : i < x.length := by omega
    obtain ⟨y, hy, hl, ht, hd⟩ := ih (i + 1) (v + 1) (x.set i v) (by simp; omega) (by simp; omega) (by omega) (by omega)
    have hiy : i < y.length := by rw [hl]; simpa using hi
    have hyi : y[i] = v := by
      have h1 : (y.take (i + 1))[i]? = ((x.set i v).take (i + 1))[i]? := by rw [ht]
      rw [List.getElem?_take_of_lt (by omega), List.getElem?_take_of_lt (by omega)] at h1
      simpa [List.getElem?_eq_getElem hiy, hi] using h1
    refine ⟨y, ?_, by simpa using hl, ?_, ?_⟩
    · apply evsucc
      simp only [laws_markInt64S.l0]
      refine evp (by omega) (evp (by omega) ?_)
      rw [wsucc hi (by omega), Int.toNat_natCast, show wrap64 (v + 1) = v + 1 by unfold wrap64; omega]
      have e : v + ((d + 1 : Nat) : Int) = v + 1 + (d : Int) := by omega
      rw [e]
      exact hy
    · have h1 := congrArg (List.take i) ht
      rw [List.take_take, List.take_take, Nat.min_eq_left (by omega), List.take_set_of_le (by omega)] at h1
      exact h1
    · rw [drop_at hiy, hyi, hd]
      rfl
theorem mark_ev (x : List Int) (hx : x.length ≤ 1048576) : ∃ y : List Int, Ev (fun k => laws_markInt64S.f k x 1) (1 + (x.length : Int), y) ∧ y = sq 1 x.length := by
  obtain ⟨y, hy, _, _, hd⟩ := mark_loop x.length 0 1 x (by omega) hx (by omega) (by omega)
  exact ⟨y, by simpa [laws_markInt64S.f] using hy, by simpa using hd⟩
theorem held_loop (x : List Int) (hx : x.length ≤ 1048576) : ∀ (d i : Nat) (v : Int), i + d = x.length → 0 ≤ v → v + d ≤ 4611686018427387904 → x.drop i = sq v d →
    Ev (fun k => laws_heldInt64S.l0 k x v (i : Int)) (v + d) := by
  intro d
  induction d with
  | zero =>
    intro i v h hv hb _
    apply evsucc
    simp only [laws_heldInt64S.l0]
    exact evn (by omega) (evc fun _ => by simp)
  | succ d ih =>
    intro i v h hv hb hd
    have hi : i < x.length := by omega
    rw [drop_at hi] at hd
    simp only [sq, List.cons.injEq] at hd
    apply evsucc
    simp only [laws_heldInt64S.l0]
    refine evp (by omega) (evp (by omega) ?_)
    rw [rd_at hi, wsucc hi (by omega), show wrap64 (v + 1) = v + 1 by unfold wrap64; omega]
    refine evp hd.1 ?_
    have e : v + ((d + 1 : Nat) : Int) = v + 1 + (d : Int) := by omega
    rw [e]
    exact ih (i + 1) (v + 1) (by omega) (by omega) (by omega) hd.2
theorem sq_len : ∀ (n : Nat) (v : Int), (sq v n).length = n
  | 0, _ => rfl
  | n + 1, v => by simp [sq, sq_len n]
theorem held_ev (n : Nat) (hn : n ≤ 1048576) : Ev (fun k => laws_heldInt64S.f k (sq 1 n) 1) (1 + (n : Int)) := by
  have := held_loop (sq 1 n) (by rw [sq_len]; exact hn) n 0 1 (by rw [sq_len]; omega) (by omega) (by omega) (by simp)
  simpa [laws_heldInt64S.f] using this
theorem szInts_eq (l : List Int) (hl : l.length ≤ 140737488351232) : laws_szInt64S.f l 1048576 = some (if l.length ≤ 1048576 then 1048576 - (l.length : Int) else -1) := by
  unfold laws_szInt64S.f
  have hw : wrap64 (1048576 - (l.length : Int)) = 1048576 - (l.length : Int) := by unfold wrap64; omega
  rw [hw]
  by_cases h : l.length ≤ 1048576
  · rw [if_neg (by omega), if_pos h]
  · rw [if_pos (by omega), if_neg h]
theorem szInterval_eq (a0 a1 : Int) (l : List Int) (b : Bool) (hl : l.length ≤ 140737488351232) : laws_szInterval.f a0 a1 l b 1048576 = some (if l.length ≤ 1048576 then 1048576 - (l.length : Int) else -1) := by
  unfold laws_szInterval.f
  rw [szInts_eq l hl]
  simp only [Option.bind_some]
  by_cases h : l.length ≤ 1048576
  · rw [if_pos h, if_neg (by omega)]
  · rw [if_neg h, if_pos (by omega)]
theorem toInterval_ev (a0 a1 : Int) (l : List Int) (b : Bool) (hl : l.length ≤ 35184372088832) : Ev (fun k => laws_toInterval.f k a0 a1 l b) (a0, a1, l, b) := by
  unfold laws_toInterval.f
  exact evb (toInts_ev l hl) (evc fun _ => rfl)
theorem eqInterval_ev (a0 a1 : Int) (l : List Int) (b : Bool) (hl : l.length ≤ 140737488351232) : Ev (fun k => laws_eqInterval.f k a0 a1 l b a0 a1 l b) true := by
  unfold laws_eqInterval.f
  exact evp rfl (evp rfl (evb (eqInts_ev l hl) (evp rfl (evn (by simp) (evc fun _ => rfl)))))
theorem heardSpec_loop (a0 a1 : Int) (l : List Int) (b : Bool) (h : List Int) (hl : l.length ≤ 140737488351232) (hh : h.length ≤ 1048576) (h0 : ∀ x ∈ h, 0 ≤ x) : ∀ (d i : Nat) (acc : List Int), i + d = h.length → acc.length ≤ i →
    Ev (fun k => spec_l13Heard.l0 k h acc (i : Int) a0 a1 l b) (acc ++ (h.drop i).filter fun x => decide (x ∈ l)) := by
  intro d
  induction d with
  | zero =>
    intro i acc hd ha
    apply evsucc
    simp only [spec_l13Heard.l0]
    refine evn (by omega) (evc fun _ => ?_)
    rw [List.drop_of_length_le (by omega)]
    simp
  | succ d ih =>
    intro i acc hd ha
    have hi : i < h.length := by omega
    apply evsucc
    simp only [spec_l13Heard.l0]
    refine evp (by omega) (evp (by omega) ?_)
    rw [wsucc hi (by omega), rd_at hi, drop_at hi]
    refine evb (place_ev l h[i] hl) ?_
    have hx : ¬ h[i] < 0 := by have := h0 _ (List.getElem_mem hi); omega
    rw [if_neg hx]
    by_cases hm : h[i] ∈ l
    · refine evp ((idxFrom_nonneg l 0 h[i]).2 hm) (evp (by omega) ?_)
      have := ih (i + 1) (acc ++ [h[i]]) (by omega) (by simp; omega)
      rw [List.filter_cons_of_pos (by simpa using hm)]
      simpa using this
    · refine evn (fun g => hm ((idxFrom_nonneg l 0 h[i]).1 g)) ?_
      rw [List.filter_cons_of_neg (by simpa using hm)]
      exact ih (i + 1) acc (by omega) (by omega)
theorem inR_mem {h : List Int} (hr : inR h = true) : ∀ x ∈ h, 0 ≤ x := by
  intro x hx
  have := List.all_eq_true.1 hr x hx
  exact (of_decide_eq_true this).1
theorem heardSpecIn (a0 a1 : Int) (l : List Int) (b : Bool) (h : List Int) (hl : l.length ≤ 140737488351232) (hh : h.length ≤ 1048576) (hr : inR h = true) : Ev (fun k => spec_l13Heard.f k a0 a1 l b h) (h.filter fun x => decide (x ∈ l)) := by
  have := heardSpec_loop a0 a1 l b h hl hh (inR_mem hr) h.length 0 [] (by omega) (by simp)
  simpa [spec_l13Heard.f] using this
theorem nodes_ev (h : List Int) (hh : h.length ≤ 1048576) : Ev (fun k => spec_l13Nodes.f k h) (inR h && chn h) := by
  unfold spec_l13Nodes.f
  exact evb (rises_ev h hh) (evc fun _ => rfl)
theorem heardSpec (a0 a1 : Int) (l : List Int) (b : Bool) (h : List Int) (hl : l.length ≤ 1048576) (hh : h.length ≤ 1048576) :
    Ev (fun k => spec_HeardOf.f k a0 a1 l b h) (if (actB l && (inR h && chn h)) = true then h.filter (fun x => decide (x ∈ l)) else []) := by
  unfold spec_HeardOf.f
  refine evb (actSpec l (by omega)) ?_
  cases ha : actB l with
  | false => exact evn (by simp) (evc fun _ => by simp)
  | true =>
    refine evp rfl (evb (nodes_ev h hh) ?_)
    cases hq : (inR h && chn h) with
    | false => exact evn (by simp) (evc fun _ => by simp)
    | true =>
      have hr : inR h = true := by simp only [Bool.and_eq_true] at hq; exact hq.1
      refine evp rfl (evb (heardSpecIn a0 a1 l b h (by omega) hh hr) (evc fun _ => by simp))
theorem heardOk_ev (h : List Int) (hh : h.length ≤ 1048576) : Ev (fun k => impl_heardOk.f k h) (inR h && chn h) := by
  unfold impl_heardOk.f impl_outOk.f
  refine evb (evb (incr_ev h hh) ?_) (evc fun _ => rfl)
  have e : (!h.any fun n => !decide ((0 : Int) ≤ n ∧ n ≤ 15)) = inR h := by
    unfold inR
    rw [List.not_any_eq_all_not]
    simp
  cases hc : chn h with
  | true =>
    refine evp rfl (evk (a := inR h) (by unfold impl_allBetween.f; rw [e]) (evc fun _ => by simp))
  | false => exact evn (by simp) (evc fun _ => by simp)
theorem heardOf_eq (l h : List Int) (hl : l.length ≤ 1048576) (hh : h.length ≤ 1048576) (ha : actB l = true) (hr : inR h = true) (hc : chn h = true) : impl_heardOf.f l h = some (h.filter fun x => decide (x ∈ l)) := by
  unfold impl_heardOf.f
  have hf : actFrom [] l = true := by simp only [actB, Bool.and_eq_true] at ha; exact ha.2
  rw [if_pos (by omega), members_ev l hl, mem_members l hf]
  simp only [Option.map_some, Bool.not_not]
  rw [heard_eq l h (chn_pairwise h hc) (inR_mem hr)]
theorem heardImpl (a0 a1 : Int) (l : List Int) (b : Bool) (h : List Int) (hl : l.length ≤ 1048576) (hh : h.length ≤ 1048576) :
    Ev (fun k => impl_HeardOf.f k a0 a1 l b h) (if (actB l && (inR h && chn h)) = true then h.filter (fun x => decide (x ∈ l)) else []) := by
  unfold impl_HeardOf.f
  refine evb (actImpl l (by omega)) ?_
  cases ha : actB l with
  | false => exact evn (by simp) (evc fun _ => by simp)
  | true =>
    refine evp rfl (evb (heardOk_ev h hh) ?_)
    cases hq : (inR h && chn h) with
    | false => exact evn (by simp) (evc fun _ => by simp)
    | true =>
      simp only [Bool.and_eq_true] at hq
      exact evp rfl (evk (heardOf_eq l h hl hh ha hq.1 hq.2) (evc fun _ => by simp))
theorem FnExactHeardOf : Stmt.FnExactHeardOf.PureS := by
  intro a0 a1 l b h _ _ ⟨_, hl, _⟩ ⟨_, hh, _⟩
  apply ev_ex
  unfold laws_FnExactHeardOf.f
  by_cases g : (h.length : Int) > 1048576
  · exact evp g (evc fun _ => rfl)
  · refine evn g (evk (szInterval_eq a0 a1 l b (by omega)) ?_)
    by_cases g2 : l.length ≤ 1048576
    · rw [if_pos g2]
      refine evn (by omega) ?_
      have hto := toInterval_ev a0 a1 l b (by omega)
      have hto2 := toInts_ev h (by omega)
      obtain ⟨M, hM, hML⟩ : ∃ M : List Int, M = (if (actB l && (inR h && chn h)) = true then h.filter (fun x => decide (x ∈ l)) else []) ∧ M.length ≤ 1048576 := by
        refine ⟨_, rfl, ?_⟩
        split
        · have := List.length_filter_le (fun x => decide (x ∈ l)) h
          omega
        · simp
      have hs : Ev (fun k => spec_HeardOf.f k a0 a1 l b h) M := by rw [hM]; exact heardSpec a0 a1 l b h (by omega) (by omega)
      have hi : Ev (fun k => impl_HeardOf.f k a0 a1 l b h) M := by rw [hM]; exact heardImpl a0 a1 l b h (by omega) (by omega)
      clear hM
      obtain ⟨y, hy, _⟩ := mark_ev l (by omega)
      obtain ⟨y2, hy2, hyl, _, _⟩ := mark_loop h.length 0 (1 + (l.length : Int)) h (by omega) (by omega) (by omega) (by omega)
      obtain ⟨z, hz, rfl⟩ := mark_ev M hML
      have he := eqInts_ev M (by omega)
      have heh := eqInts_ev h (by omega)
      have hel := eqInterval_ev a0 a1 l b (by omega)
      have hj : Ev (fun k => laws_FnExactHeardOf.j0 k h M M (!true) a0 a1 l b) true := by
        apply evsucc
        simp only [laws_FnExactHeardOf.j0]
        refine evn (by simp) (evb hz (evb (held_ev _ hML) (evn (by omega) (evp rfl ?_))))
        exact evb hto (evb hto2 (evb hi (evb he (evp rfl (evb (held_ev _ hML) (evn (by omega) (evp rfl (evc fun _ => rfl))))))))
      refine evb hto (evb hto2 (evb hs (evb hto (evb hto2 (evb hi (evb he (evp rfl (evb hto (evb hel (evp rfl (evb hto2 (evb heh (evp rfl ?_)))))))))))))
      have hmi : Ev (fun k => laws_markInterval.f k a0 a1 l b 1) (1 + (l.length : Int), y) := by
        unfold laws_markInterval.f
        exact evb hy (evc fun _ => rfl)
      have hm2 : Ev (fun k => laws_markInt64S.f k h (1 + (l.length : Int))) (1 + (l.length : Int) + (h.length : Int), y2) := by simpa [laws_markInt64S.f] using hy2
      refine evb hmi (evb hm2 (evn (by simp; omega) (evb he hj)))
    · rw [if_neg g2]
      exact evp (by omega) (evc fun _ => rfl)
end Go.Proofs.Ytfeaokelfbjcdaa.Pure
