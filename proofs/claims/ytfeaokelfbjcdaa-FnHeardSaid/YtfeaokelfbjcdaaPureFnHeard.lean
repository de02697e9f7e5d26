/- HeardEnough over the drawn intervals: both sides agree, a node heard more takes nothing away, and fewer places asked take nothing away. The input: any two lists of bytes within the reach. -/
import Derived.Test.YtfeaokelfbjcdaaStmtFnHeard
set_option linter.unusedSimpArgs false
set_option linter.unusedVariables false
namespace Go.Proofs.Ytfeaokelfbjcdaa.Pure
open Go.RowKit Go.Proofs.Ytfeaokelfbjcdaa.MFnHeard Go.Proofs.YtfeaokelfbjcdaaW.PrintWords Go.Proofs.YtfeaokelfbjcdaaW.PrintLast
theorem evc {α : Type} {g : Nat → Option α} {r : α} (h : ∀ k, g k = some r) : Ev g r := ⟨0, fun k _ => h k⟩
theorem evsucc {α : Type} {g : Nat → Option α} {r : α} (h : Ev (fun k => g (k + 1)) r) : Ev g r := by
  obtain ⟨K, hK⟩ := h
  refine ⟨K + 1, fun k hk => ?_⟩
  obtain ⟨k, rfl⟩ : ∃ m, k = m + 1 := ⟨k - 1, by omega⟩
  exact hK k (by omega)
theorem evp {α : Type} {c : Prop} [Decidable c] {g f : Nat → Option α} {r : α} (hc : c) (h : Ev g r) : Ev (fun k => if c then g k else f k) r := by
  simp only [if_pos hc]; exact h
theorem evn {α : Type} {c : Prop} [Decidable c] {g f : Nat → Option α} {r : α} (hc : ¬ c) (h : Ev f r) : Ev (fun k => if c then g k else f k) r := by
  simp only [if_neg hc]; exact h
theorem evb {α β : Type} {g : Nat → Option α} {f : Nat → α → Option β} {a : α} {r : β} (h : Ev g a) (k : Ev (fun n => f n a) r) : Ev (fun n => (g n).bind (f n)) r := Ev.bind h k
theorem evk {α β : Type} {g : Option α} {f : Nat → α → Option β} {a : α} {r : β} (h : g = some a) (k : Ev (fun n => f n a) r) : Ev (fun n => g.bind (f n)) r := by subst h; exact k
theorem ev_ex {α : Type} {g : Nat → Option α} {r : α} (h : Ev g r) : ∃ k, g k = some r := by obtain ⟨K, hK⟩ := h; exact ⟨K, hK K (Nat.le_refl _)⟩
theorem wsucc {i n : Nat} (h : i < n) (hn : n ≤ 140737488351232) : wrap64 ((i : Int) + 1) = ((i + 1 : Nat) : Int) := by unfold wrap64; omega
theorem rd_at {l : List Int} {i : Nat} (h : i < l.length) : rd l (i : Int) = l[i] := by
  simp [rd, List.getD_eq_getElem?_getD, List.getElem?_eq_getElem h]
theorem drop_at {α : Type} {l : List α} {i : Nat} (h : i < l.length) : l.drop i = l[i] :: l.drop (i + 1) := List.drop_eq_getElem_cons h
theorem take_at {α : Type} {l : List α} {i : Nat} (h : i < l.length) : l.take (i + 1) = l.take i ++ [l[i]] := by
  rw [List.take_succ_eq_append_getElem h]
theorem between_eq (a b c : Int) : impl_between.f a b c = some (decide (b ≤ a ∧ a ≤ c)) := by
  unfold impl_between.f
  by_cases h : a ≥ b
  · have h' : b ≤ a := h
    simp [h, h']
  · have h' : ¬ b ≤ a := h
    simp [h, h']
theorem l00In_eq (a b c : Int) : spec_l00In.f a b c = some (decide (b ≤ a ∧ a ≤ c)) := by
  unfold spec_l00In.f
  by_cases h : a ≥ b
  · have h' : b ≤ a := h
    simp [h, h']
  · have h' : ¬ b ≤ a := h
    simp [h, h']
theorem has_loop (l : List Int) (v : Int) (hn : l.length ≤ 140737488351232) : ∀ (d i : Nat), i + d = l.length → Ev (fun k => spec_l00Has.l0 k l v (i : Int)) (decide (v ∈ l.drop i)) := by
  intro d
  induction d with
  | zero =>
    intro i h
    apply evsucc
    simp only [spec_l00Has.l0]
    refine evn (by omega) (evc fun _ => ?_)
    rw [List.drop_of_length_le (by omega)]
    simp
  | succ d ih =>
    intro i h
    apply evsucc
    simp only [spec_l00Has.l0]
    refine evp (by omega) (evp (by omega) ?_)
    have hi : i < l.length := by omega
    rw [wsucc hi hn, rd_at hi, drop_at hi]
    by_cases e : l[i] = v
    · refine evp e (evc fun _ => ?_)
      simp [e]
    · refine evn e ?_
      have e' : ¬ v = l[i] := fun h => e h.symm
      have e2 : decide (v ∈ l[i] :: l.drop (i + 1)) = decide (v ∈ l.drop (i + 1)) := decide_eq_decide.2 (by rw [List.mem_cons]; exact ⟨fun h => h.resolve_left e', Or.inr⟩)
      rw [e2]
      exact ih (i + 1) (by omega)
theorem has_ev (l : List Int) (v : Int) (hn : l.length ≤ 140737488351232) : Ev (fun k => spec_l00Has.f k l v) (decide (v ∈ l)) := by
  have := has_loop l v hn l.length 0 (by omega)
  simpa [spec_l00Has.f] using this
/-- Where a value stands first from i on, or -1. -/
def idxFrom : List Int → Nat → Int → Int
  | [], _, _ => -1
  | x :: r, i, v => if v = x then (i : Int) else idxFrom r (i + 1) v
theorem idxFrom_nonneg (l : List Int) (i : Nat) (v : Int) : idxFrom l i v ≥ 0 ↔ v ∈ l := by
  induction l generalizing i with
  | nil => simp [idxFrom]
  | cons x r ih =>
    simp only [idxFrom]
    by_cases e : v = x
    · simp [e]
    · rw [if_neg e, ih, List.mem_cons]
      exact ⟨Or.inr, fun h => h.resolve_left e⟩
theorem index_loop (l : List Int) (v : Int) (hn : l.length ≤ 140737488351232) : ∀ (d i : Nat), i + d = l.length → Ev (fun k => slices_Index_int64_int64.l0 k l v (l.length : Int) (i : Int)) (idxFrom (l.drop i) i v) := by
  intro d
  induction d with
  | zero =>
    intro i h
    apply evsucc
    simp only [slices_Index_int64_int64.l0]
    refine evn (by omega) (evc fun _ => ?_)
    rw [List.drop_of_length_le (by omega)]
    rfl
  | succ d ih =>
    intro i h
    apply evsucc
    simp only [slices_Index_int64_int64.l0]
    refine evp (by omega) (evp (by omega) (evp (by omega) ?_))
    have hi : i < l.length := by omega
    rw [wsucc hi hn, rd_at hi, drop_at hi]
    simp only [idxFrom]
    by_cases e : v = l[i]
    · rw [if_pos e]
      exact evp e (evc fun _ => rfl)
    · rw [if_neg e]
      exact evn e (ih (i + 1) (by omega))
theorem index_ev (l : List Int) (v : Int) (hn : l.length ≤ 140737488351232) : Ev (fun k => slices_Index_int64_int64.f k l v) (idxFrom l 0 v) := by
  have := index_loop l v hn l.length 0 (by omega)
  simpa [slices_Index_int64_int64.f] using this
theorem contains_ev (l : List Int) (v : Int) (hn : l.length ≤ 140737488351232) : Ev (fun k => slices_Contains_int64_int64.f k l v) (decide (v ∈ l)) := by
  unfold slices_Contains_int64_int64.f
  refine evb (index_ev l v hn) (evc fun _ => ?_)
  rw [decide_eq_decide.2 (idxFrom_nonneg l 0 v)]
/-- The elements behind those that were seen are nodes or holes, and no node comes twice. -/
def actFrom : List Int → List Int → Bool
  | _, [] => true
  | seen, n :: r => decide (-1 ≤ n ∧ n ≤ 15) && (!(decide (0 ≤ n) && decide (n ∈ seen)) && actFrom (seen ++ [n]) r)
def actB (l : List Int) : Bool := decide ((1 : Int) ≤ (l.length : Int) ∧ (l.length : Int) ≤ 7) && actFrom [] l
theorem actImpl_loop (l : List Int) (hn : l.length ≤ 140737488351232) : ∀ (d i : Nat), i + d = l.length →
    Ev (fun k => impl_ActingOk.l0 k l l (l.length : Int) (i : Int)) (actFrom (l.take i) (l.drop i) && decide ((1 : Int) ≤ (l.length : Int) ∧ (l.length : Int) ≤ 7)) := by
  intro d
  induction d with
  | zero =>
    intro i h
    apply evsucc
    simp only [impl_ActingOk.l0]
    refine evn (by omega) (evk (between_eq _ _ _) (evc fun _ => ?_))
    rw [List.drop_of_length_le (by omega)]
    simp [actFrom]
  | succ d ih =>
    intro i h
    apply evsucc
    simp only [impl_ActingOk.l0]
    refine evp (by omega) (evp (by omega) (evp (by omega) (evk (between_eq _ _ _) ?_)))
    have hi : i < l.length := by omega
    rw [wsucc hi hn, rd_at hi, drop_at hi, Int.toNat_natCast]
    have hs := ih (i + 1) (by omega)
    rw [take_at hi] at hs
    simp only [actFrom]
    by_cases hr : -1 ≤ l[i] ∧ l[i] ≤ 15
    · refine evp (by simpa using hr) ?_
      rw [decide_eq_true hr, Bool.true_and]
      by_cases h0 : l[i] ≥ 0
      · refine evp h0 (evp (by omega) (evb (contains_ev (l.take i) l[i] (by rw [List.length_take]; omega)) ?_))
        have h0' : (0 : Int) ≤ l[i] := h0
        by_cases hm : l[i] ∈ l.take i
        · exact evp (by simpa using hm) (evc fun _ => by simp [h0', hm])
        · refine evn (by simpa using hm) ?_
          simpa [hm] using hs
      · refine evn h0 ?_
        have h0' : ¬ (0 : Int) ≤ l[i] := h0
        simpa [h0'] using hs
    · exact evn (by simpa using hr) (evc fun _ => by rw [decide_eq_false hr]; rfl)
theorem actImpl (l : List Int) (hn : l.length ≤ 140737488351232) : Ev (fun k => impl_ActingOk.f k l) (actB l) := by
  have := actImpl_loop l hn l.length 0 (by omega)
  rw [Bool.and_comm] at this
  simpa [impl_ActingOk.f, actB] using this
theorem actSpec_loop (l : List Int) (hn : l.length ≤ 140737488351232) : ∀ (d i : Nat), i + d = l.length →
    Ev (fun k => spec_l12Ok.l0 k l (i : Int)) (actFrom (l.take i) (l.drop i)) := by
  intro d
  induction d with
  | zero =>
    intro i h
    apply evsucc
    simp only [spec_l12Ok.l0]
    refine evn (by omega) (evc fun _ => ?_)
    rw [List.drop_of_length_le (by omega)]
    simp [actFrom]
  | succ d ih =>
    intro i h
    apply evsucc
    simp only [spec_l12Ok.l0]
    refine evp (by omega) (evp (by omega) (evk (l00In_eq _ _ _) ?_))
    have hi : i < l.length := by omega
    rw [wsucc hi hn, rd_at hi, drop_at hi, Int.toNat_natCast]
    have hs := ih (i + 1) (by omega)
    rw [take_at hi] at hs
    simp only [actFrom]
    by_cases hr : -1 ≤ l[i] ∧ l[i] ≤ 15
    · refine evp (by simpa using hr) ?_
      rw [decide_eq_true hr, Bool.true_and]
      by_cases h0 : l[i] ≥ 0
      · refine evp h0 (evp (by omega) (evb (has_ev (l.take i) l[i] (by rw [List.length_take]; omega)) ?_))
        have h0' : (0 : Int) ≤ l[i] := h0
        by_cases hm : l[i] ∈ l.take i
        · exact evp (by simpa using hm) (evc fun _ => by simp [h0', hm])
        · refine evn (by simpa using hm) ?_
          simpa [hm] using hs
      · refine evn h0 ?_
        have h0' : ¬ (0 : Int) ≤ l[i] := h0
        simpa [h0'] using hs
    · exact evn (by simpa using hr) (evc fun _ => by rw [decide_eq_false hr]; rfl)
theorem actSpec (l : List Int) (hn : l.length ≤ 140737488351232) : Ev (fun k => spec_l12Ok.f k l) (actB l) := by
  have hs := actSpec_loop l hn l.length 0 (by omega)
  unfold spec_l12Ok.f
  by_cases h1 : (l.length : Int) < 1
  · refine evp h1 (evsucc ?_)
    have h1' : ¬ (1 : Int) ≤ (l.length : Int) := by omega
    simp only [spec_l12Ok.j0]
    exact evp (by simp) (evc fun _ => by simp [actB, h1'])
  · refine evn h1 (evsucc ?_)
    have h1' : (1 : Int) ≤ (l.length : Int) := by omega
    simp only [spec_l12Ok.j0]
    by_cases h2 : (l.length : Int) > 7
    · have h2' : ¬ (l.length : Int) ≤ 7 := by omega
      exact evp (by simpa using h2) (evc fun _ => by simp [actB, h2'])
    · have h2' : (l.length : Int) ≤ 7 := by omega
      refine evn (by simpa using h2) ?_
      simpa [actB, h1', h2'] using hs
/-- How many nodes. -/
def cnt : List Int → Nat
  | [] => 0
  | n :: r => (if n ≥ 0 then 1 else 0) + cnt r
theorem cnt_filter : ∀ (l seen : List Int), actFrom seen l = true → (l.filter fun x => !decide (x = -1)).length = cnt l
  | [], _, _ => rfl
  | n :: r, seen, h => by
    simp only [actFrom, Bool.and_eq_true] at h
    have h1 := of_decide_eq_true h.1
    have ih := cnt_filter r _ h.2.2
    by_cases hn : n = -1
    · subst hn
      rw [List.filter_cons_of_neg (by simp), ih]
      simp only [cnt]
      rw [if_neg (by omega)]
      omega
    · rw [List.filter_cons_of_pos (by simpa using hn), List.length_cons, ih]
      simp only [cnt]
      rw [if_pos (by omega)]
      omega
theorem members_ev (l : List Int) (hn : l.length ≤ 1048576) : impl_members.f l = some ((l.filter fun x => !decide (x = -1)).mergeSort fun x y => decide (x ≤ y)) := by
  unfold impl_members.f impl_removed.f
  rw [if_pos (by omega)]
  rfl
def ins (v : Int) : List Int → List Int
  | [] => [v]
  | y :: r => if y ≥ v then (if y > v then v :: y :: r else y :: r) else y :: ins v r
def mem : List Int → List Int → List Int
  | acc, [] => acc
  | acc, n :: r => if n ≥ 0 then mem (ins n acc) r else mem acc r
theorem ins_len (v : Int) : ∀ l : List Int, (ins v l).length ≤ l.length + 1
  | [] => by simp [ins]
  | y :: r => by
    have := ins_len v r
    simp only [ins]
    by_cases h : y ≥ v
    · rw [if_pos h]
      by_cases h2 : y > v
      · rw [if_pos h2]; simp
      · rw [if_neg h2]; simp
    · rw [if_neg h]; simp only [List.length_cons]; omega
theorem ins_perm (v : Int) : ∀ l : List Int, v ∉ l → (ins v l).Perm (v :: l)
  | [], _ => List.Perm.refl _
  | y :: r, h => by
    have hy : v ≠ y := fun e => h (by simp [e])
    have hr : v ∉ r := fun e => h (by simp [e])
    simp only [ins]
    by_cases h1 : y ≥ v
    · rw [if_pos h1, if_pos (by omega)]
    · rw [if_neg h1]
      exact ((ins_perm v r hr).cons y).trans (List.Perm.swap v y r)
theorem ins_sorted (v : Int) : ∀ l : List Int, l.Pairwise (· ≤ ·) → (ins v l).Pairwise (· ≤ ·)
  | [], _ => by simp [ins]
  | y :: r, h => by
    have h' := List.pairwise_cons.1 h
    simp only [ins]
    by_cases h1 : y ≥ v
    · rw [if_pos h1]
      by_cases h2 : y > v
      · rw [if_pos h2]
        refine List.pairwise_cons.2 ⟨fun a ha => ?_, h⟩
        rcases List.mem_cons.1 ha with rfl | ha
        · exact h1
        · have := h'.1 a ha; omega
      · rw [if_neg h2]; exact h
    · rw [if_neg h1]
      refine List.pairwise_cons.2 ⟨fun a ha => ?_, ins_sorted v r h'.2⟩
      have : ∀ (l : List Int), a ∈ ins v l → a = v ∨ a ∈ l := by
        intro l
        induction l with
        | nil => intro h; left; simpa [ins] using h
        | cons z t ih =>
          intro h
          simp only [ins] at h
          by_cases g1 : z ≥ v
          · rw [if_pos g1] at h
            by_cases g2 : z > v
            · rw [if_pos g2] at h
              rcases List.mem_cons.1 h with h | h
              · exact .inl h
              · exact .inr h
            · rw [if_neg g2] at h; exact .inr h
          · rw [if_neg g1] at h
            rcases List.mem_cons.1 h with h | h
            · exact .inr (by simp [h])
            · rcases ih h with h | h
              · exact .inl h
              · exact .inr (List.mem_cons_of_mem _ h)
      rcases this r ha with e | e
      · omega
      · exact h'.1 a e
theorem mem_spec : ∀ (l seen acc : List Int), actFrom seen l = true → acc.Pairwise (· ≤ ·) → (∀ x ∈ acc, x ∈ seen) →
    (mem acc l).Pairwise (· ≤ ·) ∧ (mem acc l).Perm (acc ++ l.filter fun x => !decide (x = -1))
  | [], _, acc, _, hs, _ => ⟨hs, by simp [mem]⟩
  | n :: r, seen, acc, h, hs, hsub => by
    simp only [actFrom, Bool.and_eq_true] at h
    have h1 := of_decide_eq_true h.1
    simp only [mem]
    by_cases h0 : n ≥ 0
    · rw [if_pos h0, List.filter_cons_of_pos (by simp; omega)]
      have hn : n ∉ acc := fun e => by
        have := hsub n e
        have h2 := h.2.1
        simp [this] at h2
        omega
      have ih := mem_spec r (seen ++ [n]) (ins n acc) h.2.2 (ins_sorted n acc hs) (fun x hx => by
        have := (ins_perm n acc hn).mem_iff.1 hx
        rcases List.mem_cons.1 this with e | e
        · simp [e]
        · simp [hsub x e])
      refine ⟨ih.1, ih.2.trans ?_⟩
      exact ((ins_perm n acc hn).append_right _).trans (by simpa using List.perm_middle.symm)
    · rw [if_neg h0, List.filter_cons_of_neg (by simp; omega)]
      exact mem_spec r (seen ++ [n]) acc h.2.2 hs (fun x hx => by simp [hsub x hx])
theorem mem_members (l : List Int) (h : actFrom [] l = true) : (l.filter fun x => !decide (x = -1)).mergeSort (fun x y => decide (x ≤ y)) = mem [] l := by
  have hm := mem_spec l [] [] h List.Pairwise.nil (by simp)
  refine List.Perm.eq_of_pairwise (le := fun a b : Int => a ≤ b) (fun a b _ _ h1 h2 => Int.le_antisymm h1 h2) ?_ hm.1 ?_
  · have := List.pairwise_mergeSort (le := fun x y : Int => decide (x ≤ y)) (by simp; intro a b c; omega) (by simp; intro a b; omega) (l.filter fun x => !decide (x = -1))
    simpa using this
  · exact (List.mergeSort_perm _ _).trans (by simpa using hm.2.symm)
/-- Every element of a list lies above the one before it. -/
def chn : List Int → Bool
  | [] => true
  | [_] => true
  | x :: y :: r => decide (x < y) && chn (y :: r)
theorem chn_pairwise : ∀ l : List Int, chn l = true → l.Pairwise (· < ·)
  | [], _ => List.Pairwise.nil
  | [x], _ => by simp
  | x :: y :: r, h => by
    simp only [chn, Bool.and_eq_true] at h
    have ih := chn_pairwise (y :: r) h.2
    have hxy : x < y := of_decide_eq_true h.1
    refine List.pairwise_cons.2 ⟨fun a ha => ?_, ih⟩
    rcases List.mem_cons.1 ha with rfl | ha
    · exact hxy
    · have := (List.pairwise_cons.1 ih).1 a ha; omega
def inR (l : List Int) : Bool := l.all fun n => decide (0 ≤ n ∧ n ≤ 15)
theorem chn_step {l : List Int} {j : Nat} (h : j + 1 < l.length) : chn (l.drop j) = (decide (l[j] < l[j + 1]) && chn (l.drop (j + 1))) := by
  rw [drop_at (show j < l.length by omega), drop_at h]
  rfl
theorem chn_end {l : List Int} {j : Nat} (h : l.length ≤ j + 1) : chn (l.drop j) = true := by
  have hl : (l.drop j).length ≤ 1 := by rw [List.length_drop]; omega
  match hm : l.drop j with
  | [] => rfl
  | [x] => rfl
  | x :: y :: r => rw [hm] at hl; simp at hl
theorem wpred {j : Nat} (h : j ≤ 1048576) : wrap64 (((j + 1 : Nat) : Int) - 1) = (j : Int) := by unfold wrap64; omega
theorem incr_loop (l : List Int) (hn : l.length ≤ 1048576) : ∀ (d j : Nat), l.length ≤ j + 1 + d → j ≤ l.length →
    Ev (fun k => impl_increasing.l0 k l ((j + 1 : Nat) : Int)) (chn (l.drop j)) := by
  intro d
  induction d with
  | zero =>
    intro j h hj
    apply evsucc
    simp only [impl_increasing.l0]
    exact evn (by omega) (evc fun _ => by rw [chn_end (by omega)])
  | succ d ih =>
    intro j h hj
    apply evsucc
    simp only [impl_increasing.l0]
    by_cases h1 : j + 1 < l.length
    · refine evp (by omega) (evp (by omega) ?_)
      rw [wpred (by omega), wsucc h1 (by omega), rd_at h1, rd_at (show j < l.length by omega), chn_step h1]
      refine evp (by omega) (evp (by omega) ?_)
      by_cases h2 : l[j + 1] ≤ l[j]
      · exact evp h2 (evc fun _ => by rw [decide_eq_false (by omega)]; rfl)
      · refine evn h2 ?_
        rw [decide_eq_true (by omega), Bool.true_and]
        exact ih (j + 1) (by omega) (by omega)
    · exact evn (by omega) (evc fun _ => by rw [chn_end (by omega)])
theorem incr_ev (l : List Int) (hn : l.length ≤ 1048576) : Ev (fun k => impl_increasing.f k l) (chn l) := by
  have := incr_loop l hn l.length 0 (by omega) (by omega)
  simpa [impl_increasing.f] using this
theorem rises_loop (l : List Int) (hn : l.length ≤ 1048576) : ∀ (d j : Nat), j + 1 + d = l.length →
    Ev (fun k => spec_l00Rises.l0 k l 0 15 ((j + 1 : Nat) : Int)) (inR (l.drop (j + 1)) && chn (l.drop j)) := by
  intro d
  induction d with
  | zero =>
    intro j h
    apply evsucc
    simp only [spec_l00Rises.l0]
    refine evn (by omega) (evc fun _ => ?_)
    rw [chn_end (by omega), List.drop_of_length_le (by omega)]
    rfl
  | succ d ih =>
    intro j h
    have h1 : j + 1 < l.length := by omega
    apply evsucc
    simp only [spec_l00Rises.l0]
    refine evp (by omega) (evp (by omega) (evk (l00In_eq _ _ _) ?_))
    rw [wpred (by omega), wsucc h1 (by omega), rd_at h1, rd_at (show j < l.length by omega), chn_step h1, drop_at h1]
    by_cases hr : 0 ≤ l[j + 1] ∧ l[j + 1] ≤ 15
    · refine evp (by simpa using hr) (evp (by omega) (evp (by omega) (evp (by omega) ?_)))
      by_cases h2 : l[j] ≥ l[j + 1]
      · exact evp h2 (evc fun _ => by rw [decide_eq_false (by omega), Bool.false_and, Bool.and_false])
      · refine evn h2 ?_
        rw [decide_eq_true (show l[j] < l[j + 1] by omega), Bool.true_and]
        have := ih (j + 1) (by omega)
        rw [drop_at h1] at this
        simp only [inR, List.all_cons, decide_eq_true hr, Bool.true_and] at this ⊢
        exact this
    · exact evn (by simpa using hr) (evc fun _ => by simp only [inR, List.all_cons, decide_eq_false hr, Bool.false_and])
theorem rises_ev (l : List Int) (hn : l.length ≤ 1048576) : Ev (fun k => spec_l00Rises.f k l 0 15) (inR l && chn l) := by
  unfold spec_l00Rises.f
  apply evsucc
  simp only [spec_l00Rises.l0]
  cases l with
  | nil => exact evn (by simp) (evc fun _ => rfl)
  | cons x r =>
    refine evp (by rw [List.length_cons]; omega) (evp (by omega) (evk (l00In_eq _ _ _) ?_))
    have hx : rd (x :: r) 0 = x := rfl
    rw [hx]
    by_cases hr : 0 ≤ x ∧ x ≤ 15
    · refine evp (by simpa using hr) (evn (by omega) ?_)
      have := rises_loop (x :: r) hn r.length 0 (by simp [Nat.add_comm])
      rw [show wrap64 (0 + 1) = ((0 + 1 : Nat) : Int) by unfold wrap64; omega]
      simp only [inR, List.all_cons, decide_eq_true hr, Bool.true_and, List.drop_succ_cons, List.drop_zero] at this ⊢
      exact this
    · exact evn (by simpa using hr) (evc fun _ => by simp only [inR, List.all_cons, decide_eq_false hr, Bool.false_and])
theorem eq_of_strict : ∀ (a b : List Int), a.Pairwise (· < ·) → b.Pairwise (· < ·) → (∀ x, x ∈ a ↔ x ∈ b) → a = b
  | [], [], _, _, _ => rfl
  | [], y :: b, _, _, h => absurd ((h y).2 (by simp)) (by simp)
  | x :: a, [], _, _, h => absurd ((h x).1 (by simp)) (by simp)
  | x :: a, y :: b, ha, hb, h => by
    have ha' := List.pairwise_cons.1 ha
    have hb' := List.pairwise_cons.1 hb
    have e : x = y := by
      rcases List.mem_cons.1 ((h x).1 (by simp)) with e | e
      · exact e
      · rcases List.mem_cons.1 ((h y).2 (by simp)) with e2 | e2
        · exact e2.symm
        · have := hb'.1 x e
          have := ha'.1 y e2
          omega
    subst e
    rw [eq_of_strict a b ha'.2 hb'.2 (fun z => ⟨fun hz => by
      rcases List.mem_cons.1 ((h z).1 (List.mem_cons_of_mem _ hz)) with e | e
      · have := ha'.1 z hz; omega
      · exact e, fun hz => by
      rcases List.mem_cons.1 ((h z).2 (List.mem_cons_of_mem _ hz)) with e | e
      · have := hb'.1 z hz; omega
      · exact e⟩)]
theorem ins_mem (v x : Int) : ∀ l : List Int, x ∈ ins v l ↔ x = v ∨ x ∈ l
  | [] => by simp [ins]
  | y :: r => by
    have ih := ins_mem v x r
    simp only [ins]
    by_cases h1 : y ≥ v
    · rw [if_pos h1]
      by_cases h2 : y > v
      · rw [if_pos h2]; simp
      · rw [if_neg h2]
        have e : y = v := by omega
        subst e
        simp
    · rw [if_neg h1, List.mem_cons, ih, List.mem_cons]
      exact ⟨fun h => h.elim (fun e => .inr (.inl e)) (fun e => e.elim .inl (fun e => .inr (.inr e))), fun h => h.elim (fun e => .inr (.inl e)) (fun e => e.elim .inl (fun e => .inr (.inr e)))⟩
theorem ins_strict (v : Int) : ∀ l : List Int, l.Pairwise (· < ·) → (ins v l).Pairwise (· < ·)
  | [], _ => by simp [ins]
  | y :: r, h => by
    have h' := List.pairwise_cons.1 h
    simp only [ins]
    by_cases h1 : y ≥ v
    · rw [if_pos h1]
      by_cases h2 : y > v
      · rw [if_pos h2]
        refine List.pairwise_cons.2 ⟨fun a ha => ?_, h⟩
        rcases List.mem_cons.1 ha with rfl | ha
        · exact h2
        · have := h'.1 a ha; omega
      · rw [if_neg h2]; exact h
    · rw [if_neg h1]
      refine List.pairwise_cons.2 ⟨fun a ha => ?_, ins_strict v r h'.2⟩
      rcases (ins_mem v a r).1 ha with e | e
      · omega
      · exact h'.1 a e
theorem mem_strict : ∀ (l acc : List Int), acc.Pairwise (· < ·) → (mem acc l).Pairwise (· < ·)
  | [], _, h => h
  | n :: r, acc, h => by
    simp only [mem]
    by_cases h0 : n ≥ 0
    · rw [if_pos h0]; exact mem_strict r _ (ins_strict n acc h)
    · rw [if_neg h0]; exact mem_strict r _ h
theorem mem_mem (x : Int) : ∀ (l acc : List Int), x ∈ mem acc l ↔ x ∈ acc ∨ (x ∈ l ∧ x ≥ 0)
  | [], acc => by simp [mem]
  | n :: r, acc => by
    simp only [mem]
    by_cases h0 : n ≥ 0
    · rw [if_pos h0, mem_mem x r, ins_mem, List.mem_cons]
      constructor
      · rintro ((rfl | h) | h)
        · exact .inr ⟨.inl rfl, h0⟩
        · exact .inl h
        · exact .inr ⟨.inr h.1, h.2⟩
      · rintro (h | ⟨rfl | h, h2⟩)
        · exact .inl (.inr h)
        · exact .inl (.inl rfl)
        · exact .inr ⟨h, h2⟩
    · rw [if_neg h0, mem_mem x r, List.mem_cons]
      constructor
      · rintro (h | h)
        · exact .inl h
        · exact .inr ⟨.inr h.1, h.2⟩
      · rintro (h | ⟨rfl | h, h2⟩)
        · exact .inl h
        · exact absurd h2 h0
        · exact .inr ⟨h, h2⟩
/-- The sorted nodes that were heard are the heard ones that are nodes. -/
theorem heard_eq (l h : List Int) (hc : h.Pairwise (· < ·)) (h0 : ∀ x ∈ h, 0 ≤ x) : (mem [] l).filter (fun x => decide (x ∈ h)) = h.filter fun x => decide (x ∈ l) := by
  refine eq_of_strict _ _ ((mem_strict l [] List.Pairwise.nil).sublist List.filter_sublist) (hc.sublist List.filter_sublist) fun x => ?_
  rw [List.mem_filter, List.mem_filter, mem_mem]
  simp only [List.not_mem_nil, false_or, decide_eq_true_eq]
  exact ⟨fun ⟨⟨a, _⟩, b⟩ => ⟨b, a⟩, fun ⟨a, b⟩ => ⟨⟨b, h0 x a⟩, a⟩⟩
theorem place_loop (l : List Int) (v : Int) (hn : l.length ≤ 140737488351232) : ∀ (d i : Nat), i + d = l.length → Ev (fun k => spec_l12Place.l0 k l v (i : Int)) (if v < 0 then -1 else idxFrom (l.drop i) i v) := by
  intro d
  induction d with
  | zero =>
    intro i h
    apply evsucc
    simp only [spec_l12Place.l0]
    refine evn (by omega) (evc fun _ => ?_)
    rw [List.drop_of_length_le (by omega)]
    simp [idxFrom]
  | succ d ih =>
    intro i h
    apply evsucc
    simp only [spec_l12Place.l0]
    have hi : i < l.length := by omega
    have hs := ih (i + 1) (by omega)
    rw [wsucc hi hn, rd_at hi, drop_at hi]
    refine evp (by omega) ?_
    by_cases hv : v ≥ 0
    · have hv' : ¬ v < 0 := by omega
      refine evp hv (evp (by omega) ?_)
      rw [if_neg hv'] at hs ⊢
      simp only [idxFrom]
      by_cases e : l[i] = v
      · rw [if_pos e.symm]
        exact evp e (evc fun _ => rfl)
      · rw [if_neg (fun h => e h.symm)]
        exact evn e hs
    · have hv' : v < 0 := by omega
      rw [if_pos hv'] at hs ⊢
      exact evn hv hs
theorem place_ev (l : List Int) (v : Int) (hn : l.length ≤ 140737488351232) : Ev (fun k => spec_l12Place.f k l v) (if v < 0 then -1 else idxFrom l 0 v) := by
  have := place_loop l v hn l.length 0 (by omega)
  simpa [spec_l12Place.f] using this
theorem rdIv_at {l : List S43} {i : Nat} (h : i < l.length) : rd_T43 l (i : Int) = l[i] := by
  simp [rd_T43, List.getD_eq_getElem?_getD, List.getElem?_eq_getElem h]
/-- Intervals that follow one another, each with as many places as the first. -/
def ivFrom (n0 : Int) : Int → List S43 → Bool
  | _, [] => true
  | next, v :: r => decide (v.f0 = next) && (decide (v.f0 ≤ v.f1 ∧ v.f1 ≤ 60) && (actB v.f2 && (decide ((v.f2.length : Int) = n0) && ivFrom n0 (wrap64 (v.f1 + 1)) r)))
def ivsB (l : List S43) : Bool := decide ((l.length : Int) ≤ 60) && ivFrom ((rd_T43 l 0).f2.length : Int) 1 l
theorem ivImpl_loop (l : List S43) (hn : l.length ≤ 140737488351232) (hl : ∀ x ∈ l, x.f2.length ≤ 140737488351232) : ∀ (d i : Nat) (nx : Int), i + d = l.length →
    Ev (fun k => impl_IntervalsOk.l0 k l nx l (l.length : Int) (i : Int)) (ivFrom ((rd_T43 l 0).f2.length : Int) nx (l.drop i) && decide ((l.length : Int) ≤ 60)) := by
  intro d
  induction d with
  | zero =>
    intro i nx h
    apply evsucc
    simp only [impl_IntervalsOk.l0]
    refine evn (by omega) (evc fun _ => ?_)
    rw [List.drop_of_length_le (by omega)]
    simp [ivFrom]
  | succ d ih =>
    intro i nx h
    have hi : i < l.length := by omega
    have hs := ih (i + 1) (wrap64 ((l[i]).f1 + 1)) (by omega)
    apply evsucc
    simp only [impl_IntervalsOk.l0, rdIv_at hi, wsucc hi hn]
    rw [drop_at hi]
    simp only [ivFrom]
    refine evp (by omega) (evp (by omega) (evp (by omega) ?_))
    by_cases h1 : (l[i]).f0 = nx
    · refine evp h1 (evk (between_eq _ _ _) ?_)
      by_cases h2 : (l[i]).f0 ≤ (l[i]).f1 ∧ (l[i]).f1 ≤ 60
      · refine evp (by simpa using h2) (evb (actImpl _ (hl _ (List.getElem_mem hi))) ?_)
        cases h3 : actB (l[i]).f2 with
        | false => exact evn (by simp) (evc fun _ => by simp)
        | true =>
          refine evp rfl (evp (by omega) ?_)
          by_cases h4 : ((l[i]).f2.length : Int) = ((rd_T43 l 0).f2.length : Int)
          · refine evp h4 ?_
            rw [decide_eq_true h1, decide_eq_true h2, decide_eq_true h4]
            simpa using hs
          · refine evn h4 (evc fun _ => ?_)
            rw [decide_eq_false h4]
            simp
      · refine evn (by simpa using h2) (evc fun _ => ?_)
        rw [decide_eq_false h2]
        simp
    · refine evn h1 (evc fun _ => ?_)
      rw [decide_eq_false h1]
      simp
theorem ivImpl (l : List S43) (hn : l.length ≤ 140737488351232) (hl : ∀ x ∈ l, x.f2.length ≤ 140737488351232) : Ev (fun k => impl_IntervalsOk.f k l) (ivsB l) := by
  have := ivImpl_loop l hn hl l.length 0 1 (by omega)
  rw [Bool.and_comm] at this
  simpa [impl_IntervalsOk.f, ivsB] using this
theorem ivSpec_loop (l : List S43) (hn : l.length ≤ 140737488351232) (hl : ∀ x ∈ l, x.f2.length ≤ 140737488351232) : ∀ (d i : Nat) (nx : Int), i + d = l.length →
    Ev (fun k => spec_l13Ok.l0 k l nx (i : Int)) (ivFrom ((rd_T43 l 0).f2.length : Int) nx (l.drop i)) := by
  intro d
  induction d with
  | zero =>
    intro i nx h
    apply evsucc
    simp only [spec_l13Ok.l0]
    refine evn (by omega) (evc fun _ => ?_)
    rw [List.drop_of_length_le (by omega)]
    simp [ivFrom]
  | succ d ih =>
    intro i nx h
    have hi : i < l.length := by omega
    have hs := ih (i + 1) (wrap64 ((l[i]).f1 + 1)) (by omega)
    apply evsucc
    simp only [spec_l13Ok.l0, rdIv_at hi, wsucc hi hn]
    rw [drop_at hi]
    simp only [ivFrom]
    refine evp (by omega) (evp (by omega) ?_)
    by_cases h1 : (l[i]).f0 = nx
    · refine evp h1 (evk (l00In_eq _ _ _) ?_)
      by_cases h2 : (l[i]).f0 ≤ (l[i]).f1 ∧ (l[i]).f1 ≤ 60
      · refine evp (by simpa using h2) (evb (actSpec _ (hl _ (List.getElem_mem hi))) ?_)
        cases h3 : actB (l[i]).f2 with
        | false => exact evn (by simp) (evc fun _ => by simp)
        | true =>
          refine evp rfl (evp (by omega) ?_)
          by_cases h4 : ((l[i]).f2.length : Int) = ((rd_T43 l 0).f2.length : Int)
          · refine evp h4 ?_
            rw [decide_eq_true h1, decide_eq_true h2, decide_eq_true h4]
            simpa using hs
          · refine evn h4 (evc fun _ => ?_)
            rw [decide_eq_false h4]
            simp
      · refine evn (by simpa using h2) (evc fun _ => ?_)
        rw [decide_eq_false h2]
        simp
    · refine evn h1 (evc fun _ => ?_)
      rw [decide_eq_false h1]
      simp
theorem ivSpec (l : List S43) (hn : l.length ≤ 140737488351232) (hl : ∀ x ∈ l, x.f2.length ≤ 140737488351232) : Ev (fun k => spec_l13Ok.f k l) (ivsB l) := by
  have hs := ivSpec_loop l hn hl l.length 0 1 (by omega)
  unfold spec_l13Ok.f
  by_cases h : (l.length : Int) > 60
  · have h' : ¬ (l.length : Int) ≤ 60 := by omega
    exact evp h (evc fun _ => by simp [ivsB, h'])
  · have h' : (l.length : Int) ≤ 60 := by omega
    refine evn h ?_
    simpa [ivsB, h'] using hs
theorem heardSpec_loop (a0 a1 : Int) (l : List Int) (b : Bool) (h : List Int) (hl : l.length ≤ 140737488351232) (hh : h.length ≤ 1048576) (h0 : ∀ x ∈ h, 0 ≤ x) : ∀ (d i : Nat) (acc : List Int), i + d = h.length → acc.length ≤ i →
    Ev (fun k => spec_l13Heard.l0 k h acc (i : Int) a0 a1 l b) (acc ++ (h.drop i).filter fun x => decide (x ∈ l)) := by
  intro d
  induction d with
  | zero =>
    intro i acc hd ha
    apply evsucc
    simp only [spec_l13Heard.l0]
    refine evn (by omega) (evc fun _ => ?_)
    rw [List.drop_of_length_le (by omega)]
    simp
  | succ d ih =>
    intro i acc hd ha
    have hi : i < h.length := by omega
    apply evsucc
    simp only [spec_l13Heard.l0]
    refine evp (by omega) (evp (by omega) ?_)
    rw [wsucc hi (by omega), rd_at hi, drop_at hi]
    refine evb (place_ev l h[i] hl) ?_
    have hx : ¬ h[i] < 0 := by have := h0 _ (List.getElem_mem hi); omega
    rw [if_neg hx]
    by_cases hm : h[i] ∈ l
    · refine evp ((idxFrom_nonneg l 0 h[i]).2 hm) (evp (by omega) ?_)
      have := ih (i + 1) (acc ++ [h[i]]) (by omega) (by simp; omega)
      rw [List.filter_cons_of_pos (by simpa using hm)]
      simpa using this
    · refine evn (fun g => hm ((idxFrom_nonneg l 0 h[i]).1 g)) ?_
      rw [List.filter_cons_of_neg (by simpa using hm)]
      exact ih (i + 1) acc (by omega) (by omega)
theorem inR_mem {h : List Int} (hr : inR h = true) : ∀ x ∈ h, 0 ≤ x := by
  intro x hx
  have := List.all_eq_true.1 hr x hx
  exact (of_decide_eq_true this).1
theorem heardSpecIn (a0 a1 : Int) (l : List Int) (b : Bool) (h : List Int) (hl : l.length ≤ 140737488351232) (hh : h.length ≤ 1048576) (hr : inR h = true) : Ev (fun k => spec_l13Heard.f k a0 a1 l b h) (h.filter fun x => decide (x ∈ l)) := by
  have := heardSpec_loop a0 a1 l b h hl hh (inR_mem hr) h.length 0 [] (by omega) (by simp)
  simpa [spec_l13Heard.f] using this
theorem nodes_ev (h : List Int) (hh : h.length ≤ 1048576) : Ev (fun k => spec_l13Nodes.f k h) (inR h && chn h) := by
  unfold spec_l13Nodes.f
  exact evb (rises_ev h hh) (evc fun _ => rfl)
theorem heardOk_ev (h : List Int) (hh : h.length ≤ 1048576) : Ev (fun k => impl_heardOk.f k h) (inR h && chn h) := by
  unfold impl_heardOk.f impl_outOk.f
  refine evb (evb (incr_ev h hh) ?_) (evc fun _ => rfl)
  have e : (!h.any fun n => !decide ((0 : Int) ≤ n ∧ n ≤ 15)) = inR h := by
    unfold inR
    rw [List.not_any_eq_all_not]
    simp
  cases hc : chn h with
  | true =>
    refine evp rfl (evk (a := inR h) (by unfold impl_allBetween.f; rw [e]) (evc fun _ => by simp))
  | false => exact evn (by simp) (evc fun _ => by simp)
theorem heardOf_eq (l h : List Int) (hl : l.length ≤ 1048576) (hh : h.length ≤ 1048576) (ha : actB l = true) (hr : inR h = true) (hc : chn h = true) : impl_heardOf.f l h = some (h.filter fun x => decide (x ∈ l)) := by
  unfold impl_heardOf.f
  have hf : actFrom [] l = true := by simp only [actB, Bool.and_eq_true] at ha; exact ha.2
  rw [if_pos (by omega), members_ev l hl, mem_members l hf]
  simp only [Option.map_some, Bool.not_not]
  rw [heard_eq l h (chn_pairwise h hc) (inR_mem hr)]
theorem act_of : ∀ (l : List S43) (n0 nx : Int), ivFrom n0 nx l = true → ∀ x ∈ l, actB x.f2 = true
  | [], _, _, _ => fun x h => by cases h
  | y :: r, n0, nx, h => fun x hx => by
    simp only [ivFrom, Bool.and_eq_true] at h
    rcases List.mem_cons.1 hx with rfl | hx
    · exact h.2.2.1
    · exact act_of r n0 _ h.2.2.2.2 x hx
theorem at_loop (l : List S43) (v : Int) (hn : l.length ≤ 140737488351232) : ∀ (d i : Nat), i + d = l.length → ∃ r : Int, Ev (fun k => spec_l13At.l0 k l v (i : Int)) r ∧ (decide (r < 0) = !(l.drop i).any fun x => (x.f0 == v)) := by
  intro d
  induction d with
  | zero =>
    intro i h
    refine ⟨-1, ?_, ?_⟩
    · apply evsucc
      simp only [spec_l13At.l0]
      exact evn (by omega) (evc fun _ => rfl)
    · rw [List.drop_of_length_le (by omega)]; rfl
  | succ d ih =>
    intro i h
    have hi : i < l.length := by omega
    obtain ⟨r, hr, he⟩ := ih (i + 1) (by omega)
    by_cases e : l[i].f0 = v
    · refine ⟨i, ?_, ?_⟩
      · apply evsucc
        simp only [spec_l13At.l0]
        rw [rdIv_at hi]
        exact evp (by omega) (evp (by omega) (evp e (evc fun _ => rfl)))
      · rw [drop_at hi, List.any_cons, beq_iff_eq.2 e, decide_eq_false (by omega)]; rfl
    · refine ⟨r, ?_, ?_⟩
      · apply evsucc
        simp only [spec_l13At.l0]
        rw [rdIv_at hi, wsucc hi (by omega)]
        exact evp (by omega) (evp (by omega) (evn e hr))
      · rw [drop_at hi, List.any_cons, beq_eq_false_iff_ne.2 e, he]; rfl
theorem own_ev (x : S43) (hn : x.f2.length ≤ 1048576) : spec_l13Own.f x.f0 x.f1 x.f2 x.f3 = some (x.f0, x.f1, x.f2, x.f3) := by
  unfold spec_l13Own.f spec_l00Own.f
  simp only [Option.bind_some, List.length_nil, List.nil_append]
  rw [if_pos (by omega)]
  rfl
theorem need_loop (l : List S43) (s : Int) (hn : l.length ≤ 60) (hl : ∀ x ∈ l, x.f2.length ≤ 7) : ∀ (d i : Nat) (acc : List S43), i + d = l.length → acc.length ≤ i →
    Ev (fun k => spec_l13Need.l0 k l s acc (i : Int)) (acc ++ (l.drop i).filter fun x => impl_heardEnough.need x s) := by
  intro d
  induction d with
  | zero =>
    intro i acc h ha
    apply evsucc
    simp only [spec_l13Need.l0]
    refine evn (by omega) (evc fun _ => ?_)
    rw [List.drop_of_length_le (by omega)]
    simp
  | succ d ih =>
    intro i acc h ha
    have hi : i < l.length := by omega
    have hx := hl l[i] (List.getElem_mem hi)
    apply evsucc
    simp only [spec_l13Need.l0]
    rw [rdIv_at hi, wsucc hi (by omega), drop_at hi]
    have hyes := ih (i + 1) (acc ++ [l[i]]) (by omega) (by simp; omega)
    have hno := ih (i + 1) acc (by omega) (by omega)
    refine evp (by omega) (evp (by omega) ?_)
    by_cases h1 : l[i].f0 = s
    · have hw : impl_heardEnough.need l[i] s = true := by unfold impl_heardEnough.need; rw [beq_iff_eq.2 h1]; simp
      rw [List.filter_cons_of_pos (p := fun x => impl_heardEnough.need x s) hw]
      refine evp h1 (evk (own_ev l[i] (by omega)) (evp (by omega) ?_))
      simpa using hyes
    · refine evn h1 ?_
      by_cases h2 : l[i].f3 = true
      · by_cases h3 : l[i].f0 ≥ s
        · have hw : impl_heardEnough.need l[i] s = true := by unfold impl_heardEnough.need; rw [h2, decide_eq_true h3]; rfl
          rw [List.filter_cons_of_pos (p := fun x => impl_heardEnough.need x s) hw]
          refine evp h2 (evp h3 (evk (own_ev l[i] (by omega)) (evp (by omega) ?_)))
          simpa using hyes
        · have hw : ¬ impl_heardEnough.need l[i] s = true := by unfold impl_heardEnough.need; rw [decide_eq_false h3, beq_eq_false_iff_ne.2 h1]; simp
          rw [List.filter_cons_of_neg (p := fun x => impl_heardEnough.need x s) hw]
          exact evp h2 (evn h3 hno)
      · have hw : ¬ impl_heardEnough.need l[i] s = true := by unfold impl_heardEnough.need; rw [Bool.not_eq_true] at h2; rw [h2, beq_eq_false_iff_ne.2 h1]; simp
        rw [List.filter_cons_of_neg (p := fun x => impl_heardEnough.need x s) hw]
        exact evn h2 hno
theorem enough_loop (l : List S43) (kk : Int) (h : List Int) (hn : l.length ≤ 60) (hl : ∀ x ∈ l, x.f2.length ≤ 7) (hh : h.length ≤ 1048576) (hr : inR h = true) : ∀ (d i : Nat), i + d = l.length →
    Ev (fun k => spec_l13Enough.l0 k kk h l (i : Int)) (!(l.drop i).any fun x => decide (((h.filter fun y => decide (y ∈ x.f2)).length : Int) < kk)) := by
  intro d
  induction d with
  | zero =>
    intro i hd
    apply evsucc
    simp only [spec_l13Enough.l0]
    refine evn (by omega) (evc fun _ => ?_)
    rw [List.drop_of_length_le (by omega)]
    rfl
  | succ d ih =>
    intro i hd
    have hi : i < l.length := by omega
    have hx := hl l[i] (List.getElem_mem hi)
    apply evsucc
    simp only [spec_l13Enough.l0]
    rw [rdIv_at hi, wsucc hi (by omega), drop_at hi]
    refine evp (by omega) (evp (by omega) (evb (heardSpecIn l[i].f0 l[i].f1 l[i].f2 l[i].f3 h (by omega) hh hr) ?_))
    by_cases h1 : ((h.filter fun y => decide (y ∈ l[i].f2)).length : Int) < kk
    · refine evp h1 (evc fun _ => ?_)
      rw [List.any_cons, decide_eq_true h1]; rfl
    · refine evn h1 ?_
      rw [List.any_cons, decide_eq_false h1]
      simpa using ih (i + 1) (by omega)
/-- Were enough nodes heard? -/
def enB (l : List S43) (kk s : Int) (h : List Int) : Bool :=
  !(decide (0 < s) && !l.any fun x => (x.f0 == s)) && !l.any fun x => impl_heardEnough.need x s && decide (((h.filter fun y => decide (y ∈ x.f2)).length : Int) < kk)
theorem enoughSpec (l : List S43) (kk s : Int) (h : List Int) (hn : l.length ≤ 60) (hl : ∀ x ∈ l, x.f2.length ≤ 7) (hh : h.length ≤ 1048576) (hr : inR h = true) :
    Ev (fun k => spec_l13Enough.f k l kk s h) (enB l kk s h) := by
  have hj : ∀ b, Ev (fun k => spec_l13Enough.j0 k l kk s h b) (!b && !l.any fun x => impl_heardEnough.need x s && decide (((h.filter fun y => decide (y ∈ x.f2)).length : Int) < kk)) := by
    intro b
    apply evsucc
    simp only [spec_l13Enough.j0]
    cases b with
    | true => exact evp rfl (evc fun _ => rfl)
    | false =>
      refine evn (by simp) (evb (a := l.filter fun x => impl_heardEnough.need x s) ?_ ?_)
      · have := need_loop l s hn hl l.length 0 [] (by omega) (by simp)
        simpa [spec_l13Need.f] using this
      · have hlen := List.length_filter_le (fun x => impl_heardEnough.need x s) l
        have := enough_loop (l.filter fun x => impl_heardEnough.need x s) kk h (by omega) (fun x hx => hl x (List.mem_filter.1 hx).1) hh hr (l.filter fun x => impl_heardEnough.need x s).length 0 (by omega)
        simpa [List.any_filter] using this
  unfold spec_l13Enough.f enB
  by_cases hs : s > 0
  · obtain ⟨r, hr2, he⟩ := at_loop l s (by omega) l.length 0 (by omega)
    refine evp hs (evb (a := r) (by simpa [spec_l13At.f] using hr2) ?_)
    have := hj (decide (r < 0))
    rw [he] at this
    have hs' : decide (0 < s) = true := decide_eq_true hs
    rw [hs', he]
    simpa using this
  · have hs' : decide (0 < s) = false := decide_eq_false hs
    refine evn hs ?_
    rw [hs']
    exact hj false
theorem enoughImpl (l : List S43) (kk s : Int) (h : List Int) (ha : ∀ x ∈ l, actB x.f2 = true) (hl : ∀ x ∈ l, x.f2.length ≤ 7) (hh : h.length ≤ 1048576) (hr : inR h = true) (hc : chn h = true) :
    impl_heardEnough.f l kk s h = some (enB l kk s h) := by
  have hx : ∀ x ∈ l, impl_heardOf.f x.f2 h = some (h.filter fun y => decide (y ∈ x.f2)) := fun x hm => heardOf_eq x.f2 h (by have := hl x hm; omega) hh (ha x hm) hr hc
  have hall : (l.all fun x => (impl_heardOf.f x.f2 h).isSome) = true := List.all_eq_true.2 fun x hm => by rw [hx x hm]; rfl
  unfold impl_heardEnough.f enB
  rw [if_pos hall]
  congr 2
  congr 1
  have any_eq : ∀ (l : List S43) (p q : S43 → Bool), (∀ x ∈ l, p x = q x) → l.any p = l.any q := by
    intro l p q
    induction l with
    | nil => intro _; rfl
    | cons y r ih => intro hpq; rw [List.any_cons, List.any_cons, hpq y (by simp), ih (fun x hx => hpq x (by simp [hx]))]
  refine any_eq l _ _ fun x hm => ?_
  unfold impl_heardEnough.few impl_heardEnough.hl
  rw [hx x hm]
  rfl
def allEnB (l : List S43) (kk s : Int) (h : List Int) : Bool := ivsB l && (decide (1 ≤ kk ∧ kk ≤ 7) && ((inR h && chn h) && enB l kk s h))
theorem ivs_facts {l : List S43} (h : ivsB l = true) : l.length ≤ 60 ∧ (∀ x ∈ l, actB x.f2 = true) ∧ ∀ x ∈ l, x.f2.length ≤ 7 := by
  unfold ivsB at h
  simp only [Bool.and_eq_true, decide_eq_true_eq] at h
  have ha := act_of l _ _ h.2
  refine ⟨by omega, ha, fun x hx => ?_⟩
  have := ha x hx
  unfold actB at this
  simp only [Bool.and_eq_true, decide_eq_true_eq] at this
  omega
theorem heSpec (l : List S43) (kk s : Int) (h : List Int) (hn : l.length ≤ 140737488351232) (hl : ∀ x ∈ l, x.f2.length ≤ 140737488351232) (hh : h.length ≤ 1048576) : Ev (fun k => spec_HeardEnough.f k l kk s h) (allEnB l kk s h) := by
  unfold spec_HeardEnough.f allEnB
  refine evb (ivSpec l hn hl) ?_
  cases hi : ivsB l with
  | false => exact evn (by simp) (evc fun _ => rfl)
  | true =>
    have hf := ivs_facts hi
    refine evp rfl (evk (l00In_eq _ _ _) ?_)
    by_cases hk : 1 ≤ kk ∧ kk ≤ 7
    · refine evp (by simpa using hk) (evb (nodes_ev h hh) ?_)
      rw [decide_eq_true hk]
      cases hq : (inR h && chn h) with
      | false => exact evn (by simp) (evc fun _ => rfl)
      | true =>
        have hr : inR h = true := by simp only [Bool.and_eq_true] at hq; exact hq.1
        exact evp rfl (evb (enoughSpec l kk s h hf.1 hf.2.2 hh hr) (evc fun _ => rfl))
    · refine evn (by simpa using hk) (evc fun _ => ?_)
      rw [decide_eq_false hk]; rfl
theorem heImpl (l : List S43) (kk s : Int) (h : List Int) (hn : l.length ≤ 140737488351232) (hl : ∀ x ∈ l, x.f2.length ≤ 140737488351232) (hh : h.length ≤ 1048576) : Ev (fun k => impl_HeardEnough.f k l kk s h) (allEnB l kk s h) := by
  unfold impl_HeardEnough.f allEnB
  refine evb (ivImpl l hn hl) ?_
  cases hi : ivsB l with
  | false => exact evn (by simp) (evc fun _ => rfl)
  | true =>
    have hf := ivs_facts hi
    refine evp rfl (evk (between_eq _ _ _) ?_)
    by_cases hk : 1 ≤ kk ∧ kk ≤ 7
    · refine evp (by simpa using hk) (evb (heardOk_ev h hh) ?_)
      rw [decide_eq_true hk]
      cases hq : (inR h && chn h) with
      | false => exact evn (by simp) (evc fun _ => rfl)
      | true =>
        simp only [Bool.and_eq_true] at hq
        exact evp rfl (evk (enoughImpl l kk s h hf.2.1 hf.2.2 hh hq.1 hq.2) (evc fun _ => rfl))
    · refine evn (by simpa using hk) (evc fun _ => ?_)
      rw [decide_eq_false hk]; rfl
theorem and255 (E : Int) (h0 : 0 ≤ E) (h1 : E ≤ 18446744073709551615) : 0 ≤ Go.bits .and .u64 E 255 ∧ Go.bits .and .u64 E 255 ≤ 255 := by
  have h := Go.bits_and_u64_nat E.toNat 255 (by omega) (by omega)
  rw [Int.toNat_of_nonneg h0] at h
  have h2 : E.toNat &&& 255 ≤ 255 := Nat.and_le_right
  have h3 : Go.bits .and .u64 E 255 = ((E.toNat &&& 255 : Nat) : Int) := h
  rw [h3]; omega
theorem w255 (E : Int) : 0 ≤ wrap64 (Go.bits .and .u64 (Go.IntKind.u64.wrap E / 1099511627776) 255) ∧ wrap64 (Go.bits .and .u64 (Go.IntKind.u64.wrap E / 1099511627776) 255) ≤ 255 := by
  have h0 : 0 ≤ Go.IntKind.u64.wrap E ∧ Go.IntKind.u64.wrap E ≤ 18446744073709551615 := by rw [Go.IntKind.wrap_u64]; omega
  have := and255 (Go.IntKind.u64.wrap E / 1099511627776) (by omega) (by omega)
  generalize Go.bits .and .u64 (Go.IntKind.u64.wrap E / 1099511627776) 255 = b at this ⊢
  unfold wrap64; omega
def Bytes (l : List Int) : Prop := ∀ x ∈ l, 0 ≤ x ∧ x ≤ 255
theorem next_ok {l : List Int} (hb : Bytes l) (p c : Int) (h0 : 0 ≤ p) (h1 : p ≤ 1000) : ∃ a d, spec_l00Src_next.f l p c = some (a, p + 1, d) ∧ 0 ≤ a ∧ a ≤ 255 := by
  unfold spec_l00Src_next.f
  have e : wrap64 (p + 1) = p + 1 := by unfold wrap64; omega
  rw [e]
  by_cases h : p < (l.length : Int)
  · obtain ⟨i, rfl⟩ : ∃ i : Nat, p = (i : Int) := ⟨p.toNat, by omega⟩
    have hi : i < l.length := by omega
    rw [if_pos h, if_pos h0, if_pos (by omega), rd_at hi]
    have := hb l[i] (List.getElem_mem hi)
    exact ⟨_, _, rfl, by unfold wrap64; omega, by unfold wrap64; omega⟩
  · rw [if_neg h, if_neg (by omega)]
    exact ⟨_, _, rfl, w255 _⟩
theorem pick_ok {l : List Int} (hb : Bytes l) (p c n : Int) (h0 : 0 ≤ p) (h1 : p ≤ 1000) (hn : n ≤ 200) :
    ∃ a q d, spec_l00Src_pick.f l p c n = some (a, q, d) ∧ 0 ≤ a ∧ (a = 0 ∨ a < n) ∧ p ≤ q ∧ q ≤ p + 1 := by
  unfold spec_l00Src_pick.f
  by_cases g : n ≤ 1
  · exact ⟨0, p, c, by rw [if_pos g], by omega, by omega, by omega, by omega⟩
  · obtain ⟨a, d, h, ha, ha2⟩ := next_ok hb p c h0 h1
    rw [if_neg g, h]
    simp only [Option.bind_some]
    rw [if_neg (by omega), if_neg (by omega)]
    exact ⟨_, _, _, rfl, Int.tmod_nonneg _ ha, Or.inr (Int.tmod_lt_of_pos _ (by omega)), by omega, by omega⟩
theorem among_ok {l : List Int} (hb : Bytes l) (p c : Int) (row : List Int) (h0 : 0 ≤ p) (h1 : p ≤ 1000) (hr : row.length ≤ 200) (hr0 : 0 < row.length) :
    ∃ a q d, spec_l00Src_among.f l p c row = some (a, q, d) ∧ a ∈ row ∧ p ≤ q ∧ q ≤ p + 1 := by
  obtain ⟨a, q, d, h, ha, hl, hq⟩ := pick_ok hb p c row.length h0 h1 (by omega)
  unfold spec_l00Src_among.f
  rw [h]; simp only [Option.bind_some]
  obtain ⟨i, rfl⟩ : ∃ i : Nat, a = (i : Int) := ⟨a.toNat, by omega⟩
  have hi : i < row.length := by omega
  rw [if_pos ha, if_pos (by omega), rd_at hi]
  exact ⟨_, _, _, rfl, List.getElem_mem hi, hq.1, hq.2⟩
theorem one_ok {l : List Int} (hb : Bytes l) (p c n : Int) (h0 : 0 ≤ p) (h1 : p ≤ 1000) (hn : n ≤ 200) :
    ∃ b q d, spec_l00Src_one.f l p c n = some (b, q, d) ∧ p ≤ q ∧ q ≤ p + 1 := by
  obtain ⟨a, q, d, h, _, _, hq⟩ := pick_ok hb p c n h0 h1 hn
  unfold spec_l00Src_one.f
  rw [h]
  exact ⟨_, _, _, rfl, hq.1, hq.2⟩
theorem taken_ev0 (l : List Int) (hn : l.length ≤ 1000) : ∃ t, Ev (fun k => spec_l12Taken.f k l) t := by
  have : ∀ (d i : Nat) (acc : Int), i + d = l.length → ∃ t, Ev (fun k => spec_l12Taken.l0 k l acc (i : Int)) t := by
    intro d
    induction d with
    | zero =>
      intro i acc h
      refine ⟨acc, evsucc ?_⟩
      simp only [spec_l12Taken.l0]
      exact evn (by omega) (evc fun _ => rfl)
    | succ d ih =>
      intro i acc h
      have hi : i < l.length := by omega
      by_cases g : rd l (i : Int) ≥ 0
      · obtain ⟨t, ht⟩ := ih (i + 1) (wrap64 (acc + 1)) (by omega)
        refine ⟨t, evsucc ?_⟩
        simp only [spec_l12Taken.l0]
        rw [wsucc hi (by omega)]
        exact evp (by omega) (evp (by omega) (evp g ht))
      · obtain ⟨t, ht⟩ := ih (i + 1) acc (by omega)
        refine ⟨t, evsucc ?_⟩
        simp only [spec_l12Taken.l0]
        rw [wsucc hi (by omega)]
        exact evp (by omega) (evp (by omega) (evn g ht))
  obtain ⟨t, ht⟩ := this l.length 0 0 (by omega)
  exact ⟨t, by simpa [spec_l12Taken.f] using ht⟩
theorem without_ev (l : List Int) (a : Int) (hn : l.length ≤ 1000) : ∃ m, Ev (fun k => spec_l11Without.f k l a) m ∧ m.length ≤ l.length := by
  have : ∀ (d i : Nat) (acc : List Int), i + d = l.length → acc.length ≤ i → ∃ m, Ev (fun k => spec_l11Without.l0 k l a acc (i : Int)) m ∧ m.length ≤ l.length := by
    intro d
    induction d with
    | zero =>
      intro i acc h ha
      refine ⟨acc, evsucc ?_, by omega⟩
      simp only [spec_l11Without.l0]
      exact evn (by omega) (evc fun _ => rfl)
    | succ d ih =>
      intro i acc h ha
      have hi : i < l.length := by omega
      by_cases g : rd l (i : Int) = a
      · obtain ⟨t, ht, hl⟩ := ih (i + 1) acc (by omega) (by omega)
        refine ⟨t, evsucc ?_, hl⟩
        simp only [spec_l11Without.l0]
        rw [wsucc hi (by omega)]
        exact evp (by omega) (evp (by omega) (evp g ht))
      · obtain ⟨t, ht, hl⟩ := ih (i + 1) (acc ++ [rd l (i : Int)]) (by omega) (by simp; omega)
        refine ⟨t, evsucc ?_, hl⟩
        simp only [spec_l11Without.l0]
        rw [wsucc hi (by omega)]
        exact evp (by omega) (evp (by omega) (evn g (evp (by omega) ht)))
  obtain ⟨t, ht, hl⟩ := this l.length 0 [] (by omega) (by simp)
  exact ⟨t, by simpa [spec_l11Without.f] using ht, hl⟩
def Rows (v : List S43) : Prop := ∀ x ∈ v, 0 < x.f2.length ∧ x.f2.length ≤ 4
/-- What the rounds of the draw leave: few rows, short ones, and not many bytes read. -/
def L0ok (l : List Int) (w : Int) (r : Nat) : Prop := ∀ (acc : List S43) (fr p c : Int), acc.length + r ≤ 5 → Rows acc → 0 ≤ p → p + 20 * r ≤ 1000 →
  ∃ v q d, Ev (fun k => spec_l13Draw.l0 k w acc fr (r : Int) l p c) (v, q, d) ∧ v.length ≤ 5 ∧ Rows v ∧ p ≤ q ∧ q ≤ p + 20 * r
theorem draw_in {l : List Int} (hb : Bytes l) (w : Int) (r : Nat) (H : L0ok l w r) : ∀ (n : Nat) (pool row : List Int) (acc : List S43) (fr tq p c : Int),
    pool.length ≤ 5 → row.length + n ≤ 4 → 0 < row.length + n → acc.length + (r + 1) ≤ 5 → Rows acc → 0 ≤ p → p + 2 * n + 1 + 20 * r ≤ 1000 →
    ∃ v q d, Ev (fun k => spec_l13Draw.l1 k w acc ((r + 1 : Nat) : Int) pool (n : Int) l p c fr tq row false) (v, q, d) ∧ v.length ≤ 5 ∧ Rows v ∧ p ≤ q ∧ q ≤ p + 2 * n + 1 + 20 * r := by
  have ew : wrap64 (((r + 1 : Nat) : Int) - 1) = (r : Int) ∨ 5 < r := by
    by_cases h : 5 < r
    · exact Or.inr h
    · left; unfold wrap64; omega
  intro n
  induction n with
  | zero =>
    intro pool row acc fr tq p c hp hr hr0 ha hacc h0 h1
    have ew : wrap64 (((r + 1 : Nat) : Int) - 1) = (r : Int) := by rcases ew with h | h; exact h; omega
    have hrow : ∀ b, Rows (acc ++ [(⟨fr, tq, row, b⟩ : S43)]) := fun b x hx => by
      rcases List.mem_append.1 hx with hx | hx
      · exact hacc x hx
      · rw [List.mem_singleton.1 hx]; exact ⟨by show 0 < row.length; omega, by show row.length ≤ 4; omega⟩
    obtain ⟨t, ht⟩ := taken_ev0 row (by omega)
    by_cases g : t ≥ 2
    · obtain ⟨b, q, d, ho, hq1, hq2⟩ := one_ok hb p c 6 (by omega) (by omega) (by omega)
      obtain ⟨v, q', d', hv, hl, hrs, h2, h3⟩ := H (acc ++ [⟨fr, tq, row, !b⟩]) (wrap64 (tq + 1)) q d (by simp; omega) (hrow _) (by omega) (by omega)
      refine ⟨v, q', d', evsucc ?_, hl, hrs, by omega, by omega⟩
      simp only [spec_l13Draw.l1]
      rw [ew]
      exact evn (by omega) (evb ht (evp g (evk ho (evp (by omega) hv))))
    · obtain ⟨v, q', d', hv, hl, hrs, h2, h3⟩ := H (acc ++ [⟨fr, tq, row, false⟩]) (wrap64 (tq + 1)) p c (by simp; omega) (hrow _) (by omega) (by omega)
      refine ⟨v, q', d', evsucc ?_, hl, hrs, by omega, by omega⟩
      simp only [spec_l13Draw.l1]
      rw [ew]
      exact evn (by omega) (evb ht (evn g (evp (by omega) hv)))
  | succ n ih =>
    intro pool row acc fr tq p c hp hr hr0 ha hacc h0 h1
    have en : wrap64 (((n + 1 : Nat) : Int) - 1) = (n : Int) := by unfold wrap64; omega
    have hj : ∀ (b : Bool) (p' c' : Int), (b = true → 0 < pool.length) → p ≤ p' → p' ≤ p + 1 →
        ∃ v q d, Ev (fun k => spec_l13Draw.j2 k w acc ((r + 1 : Nat) : Int) pool ((n + 1 : Nat) : Int) (-1) b l p' c' fr tq row false) (v, q, d) ∧ v.length ≤ 5 ∧ Rows v ∧ p ≤ q ∧ q ≤ p + 2 * (n + 1 : Nat) + 1 + 20 * r := by
      intro b p' c' hpool hp1 hp2
      cases b with
      | true =>
        have hpos := hpool rfl
        obtain ⟨a, q, d, hpk, ha1, ha2, hq1, hq2⟩ := pick_ok hb p' c' (pool.length : Int) (by omega) (by omega) (by omega)
        obtain ⟨m, hm, hml⟩ := without_ev pool (rd pool a) (by omega)
        obtain ⟨v, q', d', hv, hl, hrs, h2, h3⟩ := ih m (row ++ [rd pool a]) acc fr tq q d (by omega) (by simp; omega) (by simp; omega) ha hacc (by omega) (by omega)
        refine ⟨v, q', d', evsucc ?_, hl, hrs, by omega, by omega⟩
        simp only [spec_l13Draw.j2]
        rw [en]
        exact evp (by trivial) (evk hpk (evp ha1 (evp (by show a < _; omega) (evp (by omega) (evb hm hv)))))
      | false =>
        obtain ⟨m, hm, hml⟩ := without_ev pool (-1) (by omega)
        obtain ⟨v, q', d', hv, hl, hrs, h2, h3⟩ := ih m (row ++ [-1]) acc fr tq p' c' (by omega) (by simp; omega) (by simp; omega) ha hacc (by omega) (by omega)
        refine ⟨v, q', d', evsucc ?_, hl, hrs, by omega, by omega⟩
        simp only [spec_l13Draw.j2]
        rw [en]
        exact evn (by simp) (evp (by omega) (evb hm hv))
    by_cases g : (pool.length : Int) > 0
    · obtain ⟨b, q, d, ho, hq1, hq2⟩ := one_ok hb p c 5 (by omega) (by omega) (by omega)
      obtain ⟨v, q', d', hv, hl, hrs, h2, h3⟩ := hj (!b) q d (fun _ => by omega) hq1 hq2
      refine ⟨v, q', d', evsucc ?_, hl, hrs, h2, h3⟩
      simp only [spec_l13Draw.l1]
      exact evp (by omega) (evp g (evk ho hv))
    · obtain ⟨v, q', d', hv, hl, hrs, h2, h3⟩ := hj false p c (fun h => by cases h) (by omega) (by omega)
      refine ⟨v, q', d', evsucc ?_, hl, hrs, h2, h3⟩
      simp only [spec_l13Draw.l1]
      exact evp (by omega) (evn g hv)
theorem draw_l0 {l : List Int} (hb : Bytes l) (w : Nat) (hw : 1 ≤ w) (hw2 : w ≤ 4) : ∀ r : Nat, r ≤ 5 → L0ok l (w : Int) r := by
  intro r
  induction r with
  | zero =>
    intro _ acc fr p c ha hacc h0 h1
    refine ⟨acc, p, c, evsucc ?_, by omega, hacc, by omega, by omega⟩
    simp only [spec_l13Draw.l0]
    exact evn (by omega) (evc fun _ => rfl)
  | succ r ih =>
    intro hr acc fr p c ha hacc h0 h1
    obtain ⟨a, q, d, hpk, ha1, ha2, hq1, hq2⟩ := pick_ok hb p c 3 (by omega) (by omega) (by omega)
    obtain ⟨v, q', d', hv, hl, hrs, h2, h3⟩ := draw_in hb (w : Int) r (ih (by omega)) w [0, 1, 2, 3, 4] [] acc fr (wrap64 (fr + a)) q d (by simp) (by simp; omega) (by simp; omega) ha hacc (by omega) (by omega)
    refine ⟨v, q', d', evsucc ?_, hl, hrs, by omega, by omega⟩
    simp only [spec_l13Draw.l0]
    exact evp (by omega) (evk hpk hv)
theorem draw_ev {l : List Int} (hb : Bytes l) (p c : Int) (w : Nat) (hw : 1 ≤ w) (hw2 : w ≤ 4) (h0 : 0 ≤ p) (h1 : p ≤ 500) :
    ∃ v q d, Ev (fun k => spec_l13Draw.f k l p c (w : Int)) (v, q, d) ∧ v.length ≤ 5 ∧ Rows v ∧ p ≤ q ∧ q ≤ p + 101 := by
  obtain ⟨a, q, d, hpk, ha1, ha2, hq1, hq2⟩ := pick_ok hb p c 6 (by omega) (by omega) (by omega)
  obtain ⟨r, rfl⟩ : ∃ r : Nat, a = (r : Int) := ⟨a.toNat, by omega⟩
  obtain ⟨v, q', d', hv, hl, hrs, h2, h3⟩ := draw_l0 hb w hw hw2 r (by omega) [] 1 q d (by simp; omega) (fun x h => by cases h) (by omega) (by omega)
  refine ⟨v, q', d', ?_, hl, hrs, by omega, by omega⟩
  unfold spec_l13Draw.f
  exact evk hpk hv
def Rows5 (v : List S43) : Prop := ∀ x ∈ v, x.f2.length ≤ 5
theorem rows_set {v : List S43} (hv : Rows v) (i : Nat) (y : S43) (hy : y.f2.length ≤ 5) : Rows5 (v.set i y) := by
  intro x hx
  rcases List.mem_or_eq_of_mem_set hx with h | h
  · have := hv x h; omega
  · rw [h]; exact hy
def Evs {β : Type} (g : Nat → Option β) (Q : β → Prop) : Prop := ∃ r, Ev g r ∧ Q r
theorem Evs.p {β : Type} {c : Prop} [Decidable c] {g f : Nat → Option β} {Q : β → Prop} (hc : c) (h : Evs g Q) : Evs (fun k => if c then g k else f k) Q := by
  obtain ⟨r, h, q⟩ := h; exact ⟨r, evp hc h, q⟩
theorem Evs.n {β : Type} {c : Prop} [Decidable c] {g f : Nat → Option β} {Q : β → Prop} (hc : ¬ c) (h : Evs f Q) : Evs (fun k => if c then g k else f k) Q := by
  obtain ⟨r, h, q⟩ := h; exact ⟨r, evn hc h, q⟩
theorem Evs.k {α β : Type} {g : Option α} {f : Nat → α → Option β} {a : α} {Q : β → Prop} (h : g = some a) (k : Evs (fun n => f n a) Q) : Evs (fun n => g.bind (f n)) Q := by
  obtain ⟨r, k, q⟩ := k; exact ⟨r, evk h k, q⟩
theorem Evs.b {α β : Type} {g : Nat → Option α} {f : Nat → α → Option β} {a : α} {Q : β → Prop} (h : Ev g a) (k : Evs (fun n => f n a) Q) : Evs (fun n => (g n).bind (f n)) Q := by
  obtain ⟨r, k, q⟩ := k; exact ⟨r, evb h k, q⟩
theorem Evs.c {β : Type} {g : Nat → Option β} {r : β} {Q : β → Prop} (h : ∀ k, g k = some r) (q : Q r) : Evs g Q := ⟨r, evc h, q⟩
theorem bent_evs {l : List Int} (hb : Bytes l) (p c : Int) (h0 : 0 ≤ p) (h1 : p ≤ 300) :
    Evs (fun k => spec_l13Bent.f k l p c) fun r => r.1.length ≤ 5 ∧ Rows5 r.1 ∧ p ≤ r.2.1 ∧ r.2.1 ≤ p + 120 := by
  obtain ⟨a, q, d, hpk, ha1, ha2, hq1, hq2⟩ := pick_ok hb p c 3 (by omega) (by omega) (by omega)
  obtain ⟨w, hw⟩ : ∃ w : Nat, wrap64 (2 + a) = (w : Int) ∧ 1 ≤ w ∧ w ≤ 4 := ⟨(2 + a).toNat, by unfold wrap64; omega, by omega, by omega⟩
  obtain ⟨v, q1, d1, hv, hl, hrs, h2, h3⟩ := draw_ev hb q d w hw.2.1 hw.2.2 (by omega) (by omega)
  rw [← hw.1] at hv
  have r5 : Rows5 v := fun x hx => by have := hrs x hx; omega
  unfold spec_l13Bent.f
  refine Evs.k hpk (Evs.b hv ?_)
  by_cases g : (v.length : Int) = 0
  · exact Evs.p g (Evs.c (fun _ => rfl) ⟨hl, r5, by show p ≤ q1; omega, by show q1 ≤ _; omega⟩)
  refine Evs.n g ?_
  obtain ⟨b, q2, d2, hpk2, hb1, hb2, hq3, hq4⟩ := pick_ok hb q1 d1 (v.length : Int) (by omega) (by omega) (by omega)
  obtain ⟨e, q3, d3, hpk3, he1, he2, hq5, hq6⟩ := pick_ok hb q2 d2 14 (by omega) (by omega) (by omega)
  refine Evs.k hpk2 (Evs.k hpk3 ?_)
  obtain ⟨i, rfl⟩ : ∃ i : Nat, b = (i : Int) := ⟨b.toNat, by omega⟩
  have hi : i < v.length := by omega
  have hii : (i : Int) < (v.length : Int) := by omega
  have hx := hrs v[i] (List.getElem_mem hi)
  have hrd := rdIv_at hi
  by_cases e0 : e = 0
  · refine Evs.p e0 (Evs.p hb1 (Evs.p hii ?_))
    obtain ⟨z, q4, d4, hpk4, hz1, hz2, hq7, hq8⟩ := pick_ok hb q3 d3 3 (by omega) (by omega) (by omega)
    refine Evs.k hpk4 (Evs.c (fun _ => rfl) ⟨?_, rows_set hrs _ _ ?_, by show p ≤ q4; omega, by show q4 ≤ _; omega⟩)
    · show (v.set _ _).length ≤ 5
      rw [List.length_set]; exact hl
    · show ((rd_T43 v (i : Int)).f2).length ≤ 5
      rw [hrd]; omega
  refine Evs.n e0 ?_
  by_cases e1 : e = 1
  · refine Evs.p e1 ?_
    obtain ⟨z, q4, d4, hpk4, hz1, hq7, hq8⟩ := among_ok hb q3 d3 [0, 60, 61] (by omega) (by omega) (by simp) (by simp)
    refine Evs.k hpk4 (Evs.p hb1 (Evs.p hii (Evs.c (fun _ => rfl) ⟨?_, rows_set hrs _ _ ?_, by show p ≤ q4; omega, by show q4 ≤ _; omega⟩)))
    · show (v.set _ _).length ≤ 5
      rw [List.length_set]; exact hl
    · show ((rd_T43 v (i : Int)).f2).length ≤ 5
      rw [hrd]; omega
  refine Evs.n e1 ?_
  by_cases e2 : e = 2
  · refine Evs.p e2 (Evs.p hb1 (Evs.p hii (Evs.p ?_ (Evs.c (fun _ => rfl) ⟨?_, rows_set hrs _ _ ?_, by show p ≤ q3; omega, by show q3 ≤ _; omega⟩))))
    · show ((rd_T43 v (i : Int)).f2).length < 17592186044416
      rw [hrd]; omega
    · show (v.set _ _).length ≤ 5
      rw [List.length_set]; exact hl
    · show ((rd_T43 v (i : Int)).f2 ++ [5]).length ≤ 5
      rw [hrd, List.length_append]; simp only [List.length_cons, List.length_nil]; omega
  refine Evs.n e2 ?_
  by_cases e3 : e = 3
  · refine Evs.p e3 (Evs.p hb1 (Evs.p hii ?_))
    obtain ⟨z, q4, d4, hpk4, hz1, hq7, hq8⟩ := among_ok hb q3 d3 [16, -2, 1] (by omega) (by omega) (by simp) (by simp)
    refine Evs.k hpk4 (Evs.p ?_ (Evs.c (fun _ => rfl) ⟨?_, rows_set hrs _ _ ?_, by show p ≤ q4; omega, by show q4 ≤ _; omega⟩))
    · show (0 : Int) < (((rd_T43 v (i : Int)).f2).length : Int)
      rw [hrd]; omega
    · show (v.set _ _).length ≤ 5
      rw [List.length_set]; exact hl
    · show ((rd_T43 v (i : Int)).f2.set _ _).length ≤ 5
      rw [hrd, List.length_set]; omega
  · exact Evs.n e3 (Evs.c (fun _ => rfl) ⟨hl, r5, by show p ≤ q3; omega, by show q3 ≤ _; omega⟩)
theorem bent_ev {l : List Int} (hb : Bytes l) (p c : Int) (h0 : 0 ≤ p) (h1 : p ≤ 300) :
    ∃ v q d, Ev (fun k => spec_l13Bent.f k l p c) (v, q, d) ∧ v.length ≤ 5 ∧ Rows5 v ∧ p ≤ q ∧ q ≤ p + 120 := by
  obtain ⟨⟨v, q, d⟩, h, h2⟩ := bent_evs hb p c h0 h1
  exact ⟨v, q, d, h, h2⟩
theorem some_ev {l : List Int} (hb : Bytes l) (p c : Int) (h0 : 0 ≤ p) (h1 : p ≤ 500) : ∃ h q d, Ev (fun k => spec_l13Some.f k l p c) (h, q, d) ∧ h.length ≤ 7 := by
  have : ∀ (d i : Nat) (acc : List Int) (p c : Int), i + d = 6 → acc.length ≤ i → 0 ≤ p → p + d ≤ 600 → ∃ h q e, Ev (fun k => spec_l13Some.l0 k acc (i : Int) l p c) (h, q, e) ∧ h.length ≤ 7 := by
    intro d
    induction d with
    | zero =>
      intro i acc p c h ha h0 h1
      obtain ⟨b, q, e, ho, hq1, hq2⟩ := one_ok hb p c 20 (by omega) (by omega) (by omega)
      cases b with
      | true =>
        obtain ⟨z, q4, d4, hpk4, hz1, hq7, hq8⟩ := among_ok hb q e [0, 15, 16] (by omega) (by omega) (by simp) (by simp)
        refine ⟨acc ++ [z], q4, d4, evsucc ?_, by simp; omega⟩
        simp only [spec_l13Some.l0]
        exact evn (by omega) (evk ho (evp rfl (evk hpk4 (evp (by omega) (evc fun _ => rfl)))))
      | false =>
        refine ⟨acc, q, e, evsucc ?_, by omega⟩
        simp only [spec_l13Some.l0]
        exact evn (by omega) (evk ho (evn (by simp) (evc fun _ => rfl)))
    | succ d ih =>
      intro i acc p c h ha h0 h1
      obtain ⟨b, q, e, ho, hq1, hq2⟩ := one_ok hb p c 3 (by omega) (by omega) (by omega)
      have ei : wrap64 ((i : Int) + 1) = ((i + 1 : Nat) : Int) := by unfold wrap64; omega
      cases b with
      | true =>
        obtain ⟨hh, q4, d4, hv, hl⟩ := ih (i + 1) acc q e (by omega) (by omega) (by omega) (by omega)
        refine ⟨hh, q4, d4, evsucc ?_, hl⟩
        simp only [spec_l13Some.l0]
        rw [ei]
        exact evp (by omega) (evk ho (evp rfl hv))
      | false =>
        obtain ⟨hh, q4, d4, hv, hl⟩ := ih (i + 1) (acc ++ [(i : Int)]) q e (by omega) (by simp; omega) (by omega) (by omega)
        refine ⟨hh, q4, d4, evsucc ?_, hl⟩
        simp only [spec_l13Some.l0]
        rw [ei]
        exact evp (by omega) (evk ho (evn (by simp) (evp (by omega) hv)))
  obtain ⟨h, q, d, hv, hl⟩ := this 6 0 [] p c (by omega) (by simp) (by omega) (by omega)
  exact ⟨h, q, d, by simpa [spec_l13Some.f] using hv, hl⟩
theorem drawn_ev {l : List Int} (hb : Bytes l) : ∃ v kk s h, Ev (fun k => spec_DrawHeardEnough.f k l) (v, kk, s, h) ∧ v.length ≤ 5 ∧ Rows5 v ∧ (0 ≤ kk ∧ kk ≤ 8) ∧ h.length ≤ 7 := by
  obtain ⟨v, q, d, hv, hl, hr, h2, h3⟩ := bent_ev hb 0 0 (by omega) (by omega)
  have hkk : ∀ z : Int, z ∈ ([1, 1, 2, 2, 3, 0, 7, 8] : List Int) → 0 ≤ z ∧ z ≤ 8 := by
    intro z hz
    simp only [List.mem_cons, List.not_mem_nil, or_false] at hz
    omega
  have hj : ∀ (b : Bool) (p c : Int), (b = true → 0 < v.length) → 0 ≤ p → p ≤ 200 → ∃ kk s h, Ev (fun k => spec_DrawHeardEnough.j0 k v 0 b l p c) (v, kk, s, h) ∧ (0 ≤ kk ∧ kk ≤ 8) ∧ h.length ≤ 7 := by
    intro b p c hpos h0 h1
    cases b with
    | true =>
      have hpos := hpos rfl
      obtain ⟨a, q1, d1, hpk, ha1, ha2, hq1, hq2⟩ := pick_ok hb p c (v.length : Int) (by omega) (by omega) (by omega)
      obtain ⟨z, q2, d2, hpk2, hz, hq3, hq4⟩ := among_ok hb q1 d1 [1, 1, 2, 2, 3, 0, 7, 8] (by omega) (by omega) (by simp) (by simp)
      obtain ⟨h, q3, d3, hs, hhl⟩ := some_ev hb q2 d2 (by omega) (by omega)
      refine ⟨z, (rd_T43 v a).f0, h, evsucc ?_, hkk z hz, hhl⟩
      simp only [spec_DrawHeardEnough.j0]
      exact evp (by trivial) (evk hpk (evp ha1 (evp (by show a < _; omega) (evk hpk2 (evb hs (evc fun _ => rfl))))))
    | false =>
      obtain ⟨z, q2, d2, hpk2, hz, hq3, hq4⟩ := among_ok hb p c [1, 1, 2, 2, 3, 0, 7, 8] (by omega) (by omega) (by simp) (by simp)
      obtain ⟨h, q3, d3, hs, hhl⟩ := some_ev hb q2 d2 (by omega) (by omega)
      refine ⟨z, 0, h, evsucc ?_, hkk z hz, hhl⟩
      simp only [spec_DrawHeardEnough.j0]
      exact evn (by simp) (evk hpk2 (evb hs (evc fun _ => rfl)))
  unfold spec_DrawHeardEnough.f
  have hfrom : spec_l00From.f l = some (l, 0, 0) := rfl
  by_cases g : (v.length : Int) > 0
  · obtain ⟨b, q1, d1, ho, hq1, hq2⟩ := one_ok hb q d 2 (by omega) (by omega) (by omega)
    obtain ⟨kk, s, h, hj1, hk, hhl⟩ := hj b q1 d1 (fun _ => by omega) (by omega) (by omega)
    exact ⟨v, kk, s, h, evk hfrom (evb hv (evp g (evk ho hj1))), hl, hr, hk, hhl⟩
  · obtain ⟨kk, s, h, hj1, hk, hhl⟩ := hj false q d (fun h => by cases h) (by omega) (by omega)
    exact ⟨v, kk, s, h, evk hfrom (evb hv (evn g hj1)), hl, hr, hk, hhl⟩
theorem at_ok {l : List Int} (hb : Bytes l) : ∃ n, laws_c2At.f l 0 16 = some n ∧ 0 ≤ n ∧ n ≤ 15 := by
  unfold laws_c2At.f
  rw [if_neg (by omega)]
  by_cases h : (0 : Int) < (l.length : Int)
  · rw [if_pos h, if_pos (by omega), if_neg (by omega)]
    have hi : 0 < l.length := by omega
    have e : rd l 0 = l[0] := rd_at (i := 0) hi
    have := hb l[0] (List.getElem_mem hi)
    rw [e]
    have h0 : 0 ≤ wrap64 l[0] := by unfold wrap64; omega
    have h1 := Int.tmod_nonneg (16 : Int) h0
    have h2 := Int.tmod_lt_of_pos (wrap64 l[0]) (show (0 : Int) < 16 by omega)
    exact ⟨_, rfl, h1, by omega⟩
  · rw [if_neg h, if_neg (by omega)]
    have e : wrap64 (wrap64 (0 * 29) + 5) = 5 := by unfold wrap64; omega
    rw [e]
    have h1 := Int.tmod_nonneg (a := 5) (16 : Int) (by omega)
    have h2 := Int.tmod_lt_of_pos (5 : Int) (show (0 : Int) < 16 by omega)
    exact ⟨_, rfl, h1, by omega⟩
theorem chn_of_pairwise : ∀ l : List Int, l.Pairwise (· < ·) → chn l = true
  | [], _ => rfl
  | [_], _ => rfl
  | x :: y :: r, h => by
    rw [List.pairwise_cons] at h
    simp only [chn, Bool.and_eq_true, decide_eq_true_eq]
    exact ⟨h.1 y (by simp), chn_of_pairwise (y :: r) h.2⟩
/-- What the list of those heard, with one more, keeps while it grows. -/
structure Inv (h : List Int) (n : Int) (i : Nat) (W : List Int) (fl : Bool) : Prop where
  len : W.length ≤ i + 1
  sub : (h.take i).Sublist W
  pw : W.Pairwise (· < ·)
  inr : ∀ y ∈ W, 0 ≤ y ∧ y ≤ 15
  lt : ∀ y ∈ W, ∀ z ∈ h.drop i, y < z
  ln : fl = false → W.length ≤ i ∧ ∀ y ∈ W, y < n
/-- What a grown list keeps where those heard do not rise within the reach: its length alone. -/
def Inv0 (h : List Int) (n : Int) (i : Nat) (W : List Int) (fl : Bool) : Prop := W.length ≤ i + 1 ∧ (fl = false → W.length ≤ i) ∧ ((h.Pairwise (· < ·) ∧ ∀ y ∈ h, 0 ≤ y ∧ y ≤ 15) → Inv h n i W fl)
theorem Inv.start (h : List Int) (n : Int) : Inv0 h n 0 [] false :=
  ⟨by simp, fun _ => by simp, fun _ => ⟨by simp, by simp, List.Pairwise.nil, by simp, by simp, fun _ => by simp⟩⟩
theorem Inv.push {h : List Int} {n : Int} {i : Nat} {W : List Int} {fl fl' : Bool} (hi : i < h.length) (g : h.Pairwise (· < ·) ∧ ∀ y ∈ h, 0 ≤ y ∧ y ≤ 15) (I : Inv h n i W fl) (hf : fl' = false → fl = false ∧ h[i] < n) : Inv h n (i + 1) (W ++ [h[i]]) fl' := by
  have hd := drop_at hi
  have hp : (h.drop i).Pairwise (· < ·) := g.1.sublist (List.drop_sublist i h)
  rw [hd, List.pairwise_cons] at hp
  refine ⟨by have := I.len; simp; omega, ?_, ?_, ?_, ?_, ?_⟩
  · rw [take_at hi]; exact I.sub.append (List.Sublist.refl _)
  · rw [List.pairwise_append]
    refine ⟨I.pw, by simp, fun a ha b hb => ?_⟩
    rw [List.mem_singleton.1 hb]
    exact I.lt a ha _ (by rw [hd]; exact List.mem_cons_self)
  · intro y hy
    rcases List.mem_append.1 hy with hy | hy
    · exact I.inr y hy
    · rw [List.mem_singleton.1 hy]; exact g.2 _ (List.getElem_mem hi)
  · intro y hy z hz
    rcases List.mem_append.1 hy with hy | hy
    · exact I.lt y hy z (by rw [hd]; exact List.mem_cons_of_mem _ hz)
    · rw [List.mem_singleton.1 hy]; exact hp.1 z hz
  · intro hff
    obtain ⟨h1, h2⟩ := hf hff
    refine ⟨by have := (I.ln h1).1; simp; omega, fun y hy => ?_⟩
    rcases List.mem_append.1 hy with hy | hy
    · exact (I.ln h1).2 y hy
    · rw [List.mem_singleton.1 hy]; exact h2
theorem Inv.one {h : List Int} {n : Int} {i : Nat} {W : List Int} (hn : 0 ≤ n ∧ n ≤ 15) (hz : ∀ z ∈ h.drop i, n < z) (I : Inv h n i W false) : Inv h n i (W ++ [n]) true := by
  have hl := I.ln rfl
  refine ⟨by simp; omega, I.sub.trans (List.sublist_append_left _ _), ?_, ?_, ?_, fun h => by cases h⟩
  · rw [List.pairwise_append]
    refine ⟨I.pw, by simp, fun a ha b hb => ?_⟩
    rw [List.mem_singleton.1 hb]; exact hl.2 a ha
  · intro y hy
    rcases List.mem_append.1 hy with hy | hy
    · exact I.inr y hy
    · rw [List.mem_singleton.1 hy]; exact hn
  · intro y hy z hz2
    rcases List.mem_append.1 hy with hy | hy
    · exact I.lt y hy z hz2
    · rw [List.mem_singleton.1 hy]; exact hz z hz2
theorem any_imp {α : Type} (l : List α) (p q : α → Bool) (h : ∀ x ∈ l, p x = true → q x = true) (hq : l.any q = false) : l.any p = false := by
  rw [List.any_eq_false] at hq ⊢
  exact fun x hx hp => hq x hx (h x hx hp)
theorem enB_more (v : List S43) (kk kk' s : Int) (h W : List Int) (hs : h.Sublist W) (hk : kk' ≤ kk) (he : enB v kk s h = true) : enB v kk' s W = true := by
  unfold enB at he ⊢
  rw [Bool.and_eq_true] at he ⊢
  refine ⟨he.1, ?_⟩
  have h2 := he.2
  simp only [Bool.not_eq_true'] at h2 ⊢
  refine any_imp v _ _ (fun x hx hp => ?_) h2
  rw [Bool.and_eq_true, decide_eq_true_eq] at hp ⊢
  have := (hs.filter fun y => decide (y ∈ x.f2)).length_le
  exact ⟨hp.1, by omega⟩
theorem all_more (v : List S43) (kk kk' s : Int) (h W : List Int) (hs : h.Sublist W) (hk : kk' ≤ kk) (hk1 : 1 ≤ kk') (hW : W.Pairwise (· < ·)) (hr : ∀ y ∈ W, 0 ≤ y ∧ y ≤ 15) (he : allEnB v kk s h = true) : allEnB v kk' s W = true := by
  unfold allEnB at he ⊢
  simp only [Bool.and_eq_true, decide_eq_true_eq] at he ⊢
  refine ⟨he.1, ⟨hk1, by omega⟩, ⟨?_, chn_of_pairwise W hW⟩, enB_more v kk kk' s h W hs hk he.2.2.2⟩
  unfold inR
  rw [List.all_eq_true]
  exact fun y hy => decide_eq_true (hr y hy)
theorem all_facts {v : List S43} {kk s : Int} {h : List Int} (he : allEnB v kk s h = true) : (1 ≤ kk ∧ kk ≤ 7) ∧ h.Pairwise (· < ·) ∧ ∀ y ∈ h, 0 ≤ y ∧ y ≤ 15 := by
  unfold allEnB at he
  simp only [Bool.and_eq_true, decide_eq_true_eq] at he
  refine ⟨he.2.1, chn_pairwise h he.2.2.1.2, fun y hy => ?_⟩
  have := he.2.2.1.1
  unfold inR at this
  rw [List.all_eq_true] at this
  exact of_decide_eq_true (this y hy)
theorem fn_end (v : List S43) (kk s : Int) (h : List Int) (n : Int) (hl : v.length ≤ 5) (hr : Rows5 v) (hk : 0 ≤ kk ∧ kk ≤ 8) (hh : h.length ≤ 7) (W : List Int) (hW : W.length ≤ 8) (he : allEnB v kk s h = true) (I : Inv h n h.length W true) :
    Ev (fun k => (impl_HeardEnough.f k v kk s W).bind fun t400 => if t400 = true then (if kk ≤ 1 then (some true) else ((impl_HeardEnough.f k v (wrap64 (kk - 1)) s h).bind fun t401 => (some t401))) else (some false)) true := by
  obtain ⟨hk1, hp, hin⟩ := all_facts he
  have hsub : h.Sublist W := by have := I.sub; rwa [List.take_length] at this
  have hi := heImpl v kk s W (by omega) (fun x hx => by have := hr x hx; omega) (by omega)
  rw [all_more v kk kk s h W hsub (by omega) hk1.1 I.pw I.inr he] at hi
  refine evb hi (evp rfl ?_)
  by_cases g : kk ≤ 1
  · exact evp g (evc fun _ => rfl)
  · have e : wrap64 (kk - 1) = kk - 1 := by unfold wrap64; omega
    have hi2 := heImpl v (kk - 1) s h (by omega) (fun x hx => by have := hr x hx; omega) (by omega)
    rw [all_more v kk (kk - 1) s h h (List.Sublist.refl _) (by omega) (by omega) hp hin he] at hi2
    rw [e]
    exact evn g (evb hi2 (evc fun _ => rfl))
theorem fn_loop (v : List S43) (kk s : Int) (h : List Int) (n : Int) (hl : v.length ≤ 5) (hr : Rows5 v) (hk : 0 ≤ kk ∧ kk ≤ 8) (hh : h.length ≤ 7) (hn : 0 ≤ n ∧ n ≤ 15) : ∀ (d i : Nat) (W : List Int) (fl : Bool), i + d = h.length → Inv0 h n i W fl →
    Ev (fun k => laws_FnHeard.l0 k v kk s h (allEnB v kk s h) n W fl (i : Int)) true := by
  intro d
  induction d with
  | zero =>
    intro i W fl hd I
    have hi : i = h.length := by omega
    subst hi
    apply evsucc
    simp only [laws_FnHeard.l0]
    refine evn (by omega) ?_
    have hWl := I.1
    cases fl with
    | true =>
      refine evp (by trivial) ?_
      cases he : allEnB v kk s h with
      | false => exact evn (by simp) (evc fun _ => rfl)
      | true =>
        refine evp (by trivial) ?_
        exact fn_end v kk s h n hl hr hk hh W (by omega) he (I.2.2 (all_facts he).2)
    | false =>
      refine evn (by simp) (evp (by omega) ?_)
      cases he : allEnB v kk s h with
      | false => exact evn (by simp) (evc fun _ => rfl)
      | true =>
        refine evp (by trivial) ?_
        have J := I.2.2 (all_facts he).2
        exact fn_end v kk s h n hl hr hk hh (W ++ [n]) (by have := (J.ln rfl).1; simp; omega) he (J.one hn (by rw [List.drop_length]; simp))
  | succ d ih =>
    intro i W fl hd I
    have hi : i < h.length := by omega
    have hWl := I.1
    have hc : (i : Int) < (h.length : Int) := by omega
    have e1 : wrap64 ((i : Int) + 1) = ((i + 1 : Nat) : Int) := wsucc hi (by omega)
    have next : ∀ (fl' : Bool), (fl' = false → fl = false ∧ h[i] < n) → Ev (fun k => laws_FnHeard.l0 k v kk s h (allEnB v kk s h) n (W ++ [h[i]]) fl' ((i + 1 : Nat) : Int)) true := fun fl' hf =>
      ih (i + 1) _ fl' (by omega) ⟨by simp; omega, fun h0 => by have := I.2.1 (hf h0).1; simp; omega, fun g => (I.2.2 g).push hi g hf⟩
    have hfalse : (fl = false → h[i] < n) → Ev (fun k => laws_FnHeard.j1 k v kk s h (allEnB v kk s h) n W fl (i : Int) false) true := fun hf => by
      apply evsucc
      simp only [laws_FnHeard.j1]
      rw [rd_at hi, e1]
      exact evn (by simp) (evp (by omega) (evp hc (evp (by omega) (next fl fun h => ⟨h, hf h⟩))))
    apply evsucc
    simp only [laws_FnHeard.l0]
    refine evp hc ?_
    cases fl with
    | true => exact evp (by trivial) (hfalse fun h => by cases h)
    | false =>
      refine evn (by simp) (evp (by omega) ?_)
      rw [rd_at hi]
      by_cases g : h[i] ≥ n
      · rw [decide_eq_true g]
        apply evsucc
        simp only [laws_FnHeard.j1]
        rw [rd_at hi, e1]
        refine evp (by trivial) (evp (by omega) (evp hc ?_))
        by_cases g2 : h[i] > n
        · refine evp g2 (evp (by omega) (evk rfl (evp ?_ ?_)))
          · show (W ++ [n]).length < 17592186044416
            simp; omega
          · have key : Inv0 h n (i + 1) (W ++ [n] ++ [h[i]]) true := by
              refine ⟨?_, (fun hf => by cases hf), fun g0 => ?_⟩
              · have := I.2.1 rfl; simp; omega
              · have J := I.2.2 g0
                have hz : ∀ z ∈ h.drop i, n < z := by
                  have hp : (h.drop i).Pairwise (· < ·) := g0.1.sublist (List.drop_sublist i h)
                  rw [drop_at hi, List.pairwise_cons] at hp
                  intro z hz
                  rw [drop_at hi] at hz
                  rcases List.mem_cons.1 hz with e | hz
                  · omega
                  · have := hp.1 z hz; omega
                exact (J.one hn hz).push hi g0 (fun h => by cases h)
            exact ih (i + 1) (W ++ [n] ++ [h[i]]) true (by omega) key
        · exact evn g2 (evp (by omega) (next true fun h => by cases h))
      · rw [decide_eq_false g]
        exact hfalse fun _ => by omega
theorem FnHeard : Stmt.FnHeard.PureS := by
  intro l0 l1 ⟨_, _, hw0⟩ ⟨_, _, hw1⟩
  have hb0 : Bytes l0 := fun x hx => Go.bounds_u8 (hw0 x hx)
  have hb1 : Bytes l1 := fun x hx => Go.bounds_u8 (hw1 x hx)
  obtain ⟨v, kk, s, h, hd, hl, hr, hk, hh⟩ := drawn_ev hb0
  apply ev_ex
  unfold laws_FnHeard.f
  obtain ⟨b, hb⟩ : ∃ b, laws_c2Big.f l0 l1 = some b := by unfold laws_c2Big.f; split <;> exact ⟨_, rfl⟩
  refine evk hb ?_
  cases b with
  | true => exact evp (by trivial) (evc fun _ => rfl)
  | false =>
    obtain ⟨n, hn, hn0, hn1⟩ := at_ok hb1
    have hi := heImpl v kk s h (by omega) (fun x hx => by have := hr x hx; omega) (by omega)
    have hs := heSpec v kk s h (by omega) (fun x hx => by have := hr x hx; omega) (by omega)
    refine evn (by simp) (evb hd (evb hi (evb hs (evn (by simp) (evk hn ?_)))))
    exact fn_loop v kk s h n hl hr hk hh ⟨hn0, hn1⟩ h.length 0 [] false (by omega) (Inv.start h n)
end Go.Proofs.Ytfeaokelfbjcdaa.Pure
