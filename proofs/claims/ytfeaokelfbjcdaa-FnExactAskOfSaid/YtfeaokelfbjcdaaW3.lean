/- Contracts of the seat: acting sets. No condition. -/
import Derived.Test.YtfeaokelfbjcdaaV2
import Derived.Test.YtfeaokelfbjcdaaE31
import Derived.Lib.SlicesCompact
namespace Go.Ve
open Go.Proofs Go.RowKit
set_option linter.unusedVariables false
set_option linter.unusedSimpArgs false
set_option maxRecDepth 10000
set_option maxHeartbeats 4000000
def btw (n lo hi : Int) : Bool := decide (lo ≤ n) && decide (n ≤ hi)
def has (l : List Int) (x : Int) : Bool := l.any fun y => decide (y = x)
theorem has_iff {l : List Int} {x : Int} : has l x = true ↔ x ∈ l := by simp [has]
@[go_sem] theorem take_map_len {α β : Type} {f : α → β} {l : List α} : (l.map f).take l.length = l.map f := List.take_of_length_le (by simp)
def actL : List Int → List Int → Bool
  | _, [] => true
  | p, x :: l => btw x (-1) 15 && !(decide (0 ≤ x) && has p x) && actL (p ++ [x]) l
def actOk (l : List Int) : Bool := actL [] l && btw (l.length : Int) 1 7
def hdA : List Itv → List Int
  | [] => []
  | v :: _ => v.acting
def itvL (h : List Int) : Int → List Itv → Bool
  | _, [] => true
  | nx, v :: l => decide (v.first = nx) && btw v.last v.first 60 && actOk v.acting && decide (v.acting.length = h.length) && itvL h (v.last + 1) l
def itvsOk (l : List Itv) : Bool := itvL (hdA l) 1 l && decide ((l.length : Int) ≤ 60)
def insL (v : Int) : List Int → List Int
  | [] => [v]
  | y :: r => if v ≤ y then (if v < y then v :: y :: r else y :: r) else y :: insL v r
/-- The rounds of an insertion. -/
def insG (v : Int) : Bool → List Int → List Int
  | d, [] => if d = true then [] else [v]
  | d, y :: r => if d = false ∧ v ≤ y then (if v < y then v :: y :: insG v true r else y :: insG v true r) else y :: insG v d r
theorem insG_true {v : Int} : ∀ l : List Int, insG v true l = l
  | [] => by simp [insG]
  | y :: r => by simp [insG, insG_true r]
theorem insG_false {v : Int} : ∀ l : List Int, insG v false l = insL v l
  | [] => by simp [insG, insL]
  | y :: r => by
    simp only [insG, insL, insG_true, insG_false r, true_and]
def memG : List Int → List Int → List Int
  | acc, [] => acc
  | acc, n :: r => if 0 ≤ n then memG (insL n acc) r else memG acc r
def putAllL : List Int → List Int → List Int
  | acc, [] => acc
  | acc, n :: r => putAllL (insL n acc) r
def askG : List Int → List Itv → List Int
  | acc, [] => acc
  | acc, v :: l => askG (putAllL acc (memG [] v.acting)) l
def sortL (l : List Int) : List Int := l.mergeSort fun x y => decide (x ≤ y)
def membI (l : List Int) : List Int := sortL (l.filter fun x => !decide (x = -1))
def catI : List Itv → List Int
  | [] => []
  | v :: l => membI v.acting ++ catI l
def askI (l : List Itv) : List Int := Lib.compact (sortL (catI l))
theorem eq_of_strict : ∀ (a b : List Int), a.Pairwise (· < ·) → b.Pairwise (· < ·) → (∀ x, x ∈ a ↔ x ∈ b) → a = b
  | [], [], _, _, _ => rfl
  | [], y :: b, _, _, h => absurd ((h y).2 (by simp)) (by simp)
  | x :: a, [], _, _, h => absurd ((h x).1 (by simp)) (by simp)
  | x :: a, y :: b, ha, hb, h => by
    have ha' := List.pairwise_cons.1 ha
    have hb' := List.pairwise_cons.1 hb
    have e : x = y := by
      rcases List.mem_cons.1 ((h x).1 (by simp)) with e | e
      · exact e
      · rcases List.mem_cons.1 ((h y).2 (by simp)) with e2 | e2
        · exact e2.symm
        · have := hb'.1 x e
          have := ha'.1 y e2
          omega
    subst e
    rw [eq_of_strict a b ha'.2 hb'.2 (fun z => ⟨fun hz => by
      rcases List.mem_cons.1 ((h z).1 (List.mem_cons_of_mem _ hz)) with e | e
      · have := ha'.1 z hz; omega
      · exact e, fun hz => by
      rcases List.mem_cons.1 ((h z).2 (List.mem_cons_of_mem _ hz)) with e | e
      · have := hb'.1 z hz; omega
      · exact e⟩)]
theorem insL_mem (v x : Int) : ∀ l : List Int, x ∈ insL v l ↔ x = v ∨ x ∈ l
  | [] => by simp [insL]
  | y :: r => by
    have ih := insL_mem v x r
    simp only [insL]
    by_cases h1 : v ≤ y
    · rw [if_pos h1]
      by_cases h2 : v < y
      · rw [if_pos h2]; simp
      · rw [if_neg h2]
        have e : y = v := by omega
        subst e
        simp
    · rw [if_neg h1, List.mem_cons, ih, List.mem_cons]
      exact ⟨fun h => h.elim (fun e => .inr (.inl e)) (fun e => e.elim .inl (fun e => .inr (.inr e))), fun h => h.elim (fun e => .inr (.inl e)) (fun e => e.elim .inl (fun e => .inr (.inr e)))⟩
theorem insL_strict (v : Int) : ∀ l : List Int, l.Pairwise (· < ·) → (insL v l).Pairwise (· < ·)
  | [], _ => by simp [insL]
  | y :: r, h => by
    have h' := List.pairwise_cons.1 h
    simp only [insL]
    by_cases h1 : v ≤ y
    · rw [if_pos h1]
      by_cases h2 : v < y
      · rw [if_pos h2]
        refine List.pairwise_cons.2 ⟨fun a ha => ?_, h⟩
        rcases List.mem_cons.1 ha with rfl | ha
        · exact h2
        · have := h'.1 a ha; omega
      · rw [if_neg h2]; exact h
    · rw [if_neg h1]
      refine List.pairwise_cons.2 ⟨fun a ha => ?_, insL_strict v r h'.2⟩
      rcases (insL_mem v a r).1 ha with e | e
      · omega
      · exact h'.1 a e
theorem insL_len (v : Int) : ∀ l : List Int, (insL v l).length ≤ l.length + 1
  | [] => by simp [insL]
  | y :: r => by
    have := insL_len v r
    simp only [insL]
    split
    · split <;> simp
    · simp only [List.length_cons]; omega
theorem memG_strict : ∀ (l acc : List Int), acc.Pairwise (· < ·) → (memG acc l).Pairwise (· < ·)
  | [], _, h => h
  | n :: r, acc, h => by
    simp only [memG]
    split
    · exact memG_strict r _ (insL_strict n acc h)
    · exact memG_strict r _ h
theorem memG_mem (x : Int) : ∀ (l acc : List Int), x ∈ memG acc l ↔ x ∈ acc ∨ (x ∈ l ∧ 0 ≤ x)
  | [], acc => by simp [memG]
  | n :: r, acc => by
    simp only [memG]
    by_cases h0 : 0 ≤ n
    · rw [if_pos h0, memG_mem x r, insL_mem, List.mem_cons]
      constructor
      · rintro ((rfl | h) | h)
        · exact .inr ⟨.inl rfl, h0⟩
        · exact .inl h
        · exact .inr ⟨.inr h.1, h.2⟩
      · rintro (h | ⟨rfl | h, h2⟩)
        · exact .inl (.inr h)
        · exact .inl (.inl rfl)
        · exact .inr ⟨h, h2⟩
    · rw [if_neg h0, memG_mem x r, List.mem_cons]
      constructor
      · rintro (h | ⟨h, h2⟩)
        · exact .inl h
        · exact .inr ⟨.inr h, h2⟩
      · rintro (h | ⟨rfl | h, h2⟩)
        · exact .inl h
        · exact absurd h2 h0
        · exact .inr ⟨h, h2⟩
theorem memG_len : ∀ (l acc : List Int), (memG acc l).length ≤ acc.length + l.length
  | [], acc => by simp [memG]
  | n :: r, acc => by
    have := insL_len n acc
    have h1 := memG_len r (insL n acc)
    have h2 := memG_len r acc
    simp only [memG, List.length_cons]
    split <;> omega
theorem putAllL_strict : ∀ (l acc : List Int), acc.Pairwise (· < ·) → (putAllL acc l).Pairwise (· < ·)
  | [], _, h => h
  | n :: r, acc, h => putAllL_strict r _ (insL_strict n acc h)
theorem putAllL_mem (x : Int) : ∀ (l acc : List Int), x ∈ putAllL acc l ↔ x ∈ acc ∨ x ∈ l
  | [], acc => by simp [putAllL]
  | n :: r, acc => by
    simp only [putAllL]
    rw [putAllL_mem x r, insL_mem, List.mem_cons]
    constructor
    · rintro ((h | h) | h)
      · exact .inr (.inl h)
      · exact .inl h
      · exact .inr (.inr h)
    · rintro (h | h | h)
      · exact .inl (.inr h)
      · exact .inl (.inl h)
      · exact .inr h
theorem putAllL_len : ∀ (l acc : List Int), (putAllL acc l).length ≤ acc.length + l.length
  | [], acc => by simp [putAllL]
  | n :: r, acc => by
    have := insL_len n acc
    have h1 := putAllL_len r (insL n acc)
    simp only [putAllL, List.length_cons]
    omega
theorem askG_strict : ∀ (l : List Itv) (acc : List Int), acc.Pairwise (· < ·) → (askG acc l).Pairwise (· < ·)
  | [], _, h => h
  | v :: l, acc, h => askG_strict l _ (putAllL_strict _ acc h)
theorem askG_mem (x : Int) : ∀ (l : List Itv) (acc : List Int), x ∈ askG acc l ↔ x ∈ acc ∨ ∃ v ∈ l, x ∈ v.acting ∧ 0 ≤ x
  | [], acc => by simp [askG]
  | v :: l, acc => by
    simp only [askG]
    rw [askG_mem x l, putAllL_mem, memG_mem]
    simp only [List.not_mem_nil, false_or, List.mem_cons, exists_eq_or_imp]
    constructor
    · rintro ((h | h) | h)
      · exact .inl h
      · exact .inr (.inl h)
      · exact .inr (.inr h)
    · rintro (h | h | h)
      · exact .inl (.inl h)
      · exact .inl (.inr h)
      · exact .inr h
theorem actL_ge : ∀ {l p : List Int}, actL p l = true → ∀ x ∈ l, -1 ≤ x
  | [], _, _, x, hx => by cases hx
  | y :: l, p, h, x, hx => by
    simp only [actL, btw, Bool.and_eq_true, decide_eq_true_eq] at h
    rcases List.mem_cons.1 hx with rfl | hx
    · exact h.1.1.1
    · exact actL_ge h.2 x hx
theorem itvL_act {h : List Int} : ∀ {l : List Itv} {n : Int}, itvL h n l = true → ∀ v ∈ l, actOk v.acting = true
  | [], _, _, v, hv => by cases hv
  | w :: l, n, hh, v, hv => by
    simp only [itvL, Bool.and_eq_true] at hh
    rcases List.mem_cons.1 hv with rfl | hv
    · exact hh.1.1.2
    · exact itvL_act hh.2 v hv
theorem sortL_mem {x : Int} {l : List Int} : x ∈ sortL l ↔ x ∈ l := by simp [sortL]
theorem sortL_len {l : List Int} : (sortL l).length = l.length := by simp [sortL]
theorem sortL_sorted (l : List Int) : (sortL l).Pairwise (· ≤ ·) := by
  have := List.pairwise_mergeSort (le := fun x y : Int => decide (x ≤ y)) (fun a b c h1 h2 => by simp at *; omega) (fun a b => by simp; omega) l
  simpa [sortL] using this
theorem catI_mem (x : Int) : ∀ l : List Itv, x ∈ catI l ↔ ∃ v ∈ l, x ∈ v.acting ∧ x ≠ -1
  | [] => by simp [catI]
  | v :: l => by
    simp only [catI, List.mem_append, catI_mem x l, membI, sortL_mem, List.mem_filter, List.mem_cons, exists_eq_or_imp]
    simp
theorem compact_spec {l : List Int} (hs : l.Pairwise (· ≤ ·)) : ∀ m, m ≤ l.length → (Lib.compactUpTo l.toArray m).Pairwise (· < ·) ∧ ∀ x, x ∈ Lib.compactUpTo l.toArray m ↔ x ∈ l.take m
  | 0, _ => by simp [Lib.compactUpTo]
  | m + 1, hm => by
    obtain ⟨ih1, ih2⟩ := compact_spec hs m (by omega)
    have hget : l.toArray[m]! = l[m] := by simp [getElem!_pos, show m < l.length by omega]
    rw [Lib.compactUpTo_succ, List.take_add_one, List.getElem?_eq_getElem (show m < l.length by omega), hget]
    have hle : ∀ x ∈ l.take m, x ≤ l[m] := fun x hx => by
      obtain ⟨j, hj⟩ := List.mem_iff_getElem?.1 hx
      rw [List.getElem?_take] at hj
      split at hj
      · rename_i hjm
        obtain ⟨hjl, rfl⟩ := List.getElem?_eq_some_iff.1 hj
        exact List.pairwise_iff_getElem.1 hs j m hjl (by omega) hjm
      · cases hj
    by_cases hk : Lib.keeps l.toArray m = true
    · rw [if_pos hk]
      refine ⟨List.pairwise_append.2 ⟨ih1, by simp, fun a ha b hb => ?_⟩, fun x => by rw [List.mem_append, List.mem_append, ih2 x]; exact Iff.rfl⟩
      simp only [List.mem_cons, List.not_mem_nil, or_false] at hb
      subst hb
      have ha' := (ih2 a).1 ha
      have h1 := hle a ha'
      simp only [Lib.keeps, decide_eq_true_eq] at hk
      rcases hk with rfl | hk
      · simp at ha'
      · cases m with
        | zero => simp at ha'
        | succ q =>
          have hg1 : l.toArray[q + 1 - 1]! = l[q] := by simp [getElem!_pos, show q < l.length by omega]
          rw [hget, hg1] at hk
          have hq : a ≤ l[q] := by
            obtain ⟨j, hj⟩ := List.mem_iff_getElem?.1 ha'
            rw [List.getElem?_take] at hj
            split at hj
            · rename_i hjm
              obtain ⟨hjl, rfl⟩ := List.getElem?_eq_some_iff.1 hj
              rcases Nat.lt_or_ge j q with h | h
              · exact List.pairwise_iff_getElem.1 hs j q hjl (by omega) h
              · have : j = q := by omega
                subst this; exact Int.le_refl _
            · cases hj
          have hqm := List.pairwise_iff_getElem.1 hs q (q + 1) (by omega) (by omega) (by omega)
          omega
    · rw [if_neg hk, List.append_nil]
      refine ⟨ih1, fun x => ?_⟩
      simp only [Lib.keeps, decide_eq_true_eq, not_or, Classical.not_not] at hk
      obtain ⟨hm0, hk⟩ := hk
      cases m with
      | zero => exact absurd rfl hm0
      | succ q =>
        have hg1 : l.toArray[q + 1 - 1]! = l[q] := by simp [getElem!_pos, show q < l.length by omega]
        rw [hget, hg1] at hk
        rw [ih2 x]
        simp only [Option.toList_some, List.mem_append, List.mem_cons, List.not_mem_nil, or_false]
        refine ⟨.inl, fun h => h.elim id fun h => ?_⟩
        subst h
        rw [hk]
        exact List.mem_iff_getElem?.2 ⟨q, by rw [List.getElem?_take, if_pos (by omega), List.getElem?_eq_getElem]⟩
theorem ask_eq {l : List Itv} (h : itvsOk l = true) : askI l = askG [] l := by
  simp only [itvsOk, Bool.and_eq_true] at h
  have hs := sortL_sorted (catI l)
  obtain ⟨h1, h2⟩ := compact_spec hs (sortL (catI l)).length (Nat.le_refl _)
  refine eq_of_strict _ _ h1 (askG_strict l [] List.Pairwise.nil) fun x => ?_
  have h3 := h2 x
  rw [List.take_of_length_le (Nat.le_refl _), sortL_mem, catI_mem] at h3
  refine h3.trans ?_
  rw [askG_mem]
  simp only [List.not_mem_nil, false_or]
  constructor
  · rintro ⟨v, hv, hx, hne⟩
    have ha := itvL_act h.1 v hv
    simp only [actOk, Bool.and_eq_true] at ha
    have := actL_ge ha.1 x hx
    exact ⟨v, hv, hx, by omega⟩
  · rintro ⟨v, hv, hx, h0⟩
    exact ⟨v, hv, hx, by omega⟩

/- impl.between -/
def c47 : SCode := (.seq (.reg [⟨(some 6), .assign (.const (.bool false)), none⟩])
(.seq (.reg [⟨(some 7), .move (.tmp 0), none⟩,
    ⟨(some 8), .move (.tmp 1), none⟩,
    ⟨(some 9), .binOp .geq 2 (.tmp 7) (.tmp 8) 2, none⟩,
    ⟨(some 10), .move (.tmp 9), none⟩,
    ⟨(some 11), .move (.tmp 0), (some (10, true))⟩,
    ⟨(some 12), .move (.tmp 2), (some (10, true))⟩,
    ⟨(some 13), .binOp .leq 2 (.tmp 11) (.tmp 12) 2, (some (10, true))⟩,
    ⟨(some 14), .pick (.tmp 10) (.tmp 13) (.const (.bool false)), none⟩,
    ⟨(some 6), .assign (.tmp 14), none⟩])
 .ret))
theorem s47 : slimF Try.f47 = some (c47, [.t 6], 15) := by kernel_rfl
theorem o47 : okF [] Try.f47 = true := by kernel_rfl
noncomputable def g47 : Fsem := sem3 (En.int .i64) (En.int .i64) (En.int .i64) (fun n0 lo hi => True) (fun n n0 lo hi => .bool (btw n0 lo hi))
@[go_sem] theorem g47_eq {n : Nat} {n0 : Int} {lo : Int} {hi : Int} : g47 n [.int .i64 n0, .int .i64 lo, .int .i64 hi] = ⟨True, .bool (btw n0 lo hi)⟩ := sem3_eq (τ := 0) (τ' := 0) (τ'' := 0) (E := (En.int .i64)) (F := (En.int .i64)) (G := (En.int .i64))
theorem p47 : Pure Try.prog 47 g47 := by
  refine sem3_pure fun τ τ' τ'' n0 lo hi n h2 hpre => ?_
  have hT : Table Try.prog [] := .nil
  have hn0 : n ≠ 0 := by omega
  refine SatP.of_body hT hm Try.func47 s47 o47 h2 (by simp) ?_
  simp (config := {contextual := true, maxSteps := 2000000, implicitDefEqProofs := false}) [c47, go_sem, btw]
/- spec.l00In -/
def c65 : SCode := (.seq (.reg [⟨(some 6), .assign (.const (.bool false)), none⟩])
(.seq (.reg [⟨(some 7), .move (.tmp 0), none⟩,
    ⟨(some 8), .move (.tmp 1), none⟩,
    ⟨(some 9), .binOp .geq 2 (.tmp 7) (.tmp 8) 2, none⟩,
    ⟨(some 10), .move (.tmp 9), none⟩,
    ⟨(some 11), .move (.tmp 0), (some (10, true))⟩,
    ⟨(some 12), .move (.tmp 2), (some (10, true))⟩,
    ⟨(some 13), .binOp .leq 2 (.tmp 11) (.tmp 12) 2, (some (10, true))⟩,
    ⟨(some 14), .pick (.tmp 10) (.tmp 13) (.const (.bool false)), none⟩,
    ⟨(some 6), .assign (.tmp 14), none⟩])
 .ret))
theorem s65 : slimF Try.f65 = some (c65, [.t 6], 15) := by kernel_rfl
theorem o65 : okF [] Try.f65 = true := by kernel_rfl
noncomputable def g65 : Fsem := sem3 (En.int .i64) (En.int .i64) (En.int .i64) (fun n0 lo hi => True) (fun n n0 lo hi => .bool (btw n0 lo hi))
@[go_sem] theorem g65_eq {n : Nat} {n0 : Int} {lo : Int} {hi : Int} : g65 n [.int .i64 n0, .int .i64 lo, .int .i64 hi] = ⟨True, .bool (btw n0 lo hi)⟩ := sem3_eq (τ := 0) (τ' := 0) (τ'' := 0) (E := (En.int .i64)) (F := (En.int .i64)) (G := (En.int .i64))
theorem p65 : Pure Try.prog 65 g65 := by
  refine sem3_pure fun τ τ' τ'' n0 lo hi n h2 hpre => ?_
  have hT : Table Try.prog [] := .nil
  have hn0 : n ≠ 0 := by omega
  refine SatP.of_body hT hm Try.func65 s65 o65 h2 (by simp) ?_
  simp (config := {contextual := true, maxSteps := 2000000, implicitDefEqProofs := false}) [c65, go_sem, btw]
/- slices.Index[[]int64,int64] -/
def c50 : SCode := (.seq (.reg [⟨(some 4), .assign (.const (.int .i64 0)), none⟩])
(.seq (.seq (.reg [⟨(some 6), .move (.tmp 0), none⟩,
     ⟨(some 7), .call ⟨(.builtin .len), #[(.tmp 6)], #[22]⟩, none⟩,
     ⟨(some 8), .move (.const (.int .i64 0)), none⟩])
  (.block 0 (.loop (.seq (.reg [⟨(some 9), .binOp .lss 3 (.tmp 8) (.tmp 7) 3, none⟩])
     (.seq (.cond (.tmp 9) .skip
       (.exit 0))
      (.seq (.block 1 (.seq (.reg [⟨(some 10), .move (.tmp 8), none⟩,
            ⟨(some 5), .assign (.tmp 10), none⟩])
         (.seq (.reg [⟨(some 11), .move (.tmp 1), none⟩,
             ⟨(some 12), .move (.tmp 0), none⟩,
             ⟨(some 13), .move (.tmp 5), none⟩,
             ⟨(some 14), .indexAddr 22 (.tmp 12) (.tmp 13), none⟩,
             ⟨(some 15), .load 2 (.tmp 14), none⟩,
             ⟨(some 16), .binOp .eql 2 (.tmp 11) (.tmp 15) 2, none⟩])
          (.cond (.tmp 16) (.seq (.reg [⟨(some 17), .move (.tmp 5), none⟩,
               ⟨(some 4), .assign (.tmp 17), none⟩])
            .ret)
           .skip))))
       (.reg [⟨(some 18), .binOp .add 3 (.tmp 8) (.const (.int .i64 1)) 3, none⟩,
          ⟨(some 8), .move (.tmp 18), none⟩])))))))
 (.seq (.reg [⟨(some 4), .assign (.const (.int .i64 (-1))), none⟩])
  .ret)))
theorem s50 : slimF Try.f50 = some (c50, [.t 4], 19) := by kernel_rfl
theorem o50 : okF [] Try.f50 = true := by kernel_rfl
noncomputable def g50 : Fsem := sem2 (En.int .i64).list (En.int .i64) (fun l v => True) (fun n l v => .int .i64 (idx (fun y => decide (v = y)) l))
@[go_sem] theorem g50_eq {n τ : Nat} {l : List Int} {v : Int} : g50 n [.sl τ 1 (l.map (AV.int .i64)), .int .i64 v] = ⟨True, .int .i64 (idx (fun y => decide (v = y)) l)⟩ := sem2_eq (τ' := 0) (E := (En.int .i64).list) (F := (En.int .i64))
theorem p50 : Pure Try.prog 50 g50 := by
  refine sem2_pure fun τ τ' l v n h2 hpre => ?_
  have hT : Table Try.prog [] := .nil
  have hn0 : n ≠ 0 := by omega
  refine SatP.of_body hT hm Try.func50 s50 o50 h2 (by simp) ?_
  simp (config := {contextual := true, maxSteps := 2000000, implicitDefEqProofs := false}) [c50, go_sem]
  intro hL
  refine VW_listK hT h2 hm l [0, 1, 7] (fun pre post (b : Unit) => [(8, .int .i64 pre.length)]) (fun pre post (b : Unit) => idxF (fun y => decide (v = y)) post pre.length = idx (fun y => decide (v = y)) l) () ?_ ?_ ?_ ?_
  · rfl
  · simp [SubI, go_sem]
  · rintro _ hR
    have hR' : -1 = idx (fun y => decide (v = y)) l := hR
    simp (config := {contextual := true, maxSteps := 2000000, implicitDefEqProofs := false}) [go_sem, ← hR']
  · rintro pre x post _ hl hlen hR
    have hln : l.length = pre.length + (post.length + 1) := by rw [← hl]; simp
    have hn : nth (List.map (AV.int .i64) l) (pre.length) = (AV.int .i64) x := by rw [← hl]; simp [go_sem]
    have hw : l.length ≤ maxLen → IntKind.i64.wrap ((pre.length : Int) + 1) = (pre.length : Int) + 1 := fun h => wrap_ok (by omega) (by simp only [maxLen] at h; omega)
    have h3 : (0 : Int) ≤ (pre.length : Int) := by omega
    have h4 : (pre.length : Int) < (l.length : Int) := by omega
    have h5 : ¬ (l.length : Int) ≤ (pre.length : Int) := by omega
    simp only [idxF] at hR
    simp (config := {contextual := true, maxSteps := 2000000, implicitDefEqProofs := false}) [go_sem, hn, hw, h3, h4, h5, hL, SubI]
    grind
theorem has_idx {l : List Int} {v : Int} : decide (0 ≤ idx (fun y => decide (v = y)) l) = has l v := by
  rw [Bool.eq_iff_iff, decide_eq_true_iff, idx_nonneg]
  simp [has]
/- slices.Contains[[]int64,int64] -/
def c48 : SCode := (.seq (.reg [⟨(some 4), .assign (.const (.bool false)), none⟩])
(.seq (.reg [⟨(some 5), .move (.tmp 0), none⟩,
    ⟨(some 6), .move (.tmp 1), none⟩,
    ⟨(some 7), .call ⟨(.value (.func 50)), #[(.tmp 5), (.tmp 6)], #[22, 2]⟩, none⟩,
    ⟨(some 8), .binOp .geq 3 (.tmp 7) (.const (.int .i64 0)) 3, none⟩,
    ⟨(some 4), .assign (.tmp 8), none⟩])
 .ret))
theorem s48 : slimF Try.f48 = some (c48, [.t 4], 9) := by kernel_rfl
theorem o48 : okF [(50, g50)] Try.f48 = true := by kernel_rfl
noncomputable def g48 : Fsem := sem2 (En.int .i64).list (En.int .i64) (fun l v => True) (fun n l v => .bool (has l v))
@[go_sem] theorem g48_eq {n τ : Nat} {l : List Int} {v : Int} : g48 n [.sl τ 1 (l.map (AV.int .i64)), .int .i64 v] = ⟨True, .bool (has l v)⟩ := sem2_eq (τ' := 0) (E := (En.int .i64).list) (F := (En.int .i64))
theorem p48 : Pure Try.prog 48 g48 := by
  refine sem2_pure fun τ τ' l v n h2 hpre => ?_
  have hT : Table Try.prog [(50, g50)] := (.cons p50 .nil)
  have hn0 : n ≠ 0 := by omega
  refine SatP.of_body hT hm Try.func48 s48 o48 h2 (by simp) ?_
  rw [← has_idx]
  simp (config := {contextual := true, maxSteps := 2000000, implicitDefEqProofs := false}) [c48, go_sem]
/- spec.l00Has -/
def c74 : SCode := (.seq (.reg [⟨(some 4), .assign (.const (.bool false)), none⟩])
(.seq (.seq (.reg [⟨(some 5), .assign (.const (.int .i64 0)), none⟩])
  (.block 0 (.loop (.seq (.seq (.reg [⟨(some 6), .move (.tmp 5), none⟩,
         ⟨(some 7), .move (.tmp 0), none⟩,
         ⟨(some 8), .call ⟨(.builtin .len), #[(.tmp 7)], #[22]⟩, none⟩,
         ⟨(some 9), .binOp .lss 3 (.tmp 6) (.tmp 8) 3, none⟩])
      (.cond (.tmp 9) .skip
       (.exit 0)))
     (.seq (.block 1 (.seq (.reg [⟨(some 12), .move (.tmp 0), none⟩,
           ⟨(some 13), .move (.tmp 5), none⟩,
           ⟨(some 14), .indexAddr 22 (.tmp 12) (.tmp 13), none⟩,
           ⟨(some 15), .load 2 (.tmp 14), none⟩,
           ⟨(some 16), .move (.tmp 1), none⟩,
           ⟨(some 17), .binOp .eql 2 (.tmp 15) (.tmp 16) 2, none⟩])
        (.cond (.tmp 17) (.seq (.reg [⟨(some 4), .assign (.const (.bool true)), none⟩])
          .ret)
         .skip)))
      (.reg [⟨(some 10), .move (.tmp 5), none⟩,
         ⟨(some 11), .binOp .add 3 (.tmp 10) (.const (.int .i64 1)) 3, none⟩,
         ⟨(some 5), .assign (.tmp 11), none⟩]))))))
 (.seq (.reg [⟨(some 4), .assign (.const (.bool false)), none⟩])
  .ret)))
theorem s74 : slimF Try.f74 = some (c74, [.t 4], 18) := by kernel_rfl
theorem o74 : okF [] Try.f74 = true := by kernel_rfl
noncomputable def g74 : Fsem := sem2 (En.int .i64).list (En.int .i64) (fun l v => True) (fun n l v => .bool (has l v))
@[go_sem] theorem g74_eq {n τ : Nat} {l : List Int} {v : Int} : g74 n [.sl τ 1 (l.map (AV.int .i64)), .int .i64 v] = ⟨True, .bool (has l v)⟩ := sem2_eq (τ' := 0) (E := (En.int .i64).list) (F := (En.int .i64))
theorem p74 : Pure Try.prog 74 g74 := by
  refine sem2_pure fun τ τ' l v n h2 hpre => ?_
  have hT : Table Try.prog [] := .nil
  have hn0 : n ≠ 0 := by omega
  refine SatP.of_body hT hm Try.func74 s74 o74 h2 (by simp) ?_
  generalize hr : has l v = r
  simp (config := {contextual := true, maxSteps := 2000000, implicitDefEqProofs := false}) [c74, go_sem]
  refine VW_listK hT h2 hm l [0, 1] (fun pre post (b : Unit) => [(5, .int .i64 pre.length)]) (fun pre post (b : Unit) => has post v = r) () ?_ ?_ ?_ ?_
  · exact hr
  · simp [SubI, go_sem]
  · rintro _ hR
    simp (config := {contextual := true, maxSteps := 2000000, implicitDefEqProofs := false}) [go_sem]
    intro _
    simpa [has] using hR
  · rintro pre x post _ hl hlen hR
    have hln : l.length = pre.length + (post.length + 1) := by rw [← hl]; simp
    have hn : nth (List.map (AV.int .i64) l) (pre.length) = (AV.int .i64) x := by rw [← hl]; simp [go_sem]
    have hw : l.length ≤ maxLen → IntKind.i64.wrap ((pre.length : Int) + 1) = (pre.length : Int) + 1 := fun h => wrap_ok (by omega) (by simp only [maxLen] at h; omega)
    have h3 : (0 : Int) ≤ (pre.length : Int) := by omega
    have h4 : (pre.length : Int) < (l.length : Int) := by omega
    have h5 : ¬ (l.length : Int) ≤ (pre.length : Int) := by omega
    simp only [has, List.any_cons] at hR
    simp (config := {contextual := true, maxSteps := 2000000, implicitDefEqProofs := false}) [go_sem, hn, hw, h3, h4, h5, SubI, has]
    grind
/- impl.ActingOk -/
def c15 : SCode := (.seq (.reg [⟨(some 2), .assign (.const (.bool false)), none⟩])
(.seq (.seq (.reg [⟨(some 5), .move (.tmp 0), none⟩,
     ⟨(some 6), .call ⟨(.builtin .len), #[(.tmp 5)], #[22]⟩, none⟩,
     ⟨(some 7), .move (.const (.int .i64 0)), none⟩])
  (.block 0 (.loop (.seq (.reg [⟨(some 8), .binOp .lss 3 (.tmp 7) (.tmp 6) 3, none⟩])
     (.seq (.cond (.tmp 8) .skip
       (.exit 0))
      (.seq (.block 1 (.seq (.reg [⟨(some 9), .move (.tmp 7), none⟩,
            ⟨(some 10), .indexAddr 22 (.tmp 5) (.tmp 7), none⟩,
            ⟨(some 11), .load 2 (.tmp 10), none⟩,
            ⟨(some 3), .assign (.tmp 9), none⟩,
            ⟨(some 4), .assign (.tmp 11), none⟩])
         (.seq (.reg [⟨(some 12), .move (.tmp 4), none⟩,
             ⟨(some 13), .call ⟨(.value (.func 47)), #[(.tmp 12), (.const (.int .i64 (-1))), (.const (.int .i64 15))], #[2, 2, 2]⟩, none⟩,
             ⟨(some 14), .unOp .not 4 (.tmp 13), none⟩,
             ⟨(some 15), .move (.tmp 14), none⟩,
             ⟨(some 16), .move (.tmp 4), (some (15, false))⟩,
             ⟨(some 17), .binOp .geq 2 (.tmp 16) (.const (.int .i64 0)) 2, (some (15, false))⟩,
             ⟨(some 18), .move (.tmp 17), (some (15, false))⟩,
             ⟨(some 19), .move (.tmp 0), (some (18, true))⟩,
             ⟨(some 20), .move (.tmp 3), (some (18, true))⟩,
             ⟨(some 21), .slice 22 (.tmp 19) none (some (.tmp 20)) none, (some (18, true))⟩,
             ⟨(some 22), .move (.tmp 4), (some (18, true))⟩,
             ⟨(some 23), .call ⟨(.value (.func 48)), #[(.tmp 21), (.tmp 22)], #[22, 2]⟩, (some (18, true))⟩,
             ⟨(some 24), .pick (.tmp 18) (.tmp 23) (.const (.bool false)), (some (15, false))⟩,
             ⟨(some 25), .pick (.tmp 15) (.const (.bool true)) (.tmp 24), none⟩])
          (.cond (.tmp 25) (.seq (.reg [⟨(some 2), .assign (.const (.bool false)), none⟩])
            .ret)
           .skip))))
       (.reg [⟨(some 26), .binOp .add 3 (.tmp 7) (.const (.int .i64 1)) 3, none⟩,
          ⟨(some 7), .move (.tmp 26), none⟩])))))))
 (.seq (.reg [⟨(some 27), .move (.tmp 0), none⟩,
     ⟨(some 28), .call ⟨(.builtin .len), #[(.tmp 27)], #[22]⟩, none⟩,
     ⟨(some 29), .call ⟨(.value (.func 47)), #[(.tmp 28), (.const (.int .i64 1)), (.const (.int .i64 7))], #[2, 2, 2]⟩, none⟩,
     ⟨(some 2), .assign (.tmp 29), none⟩])
  .ret)))
theorem s15 : slimF Try.f15 = some (c15, [.t 2], 30) := by kernel_rfl
theorem o15 : okF [(47, g47), (48, g48)] Try.f15 = true := by kernel_rfl
noncomputable def g15 : Fsem := sem1 (En.int .i64).list (fun l => True) (fun n l => .bool (actOk l))
@[go_sem] theorem g15_eq {n τ : Nat} {l : List Int} : g15 n [.sl τ 1 (l.map (AV.int .i64))] = ⟨True, .bool (actOk l)⟩ := sem1_eq  (E := (En.int .i64).list)
theorem p15 : Pure Try.prog 15 g15 := by
  refine sem1_pure fun τ l n h2 hpre => ?_
  have hT : Table Try.prog [(47, g47), (48, g48)] := (.cons p47 (.cons p48 .nil))
  have hn0 : n ≠ 0 := by omega
  refine SatP.of_body hT hm Try.func15 s15 o15 h2 (by simp) ?_
  simp only [actOk]
  generalize hr : actL [] l = r
  simp (config := {contextual := true, maxSteps := 2000000, implicitDefEqProofs := false}) [c15, go_sem]
  intro hL
  refine VW_listK hT h2 hm l [0, 5, 6] (fun pre post (b : Unit) => [(7, .int .i64 pre.length)]) (fun pre post (b : Unit) => actL pre post = r) () ?_ ?_ ?_ ?_
  · exact hr
  · simp [SubI, go_sem]
  · rintro _ hR
    have hR0 : true = r := hR
    subst hR0
    simp (config := {contextual := true, maxSteps := 2000000, implicitDefEqProofs := false}) [go_sem]
  · rintro pre x post _ hl hlen hR
    have hln : l.length = pre.length + (post.length + 1) := by rw [← hl]; simp
    have hn : nth (List.map (AV.int .i64) l) (pre.length) = (AV.int .i64) x := by rw [← hl]; simp [go_sem]
    have hw : l.length ≤ maxLen → IntKind.i64.wrap ((pre.length : Int) + 1) = (pre.length : Int) + 1 := fun h => wrap_ok (by omega) (by simp only [maxLen] at h; omega)
    have h3 : (0 : Int) ≤ (pre.length : Int) := by omega
    have h4 : (pre.length : Int) < (l.length : Int) := by omega
    have h5 : ¬ (l.length : Int) ≤ (pre.length : Int) := by omega
    have htk : List.take pre.length (List.map (AV.int .i64) l) = List.map (AV.int .i64) pre := by rw [← hl]; simp
    have hpl : pre.length ≤ l.length := by omega
    simp only [actL] at hR
    simp (config := {contextual := true, maxSteps := 2000000, implicitDefEqProofs := false}) [go_sem, hn, hw, h3, h4, h5, hL, htk, hpl, SubI]
    grind
/- spec.l12Ok -/
def c46 : SCode := (.seq (.reg [⟨(some 2), .assign (.const (.bool false)), none⟩])
(.seq (.seq (.reg [⟨(some 4), .move (.tmp 0), none⟩,
     ⟨(some 5), .call ⟨(.builtin .len), #[(.tmp 4)], #[22]⟩, none⟩,
     ⟨(some 6), .binOp .lss 3 (.tmp 5) (.const (.int .i64 1)) 3, none⟩,
     ⟨(some 7), .move (.tmp 6), none⟩,
     ⟨(some 8), .move (.tmp 0), (some (7, false))⟩,
     ⟨(some 9), .call ⟨(.builtin .len), #[(.tmp 8)], #[22]⟩, (some (7, false))⟩,
     ⟨(some 10), .binOp .gtr 3 (.tmp 9) (.const (.int .i64 7)) 3, (some (7, false))⟩,
     ⟨(some 11), .pick (.tmp 7) (.const (.bool true)) (.tmp 10), none⟩])
  (.cond (.tmp 11) (.seq (.reg [⟨(some 2), .assign (.const (.bool false)), none⟩])
    .ret)
   .skip))
 (.seq (.seq (.reg [⟨(some 3), .assign (.const (.int .i64 0)), none⟩])
   (.block 0 (.loop (.seq (.seq (.reg [⟨(some 12), .move (.tmp 3), none⟩,
          ⟨(some 13), .move (.tmp 0), none⟩,
          ⟨(some 14), .call ⟨(.builtin .len), #[(.tmp 13)], #[22]⟩, none⟩,
          ⟨(some 15), .binOp .lss 3 (.tmp 12) (.tmp 14) 3, none⟩])
       (.cond (.tmp 15) .skip
        (.exit 0)))
      (.seq (.block 1 (.seq (.draw [⟨(some 18), .move (.tmp 0), none⟩,
            ⟨(some 19), .move (.tmp 3), none⟩,
            ⟨(some 20), .indexAddr 22 (.tmp 18) (.tmp 19), none⟩,
            ⟨(some 21), .load 2 (.tmp 20), none⟩,
            ⟨(some 22), .call ⟨(.value (.func 65)), #[(.tmp 21), (.const (.int .i64 (-1))), (.const (.int .i64 15))], #[2, 2, 2]⟩, none⟩,
            ⟨(some 23), .unOp .not 4 (.tmp 22), none⟩,
            ⟨(some 24), .move (.tmp 23), none⟩,
            ⟨(some 25), .move (.tmp 0), (some (24, false))⟩,
            ⟨(some 26), .move (.tmp 3), (some (24, false))⟩,
            ⟨(some 27), .indexAddr 22 (.tmp 25) (.tmp 26), (some (24, false))⟩,
            ⟨(some 28), .load 2 (.tmp 27), (some (24, false))⟩,
            ⟨(some 29), .binOp .geq 2 (.tmp 28) (.const (.int .i64 0)) 2, (some (24, false))⟩,
            ⟨(some 30), .move (.tmp 29), (some (24, false))⟩,
            ⟨(some 31), .move (.tmp 0), (some (30, true))⟩,
            ⟨(some 32), .move (.tmp 3), (some (30, true))⟩,
            ⟨(some 33), .slice 22 (.tmp 31) none (some (.tmp 32)) none, (some (30, true))⟩,
            ⟨(some 34), .move (.tmp 0), (some (30, true))⟩,
            ⟨(some 35), .move (.tmp 3), (some (30, true))⟩,
            ⟨(some 36), .indexAddr 22 (.tmp 34) (.tmp 35), (some (30, true))⟩,
            ⟨(some 37), .load 2 (.tmp 36), (some (30, true))⟩,
            ⟨(some 38), .call ⟨(.value (.func 74)), #[(.tmp 33), (.tmp 37)], #[22, 2]⟩, (some (30, true))⟩,
            ⟨(some 39), .pick (.tmp 30) (.tmp 38) (.const (.bool false)), (some (24, false))⟩,
            ⟨(some 40), .pick (.tmp 24) (.const (.bool true)) (.tmp 39), none⟩] [[], [], [0, 1], [0, 1, 2], [0, 1, 2, 3], [0, 1, 2, 3, 4], [0, 1, 2, 3, 4, 5], [0, 1, 2, 3, 4, 5, 6], [0, 1, 2, 3, 4, 5, 6], [0, 1, 2, 3, 4, 5, 6, 7, 8], [0, 1, 2, 3, 4, 5, 6, 7, 8, 9], [0, 1, 2, 3, 4, 5, 6, 7, 8, 9, 10], [0, 1, 2, 3, 4, 5, 6, 7, 8, 9, 10, 11], [0, 1, 2, 3, 4, 5, 6, 7, 8, 9, 10, 11, 12], [0, 1, 2, 3, 4, 5, 6, 7, 8, 9, 10, 11, 12], [0, 1, 2, 3, 4, 5, 6, 7, 8, 9, 10, 11, 12, 13, 14], [0, 1, 2, 3, 4, 5, 6, 7, 8, 9, 10, 11, 12], [0, 1, 2, 3, 4, 5, 6, 7, 8, 9, 10, 11, 12], [0, 1, 2, 3, 4, 5, 6, 7, 8, 9, 10, 11, 12, 16, 17], [0, 1, 2, 3, 4, 5, 6, 7, 8, 9, 10, 11, 12, 16, 17, 18], [0, 1, 2, 3, 4, 5, 6, 7, 8, 9, 10, 11, 12, 13, 14, 15, 16, 17, 18, 19], [0, 1, 2, 3, 4, 5, 6, 7, 8, 9, 10, 11, 12, 13, 14, 15, 16, 17, 18, 19, 20], [0, 1, 2, 3, 4, 5, 6, 7, 8, 9, 10, 11, 12, 13, 14, 15, 16, 17, 18, 19, 20, 21]])
         (.cond (.tmp 40) (.seq (.reg [⟨(some 2), .assign (.const (.bool false)), none⟩])
           .ret)
          .skip)))
       (.reg [⟨(some 16), .move (.tmp 3), none⟩,
          ⟨(some 17), .binOp .add 3 (.tmp 16) (.const (.int .i64 1)) 3, none⟩,
          ⟨(some 3), .assign (.tmp 17), none⟩]))))))
  (.seq (.reg [⟨(some 2), .assign (.const (.bool true)), none⟩])
   .ret))))
theorem s46 : slimF Try.f46 = some (c46, [.t 2], 41) := by kernel_rfl
theorem o46 : okF [(65, g65), (74, g74)] Try.f46 = true := by kernel_rfl
noncomputable def g46 : Fsem := sem1 (En.int .i64).list (fun l => True) (fun n l => .bool (actOk l))
@[go_sem] theorem g46_eq {n τ : Nat} {l : List Int} : g46 n [.sl τ 1 (l.map (AV.int .i64))] = ⟨True, .bool (actOk l)⟩ := sem1_eq  (E := (En.int .i64).list)
theorem p46 : Pure Try.prog 46 g46 := by
  refine sem1_pure fun τ l n h2 hpre => ?_
  have hT : Table Try.prog [(65, g65), (74, g74)] := (.cons p65 (.cons p74 .nil))
  have hn0 : n ≠ 0 := by omega
  refine SatP.of_body hT hm Try.func46 s46 o46 h2 (by simp) ?_
  simp only [actOk]
  generalize hr : actL [] l = r
  simp (config := {contextual := true, maxSteps := 2000000, implicitDefEqProofs := false}) [c46, go_sem]
  intro hL
  refine ⟨fun h => by simp only [btw]; grind, fun g1 g2 => ?_⟩
  refine VW_listK hT h2 hm l [0] (fun pre post (b : Unit) => [(3, .int .i64 pre.length)]) (fun pre post (b : Unit) => actL pre post = r) () ?_ ?_ ?_ ?_
  · exact hr
  · simp [SubI, go_sem]
  · rintro _ hR
    have hR0 : true = r := hR
    subst hR0
    simp (config := {contextual := true, maxSteps := 2000000, implicitDefEqProofs := false}) [go_sem, btw]
    omega
  · rintro pre x post _ hl hlen hR
    have hln : l.length = pre.length + (post.length + 1) := by rw [← hl]; simp
    have hn : nth (List.map (AV.int .i64) l) (pre.length) = (AV.int .i64) x := by rw [← hl]; simp [go_sem]
    have hw : l.length ≤ maxLen → IntKind.i64.wrap ((pre.length : Int) + 1) = (pre.length : Int) + 1 := fun h => wrap_ok (by omega) (by simp only [maxLen] at h; omega)
    have h3 : (0 : Int) ≤ (pre.length : Int) := by omega
    have h4 : (pre.length : Int) < (l.length : Int) := by omega
    have h5 : ¬ (l.length : Int) ≤ (pre.length : Int) := by omega
    have htk : List.take pre.length (List.map (AV.int .i64) l) = List.map (AV.int .i64) pre := by rw [← hl]; simp
    have hpl : pre.length ≤ l.length := by omega
    simp only [actL] at hR
    simp (config := {contextual := true, maxSteps := 2000000, implicitDefEqProofs := false}) [go_sem, hn, hw, h3, h4, h5, hL, htk, hpl, SubI]
    grind
end Go.Ve
