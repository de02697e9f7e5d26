/- Contracts of the seat: trees. No condition. -/
import Derived.Test.YtidfijaobkaalaaV6
namespace Go.Ve
open Go.Proofs Go.RowKit
set_option linter.unusedVariables false
set_option linter.unusedSimpArgs false
set_option maxRecDepth 10000
set_option maxHeartbeats 4000000
/- spec.l06OK -/
def c58 : SCode := (.seq (.reg [⟨(some 1), .box 36 (.tmp 0), none⟩,
   ⟨(some 2), .assign (.const (.bool false)), none⟩])
(.seq (.seq (.reg [⟨(some 4), .load 36 (.tmp 1), none⟩,
     ⟨(some 5), .call ⟨(.value (.func 99)), #[(.tmp 4)], #[36]⟩, none⟩,
     ⟨(some 6), .unOp .not 4 (.tmp 5), none⟩,
     ⟨(some 7), .move (.tmp 6), none⟩,
     ⟨(some 8), .load 36 (.tmp 1), (some (7, false))⟩,
     ⟨(some 9), .call ⟨(.value (.func 100)), #[(.tmp 8)], #[36]⟩, (some (7, false))⟩,
     ⟨(some 10), .unOp .not 4 (.tmp 9), (some (7, false))⟩,
     ⟨(some 11), .pick (.tmp 7) (.const (.bool true)) (.tmp 10), none⟩,
     ⟨(some 12), .move (.tmp 11), none⟩,
     ⟨(some 13), .load 36 (.tmp 1), (some (12, false))⟩,
     ⟨(some 14), .call ⟨(.value (.func 101)), #[(.tmp 13)], #[36]⟩, (some (12, false))⟩,
     ⟨(some 15), .unOp .not 4 (.tmp 14), (some (12, false))⟩,
     ⟨(some 16), .pick (.tmp 12) (.const (.bool true)) (.tmp 15), none⟩])
  (.cond (.tmp 16) (.seq (.reg [⟨(some 2), .assign (.const (.bool false)), none⟩])
    .ret)
   .skip))
 (.seq (.seq (.reg [⟨(some 3), .assign (.const (.int .i64 0)), none⟩])
   (.block 0 (.loop (.seq (.seq (.reg [⟨(some 17), .move (.tmp 3), none⟩,
          ⟨(some 18), .fieldAddr 36 (.tmp 1) 1, none⟩,
          ⟨(some 19), .load 34 (.tmp 18), none⟩,
          ⟨(some 20), .call ⟨(.builtin .len), #[(.tmp 19)], #[34]⟩, none⟩,
          ⟨(some 21), .binOp .lss 3 (.tmp 17) (.tmp 20) 3, none⟩])
       (.cond (.tmp 21) .skip
        (.exit 0)))
      (.seq (.block 1 (.seq (.draw [⟨(some 24), .load 36 (.tmp 1), none⟩,
            ⟨(some 25), .fieldAddr 36 (.tmp 1) 1, none⟩,
            ⟨(some 26), .load 34 (.tmp 25), none⟩,
            ⟨(some 27), .move (.tmp 3), none⟩,
            ⟨(some 28), .indexAddr 34 (.tmp 26) (.tmp 27), none⟩,
            ⟨(some 29), .load 115 (.tmp 28), none⟩,
            ⟨(some 30), .call ⟨(.value (.func 102)), #[(.tmp 24), (.tmp 29)], #[36, 115]⟩, none⟩,
            ⟨(some 31), .unOp .not 4 (.tmp 30), none⟩] [[], [], [1], [], [1, 2, 3], [1, 2, 3, 4], [0, 1, 2, 3, 4, 5], [0, 1, 2, 3, 4, 5, 6]])
         (.cond (.tmp 31) (.seq (.reg [⟨(some 2), .assign (.const (.bool false)), none⟩])
           .ret)
          .skip)))
       (.reg [⟨(some 22), .move (.tmp 3), none⟩,
          ⟨(some 23), .binOp .add 3 (.tmp 22) (.const (.int .i64 1)) 3, none⟩,
          ⟨(some 3), .assign (.tmp 23), none⟩]))))))
  (.seq (.reg [⟨(some 2), .assign (.const (.bool true)), none⟩])
   .ret))))
theorem s58 : slimF Try.f58 = some (c58, [.t 2], 32) := by kernel_rfl
theorem o58 : okF [(99, g99), (100, g100), (101, g101), (102, g102)] Try.f58 = true := by kernel_rfl
noncomputable def g58 : Fsem := sem1 enTree (fun t => True) (fun n t => .bool (treeOk t))
@[go_sem] theorem g58_eq {n τ : Nat} {t : Tree} : g58 n [.agg [.sl τ 2 (t.devices.map (enDev.av τ)), .sl τ 3 (t.buckets.map (enBkt.av τ))]] = ⟨True, .bool (treeOk t)⟩ := sem1_eq  (E := enTree)
theorem p58 : Pure Try.prog 58 g58 := by
  refine sem1_pure fun τ t n h2 hpre => ?_
  have hT : Table Try.prog [(99, g99), (100, g100), (101, g101), (102, g102)] := (.cons p99 (.cons p100 (.cons p101 (.cons p102 .nil))))
  have hn0 : n ≠ 0 := by omega
  refine SatP.of_body hT hm Try.func58 s58 o58 h2 (by simp) ?_
  have hsm : bktsOk t = true → small t := small_of
  simp only [treeOk]
  generalize hr : t.buckets.all (fitsOk t) = r
  simp (config := {contextual := true, maxSteps := 2000000, implicitDefEqProofs := false}) [c58, go_sem, hsm]
  refine ⟨fun h => by grind, fun hq1 hq2 hq3 => ?_⟩
  refine VW_listK hT h2 hm t.buckets [1] (fun pre post (b : Unit) => [(3, .int .i64 pre.length)]) (fun pre post (b : Unit) => post.all (fitsOk t) = r) () ?_ ?_ ?_ ?_
  · exact hr
  · simp [SubI, go_sem]
  · intro _ hR
    simp (config := {contextual := true, maxSteps := 2000000, implicitDefEqProofs := false}) [go_sem]
    simp at hR
    grind
  · intro pre x post _ hl hlen hR
    have hln : t.buckets.length = pre.length + (post.length + 1) := by rw [← hl]; simp
    have hn : nth (List.map (enBkt.av τ) t.buckets) (pre.length) = (enBkt.av τ) x := by rw [← hl]; simp [go_sem]
    have hw : t.buckets.length ≤ maxLen → IntKind.i64.wrap ((pre.length : Int) + 1) = (pre.length : Int) + 1 := fun h => wrap_ok (by omega) (by simp only [maxLen] at h; omega)
    have h3 : (0 : Int) ≤ (pre.length : Int) := by omega
    have h4 : (pre.length : Int) < (t.buckets.length : Int) := by omega
    have h5 : ¬ (t.buckets.length : Int) ≤ (pre.length : Int) := by omega
    simp only [List.all_cons] at hR
    simp (config := {contextual := true, maxSteps := 2000000, implicitDefEqProofs := false}) [go_sem, SubI, hn, hw, h3, h4, h5] <;> grind
/- spec.TreeOk -/
def c74 : SCode := (.seq (.reg [⟨(some 1), .box 36 (.tmp 0), none⟩,
   ⟨(some 2), .assign (.const (.bool false)), none⟩])
(.seq (.reg [⟨(some 3), .load 36 (.tmp 1), none⟩,
    ⟨(some 4), .call ⟨(.value (.func 58)), #[(.tmp 3)], #[36]⟩, none⟩,
    ⟨(some 2), .assign (.tmp 4), none⟩])
 .ret))
theorem s74 : slimF Try.f74 = some (c74, [.t 2], 5) := by kernel_rfl
theorem o74 : okF [(58, g58)] Try.f74 = true := by kernel_rfl
noncomputable def g74 : Fsem := sem1 enTree (fun t => True) (fun n t => .bool (treeOk t))
@[go_sem] theorem g74_eq {n τ : Nat} {t : Tree} : g74 n [.agg [.sl τ 2 (t.devices.map (enDev.av τ)), .sl τ 3 (t.buckets.map (enBkt.av τ))]] = ⟨True, .bool (treeOk t)⟩ := sem1_eq  (E := enTree)
theorem p74 : Pure Try.prog 74 g74 := by
  refine sem1_pure fun τ t n h2 hpre => ?_
  have hT : Table Try.prog [(58, g58)] := (.cons p58 .nil)
  have hn0 : n ≠ 0 := by omega
  refine SatP.of_body hT hm Try.func74 s74 o74 h2 (by simp) ?_
  simp (config := {contextual := true, maxSteps := 2000000, implicitDefEqProofs := false}) [c74, go_sem]
theorem useB_once : ∀ (l : List Int) (acc : List Int) (rest : List Int), onceL acc (l ++ rest) = (useB acc l).elim false (fun a => onceL a rest)
  | [], acc, rest => rfl
  | x :: l, acc, rest => by
    simp only [List.cons_append, onceL, useB]
    by_cases h : x ∈ acc
    · have : has acc x = true := has_iff.2 h
      simp [h, this]
    · have h' : has acc x = false := by
        cases hh : has acc x
        · rfl
        · exact (h (has_iff.1 hh)).elim
      have hi : ins acc x = acc ++ [x] := by simp [ins, h]
      simp only [h, if_false, h', Bool.not_false, Bool.true_and, hi]
      exact useB_once l (acc ++ [x]) rest
theorem mem_kinds {t : Tree} {x : Int} : ∀ {l a : List Int}, x ∈ kinds t l a ↔ x ∈ a ∨ ∃ y ∈ l, kindOf t y = x
  | [], a => by simp [kinds]
  | y :: l, a => by
    have ih := mem_kinds (t := t) (x := x) (l := l) (a := ins a (kindOf t y))
    simp only [kinds, List.foldl_cons] at ih ⊢
    rw [ih, mem_ins]
    simp only [List.mem_cons, exists_eq_or_imp]
    constructor
    · rintro ((h | h) | h)
      · exact .inl h
      · exact .inr (.inl h.symm)
      · exact .inr (.inr h)
    · rintro (h | h | h)
      · exact .inl (.inl h)
      · exact .inl (.inr h.symm)
      · exact .inr h
theorem nodup_kinds {t : Tree} : ∀ {l a : List Int}, a.Nodup → (kinds t l a).Nodup
  | [], a, h => h
  | y :: l, a, h => by
    simp only [kinds, List.foldl_cons]
    refine nodup_kinds ?_
    unfold ins
    split
    · exact h
    · rename_i hn
      exact List.nodup_append.2 ⟨h, by simp, by intro a ha b hb; simp at hb; subst hb; rintro rfl; exact hn ha⟩
theorem items_fits {t : Tree} {b : Bkt} (hk : btw b.kind 1 3 = true) : itemsOk t b = fitsOk t b := by
  have hk' : 1 ≤ b.kind ∧ b.kind ≤ 3 := by simpa [btw] using hk
  have hw : IntKind.i64.wrap (b.kind - 1) = b.kind - 1 := wrap_ok (by omega) (by omega)
  unfold itemsOk fitsOk fitsOne
  rw [hw]
  cases hi : b.items with
  | nil => simp
  | cons x l =>
    have hm : ∀ z, z ∈ kinds t (x :: l) [] ↔ ∃ y ∈ x :: l, kindOf t y = z := fun z => by rw [mem_kinds]; simp
    have hnd : (kinds t (x :: l) []).Nodup := nodup_kinds List.nodup_nil
    have hx : kindOf t x ∈ kinds t (x :: l) [] := (hm _).2 ⟨x, by simp, rfl⟩
    rw [if_neg (by simp)]
    -- one kind alone
    have hone : (kinds t (x :: l) []).length ≤ 1 ↔ ∀ y ∈ x :: l, kindOf t y = kindOf t x := by
      constructor
      · intro h y hy
        have hy' := (hm (kindOf t y)).2 ⟨y, hy, rfl⟩
        match hk : kinds t (x :: l) [], h, hx, hy' with
        | [z], _, hx, hy' => simp at hx hy'; omega
      · intro h
        have hall : ∀ z ∈ kinds t (x :: l) [], z = kindOf t x := fun z hz => by
          obtain ⟨y, hy, rfl⟩ := (hm z).1 hz
          exact h y hy
        match hk : kinds t (x :: l) [], hnd, hall with
        | [], _, _ => simp
        | [z], _, _ => simp
        | z :: z' :: r, hnd, hall =>
          have h1 := hall z (by simp)
          have h2 := hall z' (by simp)
          rw [h1, h2] at hnd
          simp at hnd
    rw [Bool.eq_iff_iff]
    by_cases h1 : 1 < (kinds t (x :: l) []).length
    · rw [if_pos h1]
      simp only [Bool.false_eq_true, false_iff]
      intro h
      have : ¬ ∀ y ∈ x :: l, kindOf t y = kindOf t x := fun h' => by have := hone.2 h'; omega
      apply this
      intro y hy
      have h2 := List.all_eq_true.1 h y hy
      have h3 := List.all_eq_true.1 h x (by simp)
      simp only [List.headD_cons] at h2 h3
      simp at h2 h3
      grind
    · rw [if_neg h1]
      have hsame := hone.1 (by omega)
      have hmem : ∀ z, z ∈ kinds t (x :: l) [] ↔ kindOf t x = z := fun z => by
        rw [hm]
        constructor
        · rintro ⟨y, hy, rfl⟩
          exact (hsame y hy).symm
        · intro h
          exact ⟨x, by simp, h⟩
      rw [List.all_eq_true]
      by_cases h3 : b.kind = 3
      · rw [if_pos h3]
        simp only [hmem, Bool.or_eq_true, decide_eq_true_eq]
        constructor
        · intro h y hy
          have := hsame y hy
          simp [h3]
          grind
        · intro h
          have := h x (by simp)
          simp [h3] at this
          grind
      · rw [if_neg h3]
        simp only [hmem, decide_eq_true_eq]
        constructor
        · intro h y hy
          have := hsame y hy
          simp
          grind
        · intro h
          have := h x (by simp)
          simp at this
          grind
theorem treeL_eq {t : Tree} : ∀ (l : List Bkt) (o : Option Bkt) (acc : List Int), treeL t o acc l = (chk bkt0 o l && onceL acc (l.flatMap (·.items)) && l.all (fitsOk t))
  | [], o, acc => rfl
  | b :: l, o, acc => by
    simp only [treeL, chk, List.flatMap_cons, List.all_cons, useB_once]
    have ih := fun a => treeL_eq (t := t) l (some b) a
    have hb : bktOk t o b = (bkt0 o b && fitsOk t b) := by
      unfold bktOk bkt0
      cases hk : btw b.kind 1 3
      · simp
      · rw [items_fits hk]
        ac_rfl
    rw [hb]
    cases useB acc b.items with
    | none => simp
    | some a =>
      simp only [ih, Option.elim_some]
      ac_rfl
theorem treeOkI_eq (t : Tree) : treeOkI t = treeOk t := by
  unfold treeOkI treeOk bktsOk
  rw [treeL_eq]
  ac_rfl

/- impl.TreeOk -/
def c41 : SCode := (.seq (.reg [⟨(some 1), .box 36 (.tmp 0), none⟩,
   ⟨(some 2), .assign (.const (.bool false)), none⟩])
(.seq (.seq (.reg [⟨(some 8), .load 36 (.tmp 1), none⟩,
     ⟨(some 9), .call ⟨(.value (.func 81)), #[(.tmp 8)], #[36]⟩, none⟩,
     ⟨(some 10), .unOp .not 4 (.tmp 9), none⟩,
     ⟨(some 11), .move (.tmp 10), none⟩,
     ⟨(some 12), .fieldAddr 36 (.tmp 1) 1, (some (11, false))⟩,
     ⟨(some 13), .load 34 (.tmp 12), (some (11, false))⟩,
     ⟨(some 14), .call ⟨(.builtin .len), #[(.tmp 13)], #[34]⟩, (some (11, false))⟩,
     ⟨(some 15), .binOp .gtr 3 (.tmp 14) (.const (.int .i64 12)) 3, (some (11, false))⟩,
     ⟨(some 16), .pick (.tmp 11) (.const (.bool true)) (.tmp 15), none⟩])
  (.cond (.tmp 16) (.seq (.reg [⟨(some 2), .assign (.const (.bool false)), none⟩])
    .ret)
   .skip))
 (.seq (.reg [⟨(some 17), .makeMap 113 none, none⟩,
     ⟨(some 3), .assign (.tmp 17), none⟩])
  (.seq (.seq (.reg [⟨(some 18), .fieldAddr 36 (.tmp 1) 1, none⟩,
       ⟨(some 19), .load 34 (.tmp 18), none⟩,
       ⟨(some 20), .call ⟨(.builtin .len), #[(.tmp 19)], #[34]⟩, none⟩,
       ⟨(some 21), .move (.const (.int .i64 0)), none⟩])
    (.block 0 (.loop (.seq (.reg [⟨(some 22), .binOp .lss 3 (.tmp 21) (.tmp 20) 3, none⟩])
       (.seq (.cond (.tmp 22) .skip
         (.exit 0))
        (.seq (.block 1 (.seq (.reg [⟨(some 23), .move (.tmp 21), none⟩,
              ⟨(some 24), .indexAddr 34 (.tmp 19) (.tmp 21), none⟩,
              ⟨(some 25), .load 115 (.tmp 24), none⟩,
              ⟨(some 5), .alloc 115, none⟩,
              ⟨(some 4), .assign (.tmp 23), none⟩,
              ⟨none, .store 115 (.tmp 5) (.tmp 25), none⟩])
           (.seq (.seq (.draw [⟨(some 26), .fieldAddr 115 (.tmp 5) 0, none⟩,
                ⟨(some 27), .load 2 (.tmp 26), none⟩,
                ⟨(some 28), .call ⟨(.value (.func 40)), #[(.tmp 27), (.const (.int .i64 (-12))), (.const (.int .i64 (-1)))], #[2, 2, 2]⟩, none⟩,
                ⟨(some 29), .unOp .not 4 (.tmp 28), none⟩,
                ⟨(some 30), .move (.tmp 29), none⟩,
                ⟨(some 31), .move (.tmp 4), (some (30, false))⟩,
                ⟨(some 32), .binOp .gtr 3 (.tmp 31) (.const (.int .i64 0)) 3, (some (30, false))⟩,
                ⟨(some 33), .move (.tmp 32), (some (30, false))⟩,
                ⟨(some 34), .fieldAddr 115 (.tmp 5) 0, (some (33, true))⟩,
                ⟨(some 35), .load 2 (.tmp 34), (some (33, true))⟩,
                ⟨(some 36), .fieldAddr 36 (.tmp 1) 1, (some (33, true))⟩,
                ⟨(some 37), .load 34 (.tmp 36), (some (33, true))⟩,
                ⟨(some 38), .move (.tmp 4), (some (33, true))⟩,
                ⟨(some 39), .binOp .sub 3 (.tmp 38) (.const (.int .i64 1)) 3, (some (33, true))⟩,
                ⟨(some 40), .indexAddr 34 (.tmp 37) (.tmp 39), (some (33, true))⟩,
                ⟨(some 41), .fieldAddr 115 (.tmp 40) 0, (some (33, true))⟩,
                ⟨(some 42), .load 2 (.tmp 41), (some (33, true))⟩,
                ⟨(some 43), .binOp .geq 2 (.tmp 35) (.tmp 42) 2, (some (33, true))⟩,
                ⟨(some 44), .pick (.tmp 33) (.tmp 43) (.const (.bool false)), (some (30, false))⟩,
                ⟨(some 45), .pick (.tmp 30) (.const (.bool true)) (.tmp 44), none⟩,
                ⟨(some 46), .move (.tmp 45), none⟩,
                ⟨(some 47), .fieldAddr 115 (.tmp 5) 1, (some (46, false))⟩,
                ⟨(some 48), .load 2 (.tmp 47), (some (46, false))⟩,
                ⟨(some 49), .call ⟨(.value (.func 40)), #[(.tmp 48), (.const (.int .i64 1)), (.const (.int .i64 3))], #[2, 2, 2]⟩, (some (46, false))⟩,
                ⟨(some 50), .unOp .not 4 (.tmp 49), (some (46, false))⟩,
                ⟨(some 51), .pick (.tmp 46) (.const (.bool true)) (.tmp 50), none⟩,
                ⟨(some 52), .move (.tmp 51), none⟩,
                ⟨(some 53), .fieldAddr 115 (.tmp 5) 2, (some (52, false))⟩,
                ⟨(some 54), .load 28 (.tmp 53), (some (52, false))⟩,
                ⟨(some 55), .call ⟨(.builtin .len), #[(.tmp 54)], #[28]⟩, (some (52, false))⟩,
                ⟨(some 56), .binOp .gtr 3 (.tmp 55) (.const (.int .i64 8)) 3, (some (52, false))⟩,
                ⟨(some 57), .pick (.tmp 52) (.const (.bool true)) (.tmp 56), none⟩,
                ⟨(some 58), .move (.tmp 57), none⟩,
                ⟨(some 59), .load 36 (.tmp 1), (some (58, false))⟩,
                ⟨(some 60), .load 115 (.tmp 5), (some (58, false))⟩,
                ⟨(some 61), .call ⟨(.value (.func 82)), #[(.tmp 59), (.tmp 60)], #[36, 115]⟩, (some (58, false))⟩,
                ⟨(some 62), .unOp .not 4 (.tmp 61), (some (58, false))⟩,
                ⟨(some 63), .pick (.tmp 58) (.const (.bool true)) (.tmp 62), none⟩] [[], [0], [0, 1], [0, 1, 2], [0, 1, 2, 3], [0, 1, 2, 3, 4], [0, 1, 2, 3, 4, 5], [0, 1, 2, 3, 4, 5, 6], [0, 1, 2, 3, 4, 5, 6, 7], [0, 1, 2, 3, 4, 5, 6, 7, 8], [0, 1, 2, 3, 4, 5, 6, 7], [0, 1, 2, 3, 4, 5, 6, 7, 10], [0, 1, 2, 3, 4, 5, 6, 7], [0, 1, 2, 3, 4, 5, 6, 7, 12], [0, 1, 2, 3, 4, 5, 6, 7, 10, 11, 12, 13], [0, 1, 2, 3, 4, 5, 6, 7, 10, 11, 12, 13, 14], [0, 1, 2, 3, 4, 5, 6, 7, 10, 11, 12, 13, 14, 15], [0, 1, 2, 3, 4, 5, 6, 7, 8, 9, 10, 11, 12, 13, 14, 15, 16], [0, 1, 2, 3, 4, 5, 6, 7, 8, 9, 10, 11, 12, 13, 14, 15, 16, 17], [0, 1, 2, 3, 4, 5, 6, 7, 8, 9, 10, 11, 12, 13, 14, 15, 16, 17, 18], [0, 1, 2, 3, 4, 5, 6, 7, 8, 9, 10, 11, 12, 13, 14, 15, 16, 17, 18, 19], [0, 1, 2, 3, 4, 5, 6, 7, 8, 9, 10, 11, 12, 13, 14, 15, 16, 17, 18, 19, 20], [0, 1, 2, 3, 4, 5, 6, 7, 8, 9, 10, 11, 12, 13, 14, 15, 16, 17, 18, 19, 20, 21], [0, 1, 2, 3, 4, 5, 6, 7, 8, 9, 10, 11, 12, 13, 14, 15, 16, 17, 18, 19, 20, 21, 22], [0, 1, 2, 3, 4, 5, 6, 7, 8, 9, 10, 11, 12, 13, 14, 15, 16, 17, 18, 19, 20, 21, 22, 23], [0, 1, 2, 3, 4, 5, 6, 7, 8, 9, 10, 11, 12, 13, 14, 15, 16, 17, 18, 19, 20, 21, 22, 23, 24], [0, 1, 2, 3, 4, 5, 6, 7, 8, 9, 10, 11, 12, 13, 14, 15, 16, 17, 18, 19, 20, 21, 22, 23, 24, 25], [0, 1, 2, 3, 4, 5, 6, 7, 8, 9, 10, 11, 12, 13, 14, 15, 16, 17, 18, 19, 20, 21, 22, 23, 24, 25, 26], [0, 1, 2, 3, 4, 5, 6, 7, 8, 9, 10, 11, 12, 13, 14, 15, 16, 17, 18, 19, 20, 21, 22, 23, 24, 25, 26, 27], [0, 1, 2, 3, 4, 5, 6, 7, 8, 9, 10, 11, 12, 13, 14, 15, 16, 17, 18, 19, 20, 21, 22, 23, 24, 25, 26, 27, 28], [0, 1, 2, 3, 4, 5, 6, 7, 8, 9, 10, 11, 12, 13, 14, 15, 16, 17, 18, 19, 20, 21, 22, 23, 24, 25, 26, 27, 28, 29], [0, 1, 2, 3, 4, 5, 6, 7, 8, 9, 10, 11, 12, 13, 14, 15, 16, 17, 18, 19, 20, 21, 22, 23, 24, 25, 26, 27, 28, 29, 30], [0, 1, 2, 3, 4, 5, 6, 7, 8, 9, 10, 11, 12, 13, 14, 15, 16, 17, 18, 19, 20, 21, 22, 23, 24, 25, 26, 27, 28, 29, 30, 31], [0, 1, 2, 3, 4, 5, 6, 7, 8, 9, 10, 11, 12, 13, 14, 15, 16, 17, 18, 19, 20, 21, 22, 23, 24, 25, 26, 27, 28, 29, 30, 31, 32], [0, 1, 2, 3, 4, 5, 6, 7, 8, 9, 10, 11, 12, 13, 14, 15, 16, 17, 18, 19, 20, 21, 22, 23, 24, 25, 26, 27, 28, 29, 30, 31, 32], [0, 1, 2, 3, 4, 5, 6, 7, 8, 9, 10, 11, 12, 13, 14, 15, 16, 17, 18, 19, 20, 21, 22, 23, 24, 25, 26, 27, 28, 29, 30, 31, 32, 33, 34], [0, 1, 2, 3, 4, 5, 6, 7, 8, 9, 10, 11, 12, 13, 14, 15, 16, 17, 18, 19, 20, 21, 22, 23, 24, 25, 26, 27, 28, 29, 30, 31, 32, 33, 34, 35], [0, 1, 2, 3, 4, 5, 6, 7, 8, 9, 10, 11, 12, 13, 14, 15, 16, 17, 18, 19, 20, 21, 22, 23, 24, 25, 26, 27, 28, 29, 30, 31, 32, 33, 34, 35, 36]])
             (.cond (.tmp 63) (.seq (.reg [⟨(some 2), .assign (.const (.bool false)), none⟩])
               .ret)
              .skip))
            (.seq (.reg [⟨(some 64), .fieldAddr 115 (.tmp 5) 2, none⟩,
                ⟨(some 65), .load 28 (.tmp 64), none⟩,
                ⟨(some 66), .call ⟨(.builtin .len), #[(.tmp 65)], #[28]⟩, none⟩,
                ⟨(some 67), .move (.const (.int .i64 0)), none⟩])
             (.block 2 (.loop (.seq (.reg [⟨(some 68), .binOp .lss 3 (.tmp 67) (.tmp 66) 3, none⟩])
                (.seq (.cond (.tmp 68) .skip
                  (.exit 2))
                 (.seq (.block 3 (.seq (.reg [⟨(some 69), .indexAddr 28 (.tmp 65) (.tmp 67), none⟩,
                       ⟨(some 70), .load 2 (.tmp 69), none⟩,
                       ⟨(some 7), .assign (.tmp 70), none⟩])
                    (.seq (.seq (.reg [⟨(some 71), .move (.tmp 3), none⟩,
                         ⟨(some 72), .move (.tmp 7), none⟩,
                         ⟨(some 73), .lookup 113 (.tmp 71) (.tmp 72) false, none⟩])
                      (.cond (.tmp 73) (.seq (.reg [⟨(some 2), .assign (.const (.bool false)), none⟩])
                        .ret)
                       .skip))
                     (.reg [⟨(some 74), .move (.tmp 3), none⟩,
                        ⟨(some 75), .move (.tmp 7), none⟩,
                        ⟨none, .mapUpdate 113 (.tmp 74) (.tmp 75) (.const (.bool true)), none⟩]))))
                  (.reg [⟨(some 76), .binOp .add 3 (.tmp 67) (.const (.int .i64 1)) 3, none⟩,
                     ⟨(some 67), .move (.tmp 76), none⟩]))))))))))
         (.reg [⟨(some 77), .binOp .add 3 (.tmp 21) (.const (.int .i64 1)) 3, none⟩,
            ⟨(some 21), .move (.tmp 77), none⟩])))))))
   (.seq (.reg [⟨(some 2), .assign (.const (.bool true)), none⟩])
    .ret)))))
theorem s41 : slimF Try.f41 = some (c41, [.t 2], 78) := by kernel_rfl
theorem o41 : okF [(81, g81), (40, g40), (82, g82)] Try.f41 = true := by kernel_rfl
noncomputable def g41 : Fsem := semT1 enTree (fun τ t => τ ≠ 0) (fun n τ t => .bool (treeOk t))
@[go_sem] theorem g41_eq {n τ : Nat} {t : Tree} : g41 n [.agg [.sl τ 2 (t.devices.map (enDev.av τ)), .sl τ 3 (t.buckets.map (enBkt.av τ))]] = ⟨τ ≠ 0, .bool (treeOk t)⟩ := semT1_eq  (E := enTree) (seen_Tree)
theorem p41 : Pure Try.prog 41 g41 := by
  refine semT1_pure fun τ t n h2 hpre => ?_
  have hT : Table Try.prog [(81, g81), (40, g40), (82, g82)] := (.cons p81 (.cons p40 (.cons p82 .nil)))
  have hn0 : n ≠ 0 := by omega
  refine SatP.of_body hT hm Try.func41 s41 o41 h2 (by simp) ?_
  have hp : τ ≠ 0 := hpre
  rw [← treeOkI_eq]
  simp only [treeOkI]
  generalize hr : treeL t none [] t.buckets = r
  simp (config := {contextual := true, maxSteps := 2000000, implicitDefEqProofs := false}) [c41, go_sem]
  refine ⟨fun h => by grind, ?_⟩
  intros
  rename_i hd1 hd2 hL
  refine VW_listKE [] [1, 3] hT h2 hm t.buckets [1, 3, 19, 20] (fun pre post (acc : List Int) => [.box 36 [.sl τ 2 (t.devices.map (enDev.av τ)), .sl τ 3 (t.buckets.map (enBkt.av τ))], .mp (kvs acc)]) (fun pre post (acc : List Int) => [(21, .int .i64 pre.length)]) (fun pre post (acc : List Int) => treeL t pre.getLast? acc post = r) [] ?_ ?_ ?_ ?_
  · exact hr
  · simp [SubE, SubR, go_sem]
  · rintro acc hR
    have hR' : true = r := hR
    simp (config := {contextual := true, maxSteps := 2000000, implicitDefEqProofs := false}) [go_sem]
    grind
  · rintro pre0 x rest acc hl hlen hR
    have hx8 : x.items.length ≤ maxLen ∨ True := .inr trivial
    rcases List.eq_nil_or_concat pre0 with rfl | ⟨q, y, rfl⟩
    · have hln : t.buckets.length = 0 + (rest.length + 1) := by rw [← hl]; simp
      have hn : nth (List.map (enBkt.av τ) t.buckets) (0) = (enBkt.av τ) x := by rw [← hl]; simp [go_sem]
      have hw : t.buckets.length ≤ maxLen → IntKind.i64.wrap ((0 : Int) + 1) = (0 : Int) + 1 := fun h => wrap_ok (by omega) (by simp only [maxLen] at h; omega)
      have h3 : (0 : Int) ≤ (0 : Int) := by omega
      have h4 : (0 : Int) < (t.buckets.length : Int) := by omega
      have h5 : ¬ (t.buckets.length : Int) ≤ (0 : Int) := by omega
      have hw0 : IntKind.i64.wrap 1 = 1 := by decide
      have h4n : 0 < t.buckets.length := by omega
      simp only [treeL, List.getLast?_nil, bktOk] at hR
      generalize hM : (useB acc x.items).elim false (fun a => treeL t (some x) a rest) = M at hR
      simp (config := {contextual := true, maxSteps := 2000000, implicitDefEqProofs := false}) [go_sem, hL, hw0, h4n, hn, hw, h3, h4, h5, SubE, SubR, hp]
      refine ⟨fun h => by grind, ?_⟩
      intros
      have hMr : M = r := by grind
      refine VW_listKE [] [1, 3] hT h2 hm x.items [1, 3, 19, 20, 21, 65, 66] (fun pre post (ac : List Int) => [.box 36 [.sl τ 2 (t.devices.map (enDev.av τ)), .sl τ 3 (t.buckets.map (enBkt.av τ))], .mp (kvs ac)]) (fun pre post (ac : List Int) => [(67, .int .i64 pre.length)]) (fun pre post (ac : List Int) => (useB ac post).elim false (fun a => treeL t (some x) a rest) = r) acc ?_ ?_ ?_ ?_
      · rw [← hMr]; exact hM
      · simp [SubE, SubR, go_sem]
      · rintro ac hR3
        have hR4 : treeL t (some x) ac rest = r := hR3
        simp (config := {contextual := true, maxSteps := 2000000, implicitDefEqProofs := false}) [go_sem, hL, hw0, h4n, hn, hw, h3, h4, h5, SubE, SubR]
        first | exact ⟨ac, hR4, rfl⟩ | exact ⟨ac, hR4, rfl, by omega⟩
      · rintro pre y post ac hl' hlen' hR3
        have hw' : pre.length + (post.length + 1) ≤ maxLen → IntKind.i64.wrap ((pre.length : Int) + 1) = (pre.length : Int) + 1 := fun h => wrap_next h (by omega)
        have h3' : (0 : Int) ≤ pre.length := by omega
        have h4' : (pre.length : Int) < (pre.length : Int) + ((post.length : Int) + 1) := by omega
        have h5' : ¬ (pre.length : Int) + ((post.length : Int) + 1) ≤ (pre.length : Int) := by omega
        have hR4 : (if y ∈ ac then none else useB (ins ac y) post) = useB ac (y :: post) := rfl
        rw [← hR4] at hR3
        have hlx : pre.length + (post.length + 1) ≤ maxLen := by omega
        simp (config := {contextual := true, maxSteps := 2000000, implicitDefEqProofs := false}) [go_sem, hw', hlx, h3', h4', h5', ← hl', SubE, SubR]
        refine ⟨fun h => by intros; simpa [h] using hR3.symm, fun h => ⟨ins ac y, by simpa [h] using hR3, rfl⟩⟩
    · have hln : t.buckets.length = q.length + 1 + (rest.length + 1) := by rw [← hl]; simp; omega
      have hn : nth (List.map (enBkt.av τ) t.buckets) (q.length + 1) = (enBkt.av τ) x := by rw [← hl]; simp [go_sem]
      have hw : t.buckets.length ≤ maxLen → IntKind.i64.wrap (((q.length : Int) + 1) + 1) = ((q.length : Int) + 1) + 1 := fun h => wrap_ok (by omega) (by simp only [maxLen] at h; omega)
      have h3 : (0 : Int) ≤ ((q.length : Int) + 1) := by omega
      have h4 : ((q.length : Int) + 1) < (t.buckets.length : Int) := by omega
      have h5 : ¬ (t.buckets.length : Int) ≤ ((q.length : Int) + 1) := by omega
      have h6 : nth (List.map (enBkt.av τ) t.buckets) q.length = (enBkt.av τ) y := by rw [← hl]; simp [go_sem]
      have h7 : t.buckets.length ≤ maxLen → IntKind.i64.wrap (q.length : Int) = (q.length : Int) := fun h => wrap_ok (by omega) (by simp only [maxLen] at h; omega)
      have h8 : (0 : Int) ≤ (q.length : Int) := by omega
      have h9 : (0 : Int) < ((q.length : Int) + 1) := by omega
      have h10 : (q.length : Int) < (t.buckets.length : Int) := by omega
      simp only [treeL, last_concat, bktOk] at hR
      generalize hM : (useB acc x.items).elim false (fun a => treeL t (some x) a rest) = M at hR
      simp (config := {contextual := true, maxSteps := 2000000, implicitDefEqProofs := false}) [go_sem, hL, hn, hw, h3, h4, h5, h6, h7, h8, h9, h10, SubE, SubR, hp]
      refine ⟨fun h => by grind, ?_⟩
      intros
      have hMr : M = r := by grind
      refine VW_listKE [] [1, 3] hT h2 hm x.items [1, 3, 19, 20, 21, 65, 66] (fun pre post (ac : List Int) => [.box 36 [.sl τ 2 (t.devices.map (enDev.av τ)), .sl τ 3 (t.buckets.map (enBkt.av τ))], .mp (kvs ac)]) (fun pre post (ac : List Int) => [(67, .int .i64 pre.length)]) (fun pre post (ac : List Int) => (useB ac post).elim false (fun a => treeL t (some x) a rest) = r) acc ?_ ?_ ?_ ?_
      · rw [← hMr]; exact hM
      · simp [SubE, SubR, go_sem]
      · rintro ac hR3
        have hR4 : treeL t (some x) ac rest = r := hR3
        simp (config := {contextual := true, maxSteps := 2000000, implicitDefEqProofs := false}) [go_sem, hL, hn, hw, h3, h4, h5, h6, h7, h8, h9, h10, SubE, SubR]
        first | exact ⟨ac, hR4, rfl⟩ | exact ⟨ac, hR4, rfl, by omega⟩
      · rintro pre y post ac hl' hlen' hR3
        have hw' : pre.length + (post.length + 1) ≤ maxLen → IntKind.i64.wrap ((pre.length : Int) + 1) = (pre.length : Int) + 1 := fun h => wrap_next h (by omega)
        have h3' : (0 : Int) ≤ pre.length := by omega
        have h4' : (pre.length : Int) < (pre.length : Int) + ((post.length : Int) + 1) := by omega
        have h5' : ¬ (pre.length : Int) + ((post.length : Int) + 1) ≤ (pre.length : Int) := by omega
        have hR4 : (if y ∈ ac then none else useB (ins ac y) post) = useB ac (y :: post) := rfl
        rw [← hR4] at hR3
        have hlx : pre.length + (post.length + 1) ≤ maxLen := by omega
        simp (config := {contextual := true, maxSteps := 2000000, implicitDefEqProofs := false}) [go_sem, hw', hlx, h3', h4', h5', ← hl', SubE, SubR]
        refine ⟨fun h => by intros; simpa [h] using hR3.symm, fun h => ⟨ins ac y, by simpa [h] using hR3, rfl⟩⟩
end Go.Ve
