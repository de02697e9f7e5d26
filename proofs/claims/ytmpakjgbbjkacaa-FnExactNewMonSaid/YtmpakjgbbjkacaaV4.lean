/- Contracts: lists of monitors. No condition. -/
import Derived.Test.YtmpakjgbbjkacaaV3
namespace Go.Ve
open Go.Proofs Go.RowKit
set_option linter.unusedVariables false
set_option linter.unusedSimpArgs false
set_option maxRecDepth 10000
set_option maxHeartbeats 4000000
/- spec.l00Rises -/
def c92 : SCode := (.seq (.reg [⟨(some 6), .assign (.const (.bool false)), none⟩])
(.seq (.seq (.reg [⟨(some 7), .assign (.const (.int .i64 0)), none⟩])
  (.block 0 (.loop (.seq (.seq (.reg [⟨(some 8), .move (.tmp 7), none⟩,
         ⟨(some 9), .move (.tmp 0), none⟩,
         ⟨(some 10), .call ⟨(.builtin .len), #[(.tmp 9)], #[52]⟩, none⟩,
         ⟨(some 11), .binOp .lss 3 (.tmp 8) (.tmp 10) 3, none⟩])
      (.cond (.tmp 11) .skip
       (.exit 0)))
     (.seq (.block 1 (.seq (.draw [⟨(some 14), .move (.tmp 0), none⟩,
           ⟨(some 15), .move (.tmp 7), none⟩,
           ⟨(some 16), .indexAddr 52 (.tmp 14) (.tmp 15), none⟩,
           ⟨(some 17), .load 2 (.tmp 16), none⟩,
           ⟨(some 18), .move (.tmp 1), none⟩,
           ⟨(some 19), .move (.tmp 2), none⟩,
           ⟨(some 20), .call ⟨(.value (.func 43)), #[(.tmp 17), (.tmp 18), (.tmp 19)], #[2, 2, 2]⟩, none⟩,
           ⟨(some 21), .unOp .not 4 (.tmp 20), none⟩,
           ⟨(some 22), .move (.tmp 21), none⟩,
           ⟨(some 23), .move (.tmp 7), (some (22, false))⟩,
           ⟨(some 24), .binOp .gtr 3 (.tmp 23) (.const (.int .i64 0)) 3, (some (22, false))⟩,
           ⟨(some 25), .move (.tmp 24), (some (22, false))⟩,
           ⟨(some 26), .move (.tmp 0), (some (25, true))⟩,
           ⟨(some 27), .move (.tmp 7), (some (25, true))⟩,
           ⟨(some 28), .binOp .sub 3 (.tmp 27) (.const (.int .i64 1)) 3, (some (25, true))⟩,
           ⟨(some 29), .indexAddr 52 (.tmp 26) (.tmp 28), (some (25, true))⟩,
           ⟨(some 30), .load 2 (.tmp 29), (some (25, true))⟩,
           ⟨(some 31), .move (.tmp 0), (some (25, true))⟩,
           ⟨(some 32), .move (.tmp 7), (some (25, true))⟩,
           ⟨(some 33), .indexAddr 52 (.tmp 31) (.tmp 32), (some (25, true))⟩,
           ⟨(some 34), .load 2 (.tmp 33), (some (25, true))⟩,
           ⟨(some 35), .binOp .geq 2 (.tmp 30) (.tmp 34) 2, (some (25, true))⟩,
           ⟨(some 36), .pick (.tmp 25) (.tmp 35) (.const (.bool false)), (some (22, false))⟩,
           ⟨(some 37), .pick (.tmp 22) (.const (.bool true)) (.tmp 36), none⟩] [[], [], [0, 1], [0, 1, 2], [], [], [0, 1, 2, 3, 4, 5], [0, 1, 2, 3, 4, 5, 6], [0, 1, 2, 3, 4, 5, 6, 7], [0, 1, 2, 3, 4, 5, 6, 7, 8], [0, 1, 2, 3, 4, 5, 6, 7, 8, 9], [0, 1, 2, 3, 4, 5, 6, 7, 8, 9, 10], [0, 1, 2, 3, 4, 5, 6, 7, 8, 9, 10, 11], [0, 1, 2, 3, 4, 5, 6, 7, 8, 9, 10, 11], [0, 1, 2, 3, 4, 5, 6, 7, 8, 9, 10, 11, 13], [0, 1, 2, 3, 4, 5, 6, 7, 8, 9, 10, 11, 12, 13, 14], [0, 1, 2, 3, 4, 5, 6, 7, 8, 9, 10, 11, 12, 13, 14, 15], [0, 1, 2, 3, 4, 5, 6, 7, 8, 9, 10, 11], [0, 1, 2, 3, 4, 5, 6, 7, 8, 9, 10, 11], [0, 1, 2, 3, 4, 5, 6, 7, 8, 9, 10, 11, 17, 18], [0, 1, 2, 3, 4, 5, 6, 7, 8, 9, 10, 11, 17, 18, 19], [0, 1, 2, 3, 4, 5, 6, 7, 8, 9, 10, 11, 12, 13, 14, 15, 16, 17, 18, 19, 20], [0, 1, 2, 3, 4, 5, 6, 7, 8, 9, 10, 11, 12, 13, 14, 15, 16, 17, 18, 19, 20, 21], [0, 1, 2, 3, 4, 5, 6, 7, 8, 9, 10, 11, 12, 13, 14, 15, 16, 17, 18, 19, 20, 21, 22]])
        (.cond (.tmp 37) (.seq (.reg [⟨(some 6), .assign (.const (.bool false)), none⟩])
          .ret)
         .skip)))
      (.reg [⟨(some 12), .move (.tmp 7), none⟩,
         ⟨(some 13), .binOp .add 3 (.tmp 12) (.const (.int .i64 1)) 3, none⟩,
         ⟨(some 7), .assign (.tmp 13), none⟩]))))))
 (.seq (.reg [⟨(some 6), .assign (.const (.bool true)), none⟩])
  .ret)))
theorem s92 : slimF Try.f92 = some (c92, [.t 6], 38) := by kernel_rfl
theorem o92 : okF [(43, g43)] Try.f92 = true := by kernel_rfl
noncomputable def g92 : Fsem := sem3 (En.int .i64).list (En.int .i64) (En.int .i64) (fun l lo hi => True) (fun n l lo hi => .bool (chk (risP lo hi) none l))
@[go_sem] theorem g92_eq {n τ : Nat} {l : List Int} {lo : Int} {hi : Int} : g92 n [.sl τ 1 (l.map (AV.int .i64)), .int .i64 lo, .int .i64 hi] = ⟨True, .bool (chk (risP lo hi) none l)⟩ := sem3_eq (τ' := 0) (τ'' := 0) (E := (En.int .i64).list) (F := (En.int .i64)) (G := (En.int .i64))
theorem p92 : Pure Try.prog 92 g92 := by
  refine sem3_pure fun τ τ' τ'' l lo hi n h2 hpre => ?_
  have hT : Table Try.prog [(43, g43)] := (.cons p43 .nil)
  have hn0 : n ≠ 0 := by omega
  refine SatP.of_body hT hm Try.func92 s92 o92 h2 (by simp) ?_
  generalize hr : chk (risP lo hi) none l = r
  simp (config := {contextual := true, maxSteps := 2000000, implicitDefEqProofs := false}) [c92, go_sem]
  refine VW_listK hT h2 hm l [0, 1, 2] (fun pre post (b : Unit) => [(7, .int .i64 pre.length)]) (fun pre post (b : Unit) => chk (risP lo hi) pre.getLast? post = r) () ?_ ?_ ?_ ?_
  · exact hr
  · simp [SubI, go_sem]
  · intro _ hR
    have hR0 : true = r := hR
    simp (config := {contextual := true, maxSteps := 2000000, implicitDefEqProofs := false}) [go_sem]
    grind
  · rintro pre0 x rest _ hl hlen hR
    rcases List.eq_nil_or_concat pre0 with rfl | ⟨q, y, rfl⟩
    · have hln : l.length = 0 + (rest.length + 1) := by rw [← hl]; simp
      have hn : nth (List.map (AV.int .i64) l) (0) = (AV.int .i64) x := by rw [← hl]; simp [go_sem]
      have hw : l.length ≤ maxLen → IntKind.i64.wrap ((0 : Int) + 1) = (0 : Int) + 1 := fun h => wrap_ok (by omega) (by simp only [maxLen] at h; omega)
      have h3 : (0 : Int) ≤ (0 : Int) := by omega
      have h4 : (0 : Int) < (l.length : Int) := by omega
      have h5 : ¬ (l.length : Int) ≤ (0 : Int) := by omega
      have hw0 : IntKind.i64.wrap 1 = 1 := by decide
      have h4n : 0 < l.length := by omega
      simp only [chk, risP, incP, List.getLast?_nil] at hR
      (simp (config := {contextual := true, maxSteps := 2000000, implicitDefEqProofs := false}) [go_sem, SubI, hw0, h4n, hn, hw, h3, h4, h5] <;> grind)
    · have hln : l.length = q.length + 1 + (rest.length + 1) := by rw [← hl]; simp; omega
      have hn : nth (List.map (AV.int .i64) l) (q.length + 1) = (AV.int .i64) x := by rw [← hl]; simp [go_sem]
      have hw : l.length ≤ maxLen → IntKind.i64.wrap (((q.length : Int) + 1) + 1) = ((q.length : Int) + 1) + 1 := fun h => wrap_ok (by omega) (by simp only [maxLen] at h; omega)
      have h3 : (0 : Int) ≤ ((q.length : Int) + 1) := by omega
      have h4 : ((q.length : Int) + 1) < (l.length : Int) := by omega
      have h5 : ¬ (l.length : Int) ≤ ((q.length : Int) + 1) := by omega
      have h6 : nth (List.map (AV.int .i64) l) q.length = (AV.int .i64) y := by rw [← hl]; simp [go_sem]
      have h7 : l.length ≤ maxLen → IntKind.i64.wrap (q.length : Int) = (q.length : Int) := fun h => wrap_ok (by omega) (by simp only [maxLen] at h; omega)
      have h8 : (0 : Int) ≤ (q.length : Int) := by omega
      have h9 : (0 : Int) < ((q.length : Int) + 1) := by omega
      have h10 : (q.length : Int) < (l.length : Int) := by omega
      simp only [chk, risP, incP, last_concat] at hR
      (simp (config := {contextual := true, maxSteps := 2000000, implicitDefEqProofs := false}) [go_sem, SubI, hn, hw, h3, h4, h5, h6, h7, h8, h9, h10] <;> grind)
/- impl.increasing -/
def c111 : SCode := (.seq (.reg [⟨(some 2), .assign (.const (.bool false)), none⟩])
(.seq (.seq (.reg [⟨(some 3), .assign (.const (.int .i64 1)), none⟩])
  (.block 0 (.loop (.seq (.seq (.reg [⟨(some 4), .move (.tmp 3), none⟩,
         ⟨(some 5), .move (.tmp 0), none⟩,
         ⟨(some 6), .call ⟨(.builtin .len), #[(.tmp 5)], #[52]⟩, none⟩,
         ⟨(some 7), .binOp .lss 3 (.tmp 4) (.tmp 6) 3, none⟩])
      (.cond (.tmp 7) .skip
       (.exit 0)))
     (.seq (.block 1 (.seq (.draw [⟨(some 10), .move (.tmp 0), none⟩,
           ⟨(some 11), .move (.tmp 3), none⟩,
           ⟨(some 12), .indexAddr 52 (.tmp 10) (.tmp 11), none⟩,
           ⟨(some 13), .load 2 (.tmp 12), none⟩,
           ⟨(some 14), .move (.tmp 0), none⟩,
           ⟨(some 15), .move (.tmp 3), none⟩,
           ⟨(some 16), .binOp .sub 3 (.tmp 15) (.const (.int .i64 1)) 3, none⟩,
           ⟨(some 17), .indexAddr 52 (.tmp 14) (.tmp 16), none⟩,
           ⟨(some 18), .load 2 (.tmp 17), none⟩,
           ⟨(some 19), .binOp .leq 2 (.tmp 13) (.tmp 18) 2, none⟩] [[], [], [0, 1], [0, 1, 2], [], [], [5], [4, 5, 6], [4, 5, 6, 7], [0, 1, 2, 3, 4, 5, 6, 7, 8]])
        (.cond (.tmp 19) (.seq (.reg [⟨(some 2), .assign (.const (.bool false)), none⟩])
          .ret)
         .skip)))
      (.reg [⟨(some 8), .move (.tmp 3), none⟩,
         ⟨(some 9), .binOp .add 3 (.tmp 8) (.const (.int .i64 1)) 3, none⟩,
         ⟨(some 3), .assign (.tmp 9), none⟩]))))))
 (.seq (.reg [⟨(some 2), .assign (.const (.bool true)), none⟩])
  .ret)))
theorem s111 : slimF Try.f111 = some (c111, [.t 2], 20) := by kernel_rfl
theorem o111 : okF [] Try.f111 = true := by kernel_rfl
noncomputable def g111 : Fsem := sem1 (En.int .i64).list (fun l => True) (fun n l => .bool (incr l))
@[go_sem] theorem g111_eq {n τ : Nat} {l : List Int} : g111 n [.sl τ 1 (l.map (AV.int .i64))] = ⟨True, .bool (incr l)⟩ := sem1_eq  (E := (En.int .i64).list)
theorem p111 : Pure Try.prog 111 g111 := by
  refine sem1_pure fun τ l n h2 hpre => ?_
  have hT : Table Try.prog [] := .nil
  have hn0 : n ≠ 0 := by omega
  refine SatP.of_body hT hm Try.func111 s111 o111 h2 (by simp) ?_
  cases l with
  | nil =>
    simp (config := {contextual := true, maxSteps := 2000000, implicitDefEqProofs := false}) [c111, go_sem]
    refine VW_listK hT h2 hm ([] : List Int) [0] (fun pre post (b : Unit) => [(3, .int .i64 1)]) (fun pre post (b : Unit) => True) () ?_ ?_ ?_ ?_
    · trivial
    · simp [SubI, go_sem]
    · intro _ _
      simp (config := {contextual := true, maxSteps := 2000000, implicitDefEqProofs := false}) [go_sem]
      simp [incr, chk]
    · intro pre x post _ hl
      simp at hl
  | cons y l =>
    generalize hr : incr (y :: l) = r
    simp (config := {contextual := true, maxSteps := 2000000, implicitDefEqProofs := false}) [c111, go_sem]
    refine VW_listK hT h2 hm l [0] (fun pre post (b : Unit) => [(3, .int .i64 ((pre.length : Int) + 1))]) (fun pre post (b : Unit) => chk incP (y :: pre).getLast? post = r) () ?_ ?_ ?_ ?_
    · rw [← hr]; simp [incr, chk, incP]
    · simp [SubI, go_sem]
    · intro _ hR
      simp (config := {contextual := true, maxSteps := 2000000, implicitDefEqProofs := false}) [go_sem]
      simp [chk] at hR
      grind
    · intro pre x post _ hl hlen hR
      obtain ⟨q, z, hq⟩ := exists_concat y pre
      have hpl : pre.length = q.length := by
        have := congrArg List.length hq
        simpa using this
      have hll : y :: l = q ++ z :: x :: post := by
        rw [← hl, ← List.cons_append, hq]
        simp
      have hn1 : nth (List.map (AV.int .i64) (y :: l)) q.length = .int .i64 z := by rw [hll]; simp [go_sem]
      have hn2 : nth (List.map (AV.int .i64) (y :: l)) (q.length + 1) = .int .i64 x := by rw [hll]; simp [go_sem]
      simp only [List.map_cons] at hn1 hn2
      have hlen2 : l.length = q.length + (post.length + 1) := by omega
      have hw : l.length + 1 ≤ maxLen → IntKind.i64.wrap ((q.length : Int) + 1 + 1) = (q.length : Int) + 1 + 1 := fun h => wrap_ok (by omega) (by simp only [maxLen] at h; omega)
      have hw1 : l.length + 1 ≤ maxLen → IntKind.i64.wrap (q.length : Int) = (q.length : Int) := fun h => wrap_ok (by omega) (by simp only [maxLen] at h; omega)
      have h3 : (0 : Int) ≤ q.length := by omega
      have h4 : (0 : Int) ≤ (q.length : Int) + 1 := by omega
      have h5 : (q.length : Int) < l.length := by omega
      have h6 : (q.length : Int) + 1 < (l.length : Int) + 1 := by omega
      have h7 : (q.length : Int) < (l.length : Int) + 1 := by omega
      rw [hq, last_concat] at hR
      simp only [chk, incP] at hR
      simp (config := {contextual := true, maxSteps := 2000000, implicitDefEqProofs := false}) [go_sem, hpl, hn1, hn2, hw, hw1, h3, h4, h5, h6, h7, SubI] <;> grind
/- impl.allBetween$1 -/
def c118 : SCode := (.seq (.reg [⟨(some 4), .assign (.const (.bool false)), none⟩])
(.seq (.reg [⟨(some 5), .move (.tmp 0), none⟩,
    ⟨(some 6), .load 2 (.tmp 1), none⟩,
    ⟨(some 7), .load 2 (.tmp 2), none⟩,
    ⟨(some 8), .call ⟨(.value (.func 45)), #[(.tmp 5), (.tmp 6), (.tmp 7)], #[2, 2, 2]⟩, none⟩,
    ⟨(some 9), .unOp .not 4 (.tmp 8), none⟩,
    ⟨(some 4), .assign (.tmp 9), none⟩])
 .ret))
theorem s118 : slimF Try.f118 = some (c118, [.t 4], 10) := by kernel_rfl
theorem o118 : okF [(45, g45)] Try.f118 = true := by kernel_rfl
noncomputable def g118 : Fsem := semOf (fun i : (Nat × Nat) × Int × Int × Int => [.int .i64 i.2.1, .dptr i.1.1 [.int .i64 i.2.2.1], .dptr i.1.2 [.int .i64 i.2.2.2]]) (fun _ => True) (fun _ i => .bool (!btw i.2.1 i.2.2.1 i.2.2.2))
@[go_sem] theorem g118_eq {n τ τ' : Nat} {x lo hi : Int} : g118 n [.int .i64 x, .dptr τ [.int .i64 lo], .dptr τ' [.int .i64 hi]] = ⟨True, .bool (!btw x lo hi)⟩ :=
  semOf_eq ((τ, τ'), x, lo, hi) rfl fun ⟨⟨_, _⟩, x', lo', hi'⟩ h => by
    simp only [List.cons.injEq, AV.int.injEq, AV.dptr.injEq, true_and, and_true] at h
    obtain ⟨h1, ⟨_, h2⟩, _, h3⟩ := h
    simp [h1, h2, h3]
theorem p118 : Pure Try.prog 118 g118 := by
  refine semOf_pure fun ⟨⟨τ, τ'⟩, x, lo, hi⟩ n h2 _ => ?_
  have hT : Table Try.prog [(45, g45)] := (.cons p45 .nil)
  refine SatP.of_body hT hm Try.func118 s118 o118 h2 (by simp) ?_
  simp (config := {contextual := true, implicitDefEqProofs := false}) [c118, go_sem]
theorem s120 : slimF Try.f120 = some (idxC 52 2, [.t 4], 19) := by kernel_rfl
theorem o120_118 : okF [(118, g118)] Try.f120 = true := by kernel_rfl
noncomputable def g120_118 : Fsem := idxSem (ι := (Nat × Nat) × Int × Int) (En.int .i64) 118 (fun i => [.dptr i.1.1 [.int .i64 i.2.1], .dptr i.1.2 [.int .i64 i.2.2]]) (fun i x => !btw x i.2.1 i.2.2)
theorem g120_118_eq {n τ τ' τ'' : Nat} {l : List Int} {lo hi : Int} : g120_118 n [.sl τ 1 (l.map (AV.int .i64)), .fn 118 [.dptr τ' [.int .i64 lo], .dptr τ'' [.int .i64 hi]]] = ⟨True, .int .i64 (idx (fun x => !btw x lo hi) l)⟩ :=
  idxSem_eq (E := En.int .i64) (caps := fun i : (Nat × Nat) × Int × Int => [.dptr i.1.1 [.int .i64 i.2.1], .dptr i.1.2 [.int .i64 i.2.2]]) (p := fun i x => !btw x i.2.1 i.2.2) ((τ', τ''), lo, hi) (fun j h => by
    simp only [List.cons.injEq, AV.int.injEq, AV.dptr.injEq, true_and, and_true] at h
    simp only [h.1.2, h.2.2])
theorem p120_118 : Pure Try.prog 120 g120_118 := idxSem_pure hm Try.func120 s120 o120_118 (by omega) ty_52 (fite_2) p118 (fun i c hc => by simp at hc; rcases hc with rfl | rfl <;> rfl) (fun i n τ x => by simp [go_sem])
theorem s117 : slimF Try.f117 = some (cfC 52 88 120, [.t 4], 9) := by kernel_rfl
theorem o117_118 : okF [(120, g120_118)] Try.f117 = true := by kernel_rfl
noncomputable def g117_118 : Fsem := cfSem (ι := (Nat × Nat) × Int × Int) (En.int .i64) 118 (fun i => [.dptr i.1.1 [.int .i64 i.2.1], .dptr i.1.2 [.int .i64 i.2.2]]) (fun i x => !btw x i.2.1 i.2.2)
@[go_sem] theorem g117_118_eq {n τ τ' τ'' : Nat} {l : List Int} {lo hi : Int} : g117_118 n [.sl τ 1 (l.map (AV.int .i64)), .fn 118 [.dptr τ' [.int .i64 lo], .dptr τ'' [.int .i64 hi]]] = ⟨True, .bool (l.any (fun x => !btw x lo hi))⟩ :=
  cfSem_eq (E := En.int .i64) (caps := fun i : (Nat × Nat) × Int × Int => [.dptr i.1.1 [.int .i64 i.2.1], .dptr i.1.2 [.int .i64 i.2.2]]) (p := fun i x => !btw x i.2.1 i.2.2) ((τ', τ''), lo, hi) (fun j h => by
    simp only [List.cons.injEq, AV.int.injEq, AV.dptr.injEq, true_and, and_true] at h
    simp only [h.1.2, h.2.2])
theorem p117_118 : Pure Try.prog 117 g117_118 := cfSem_pure hm Try.func117 s117 o117_118 (by omega) p120_118 (fun i c hc => by simp at hc; rcases hc with rfl | rfl <;> rfl) (fun i n τ l => g120_118_eq)
/- impl.allBetween -/
def c112 : SCode := (.seq (.reg [⟨(some 4), .box 2 (.tmp 1), none⟩,
   ⟨(some 5), .box 2 (.tmp 2), none⟩,
   ⟨(some 6), .assign (.const (.bool false)), none⟩])
(.seq (.reg [⟨(some 7), .move (.tmp 0), none⟩,
    ⟨(some 8), .makeFunc (Fn.func 118) #[] #[(.tmp 4), (.tmp 5)], none⟩,
    ⟨(some 9), .call ⟨(.value (.func 117)), #[(.tmp 7), (.tmp 8)], #[52, 88]⟩, none⟩,
    ⟨(some 10), .unOp .not 4 (.tmp 9), none⟩,
    ⟨(some 6), .assign (.tmp 10), none⟩])
 .ret))
theorem s112 : slimF Try.f112 = some (c112, [.t 6], 11) := by kernel_rfl
theorem o112 : okF [(117, (dsp [(118, g117_118)]))] Try.f112 = true := by kernel_rfl
noncomputable def g112 : Fsem := sem3 (En.int .i64).list (En.int .i64) (En.int .i64) (fun l lo hi => True) (fun n l lo hi => .bool (!l.any fun x => !btw x lo hi))
@[go_sem] theorem g112_eq {n τ : Nat} {l : List Int} {lo : Int} {hi : Int} : g112 n [.sl τ 1 (l.map (AV.int .i64)), .int .i64 lo, .int .i64 hi] = ⟨True, .bool (!l.any fun x => !btw x lo hi)⟩ := sem3_eq (τ' := 0) (τ'' := 0) (E := (En.int .i64).list) (F := (En.int .i64)) (G := (En.int .i64))
theorem p112 : Pure Try.prog 112 g112 := by
  refine sem3_pure fun τ τ' τ'' l lo hi n h2 hpre => ?_
  have hT : Table Try.prog [(117, (dsp [(118, g117_118)]))] := (.cons (dsp_pure (by simp only [List.mem_cons, List.not_mem_nil, or_false, forall_eq]; exact p117_118)) .nil)
  have hn0 : n ≠ 0 := by omega
  refine SatP.of_body hT hm Try.func112 s112 o112 h2 (by simp) ?_
  simp (config := {contextual := true, maxSteps := 2000000, implicitDefEqProofs := false}) [c112, go_sem]
/- (impl.Mon).idsOk -/
def c103 : SCode := (.seq (.reg [⟨(some 2), .box 56 (.tmp 0), none⟩,
   ⟨(some 4), .assign (.const (.bool false)), none⟩])
(.seq (.reg [⟨(some 5), .move (.tmp 1), none⟩,
    ⟨(some 6), .call ⟨(.value (.func 111)), #[(.tmp 5)], #[52]⟩, none⟩,
    ⟨(some 7), .move (.tmp 6), none⟩,
    ⟨(some 8), .move (.tmp 1), (some (7, true))⟩,
    ⟨(some 9), .fieldAddr 56 (.tmp 2) 1, (some (7, true))⟩,
    ⟨(some 10), .load 2 (.tmp 9), (some (7, true))⟩,
    ⟨(some 11), .binOp .sub 2 (.tmp 10) (.const (.int .i64 1)) 2, (some (7, true))⟩,
    ⟨(some 12), .call ⟨(.value (.func 112)), #[(.tmp 8), (.const (.int .i64 0)), (.tmp 11)], #[52, 2, 2]⟩, (some (7, true))⟩,
    ⟨(some 13), .pick (.tmp 7) (.tmp 12) (.const (.bool false)), none⟩,
    ⟨(some 4), .assign (.tmp 13), none⟩])
 .ret))
theorem s103 : slimF Try.f103 = some (c103, [.t 4], 14) := by kernel_rfl
theorem o103 : okF [(111, g111), (112, g112)] Try.f103 = true := by kernel_rfl
noncomputable def g103 : Fsem := sem2 enMon (En.int .i64).list (fun m l => True) (fun n m l => .bool (idsOk m l))
@[go_sem] theorem g103_eq {n τ τ' : Nat} {m : Mon} {l : List Int} : g103 n [.agg [.int .i64 m.id, .int .i64 m.many, .sl τ 9 (m.slots.map (enSlot.av τ)), .int .i64 m.try_.epoch, .int .i64 m.try_.ballot.no, .int .i64 m.try_.ballot.by_, .int .i64 m.try_.inc.epoch, .int .i64 m.try_.inc.kind, .int .i64 m.try_.inc.a, .int .i64 m.try_.inc.b, .int .i64 m.try_.highest.no, .int .i64 m.try_.highest.by_, .sl τ 1 (m.try_.promises.map (AV.int .i64)), .sl τ 1 (m.try_.accepts.map (AV.int .i64)), .bool m.try_.decided], .sl τ' 1 (l.map (AV.int .i64))] = ⟨True, .bool (idsOk m l)⟩ := sem2_eq  (E := enMon) (F := (En.int .i64).list)
theorem p103 : Pure Try.prog 103 g103 := by
  refine sem2_pure fun τ τ' m l n h2 hpre => ?_
  have hT : Table Try.prog [(111, g111), (112, g112)] := (.cons p111 (.cons p112 .nil))
  have hn0 : n ≠ 0 := by omega
  refine SatP.of_body hT hm Try.func103 s103 o103 h2 (by simp) ?_
  simp (config := {contextual := true, maxSteps := 2000000, implicitDefEqProofs := false}) [c103, go_sem, idsOk]
/- (impl.Try).isZero -/
def c98 : SCode := (.seq (.reg [⟨(some 1), .box 54 (.tmp 0), none⟩,
   ⟨(some 2), .assign (.const (.bool false)), none⟩])
(.seq (.reg [⟨(some 3), .fieldAddr 54 (.tmp 1) 0, none⟩,
    ⟨(some 4), .load 2 (.tmp 3), none⟩,
    ⟨(some 5), .binOp .eql 2 (.tmp 4) (.const (.int .i64 0)) 2, none⟩,
    ⟨(some 6), .move (.tmp 5), none⟩,
    ⟨(some 7), .fieldAddr 54 (.tmp 1) 1, (some (6, true))⟩,
    ⟨(some 8), .load 49 (.tmp 7), (some (6, true))⟩,
    ⟨(some 9), .build 49 #[], (some (6, true))⟩,
    ⟨(some 10), .binOp .eql 49 (.tmp 8) (.tmp 9) 49, (some (6, true))⟩,
    ⟨(some 11), .pick (.tmp 6) (.tmp 10) (.const (.bool false)), none⟩,
    ⟨(some 12), .move (.tmp 11), none⟩,
    ⟨(some 13), .fieldAddr 54 (.tmp 1) 2, (some (12, true))⟩,
    ⟨(some 14), .load 51 (.tmp 13), (some (12, true))⟩,
    ⟨(some 15), .build 51 #[], (some (12, true))⟩,
    ⟨(some 16), .binOp .eql 51 (.tmp 14) (.tmp 15) 51, (some (12, true))⟩,
    ⟨(some 17), .pick (.tmp 12) (.tmp 16) (.const (.bool false)), none⟩,
    ⟨(some 18), .move (.tmp 17), none⟩,
    ⟨(some 19), .fieldAddr 54 (.tmp 1) 3, (some (18, true))⟩,
    ⟨(some 20), .load 49 (.tmp 19), (some (18, true))⟩,
    ⟨(some 21), .build 49 #[], (some (18, true))⟩,
    ⟨(some 22), .binOp .eql 49 (.tmp 20) (.tmp 21) 49, (some (18, true))⟩,
    ⟨(some 23), .pick (.tmp 18) (.tmp 22) (.const (.bool false)), none⟩,
    ⟨(some 24), .move (.tmp 23), none⟩,
    ⟨(some 25), .fieldAddr 54 (.tmp 1) 4, (some (24, true))⟩,
    ⟨(some 26), .load 52 (.tmp 25), (some (24, true))⟩,
    ⟨(some 27), .call ⟨(.builtin .len), #[(.tmp 26)], #[52]⟩, (some (24, true))⟩,
    ⟨(some 28), .binOp .eql 3 (.tmp 27) (.const (.int .i64 0)) 3, (some (24, true))⟩,
    ⟨(some 29), .pick (.tmp 24) (.tmp 28) (.const (.bool false)), none⟩,
    ⟨(some 30), .move (.tmp 29), none⟩,
    ⟨(some 31), .fieldAddr 54 (.tmp 1) 5, (some (30, true))⟩,
    ⟨(some 32), .load 52 (.tmp 31), (some (30, true))⟩,
    ⟨(some 33), .call ⟨(.builtin .len), #[(.tmp 32)], #[52]⟩, (some (30, true))⟩,
    ⟨(some 34), .binOp .eql 3 (.tmp 33) (.const (.int .i64 0)) 3, (some (30, true))⟩,
    ⟨(some 35), .pick (.tmp 30) (.tmp 34) (.const (.bool false)), none⟩,
    ⟨(some 36), .move (.tmp 35), none⟩,
    ⟨(some 37), .fieldAddr 54 (.tmp 1) 6, (some (36, true))⟩,
    ⟨(some 38), .load 4 (.tmp 37), (some (36, true))⟩,
    ⟨(some 39), .unOp .not 4 (.tmp 38), (some (36, true))⟩,
    ⟨(some 40), .pick (.tmp 36) (.tmp 39) (.const (.bool false)), none⟩,
    ⟨(some 2), .assign (.tmp 40), none⟩])
 .ret))
theorem s98 : slimF Try.f98 = some (c98, [.t 2], 41) := by kernel_rfl
theorem o98 : okF [] Try.f98 = true := by kernel_rfl
noncomputable def g98 : Fsem := sem1 enTry (fun t => True) (fun n t => .bool (tryZero t))
@[go_sem] theorem g98_eq {n τ : Nat} {t : Try} : g98 n [.agg [.int .i64 t.epoch, .int .i64 t.ballot.no, .int .i64 t.ballot.by_, .int .i64 t.inc.epoch, .int .i64 t.inc.kind, .int .i64 t.inc.a, .int .i64 t.inc.b, .int .i64 t.highest.no, .int .i64 t.highest.by_, .sl τ 1 (t.promises.map (AV.int .i64)), .sl τ 1 (t.accepts.map (AV.int .i64)), .bool t.decided]] = ⟨True, .bool (tryZero t)⟩ := sem1_eq  (E := enTry)
theorem p98 : Pure Try.prog 98 g98 := by
  refine sem1_pure fun τ t n h2 hpre => ?_
  have hT : Table Try.prog [] := .nil
  have hn0 : n ≠ 0 := by omega
  refine SatP.of_body hT hm Try.func98 s98 o98 h2 (by simp) ?_
  simp (config := {contextual := true, maxSteps := 2000000, implicitDefEqProofs := false}) [c98, go_sem, tryZero, eqB_Ballot, eqB_Inc, zB, zI] <;> first | done | ac_rfl | grind (splits := 60)
end Go.Ve
