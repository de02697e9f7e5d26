/- Contracts of the seat: greatest, least, spreads of the reference. No condition. -/
import Derived.Test.YtidfijaobkaalaaV15
namespace Go.Ve
open Go.Proofs Go.RowKit
set_option linter.unusedVariables false
set_option linter.unusedSimpArgs false
set_option maxRecDepth 10000
set_option maxHeartbeats 4000000
def hdmaxL : List Int → Int
  | [] => 0
  | y :: l => maxL l y
def hdminL : List Int → Int
  | [] => 0
  | y :: l => minL l y
theorem spreadM_eq {l : List Int} (h : l ≠ []) : spreadM l = hdmaxL l - hdminL l := by
  cases l with
  | nil => exact absurd rfl h
  | cons y l => rfl

/- slices.Max[[]int64,int64] -/
def c114 : SCode := (.seq (.reg [⟨(some 2), .assign (.const (.int .i64 0)), none⟩])
(.seq (.seq (.reg [⟨(some 5), .move (.tmp 0), none⟩,
     ⟨(some 6), .call ⟨(.builtin .len), #[(.tmp 5)], #[28]⟩, none⟩,
     ⟨(some 7), .binOp .lss 3 (.tmp 6) (.const (.int .i64 1)) 3, none⟩])
  (.cond (.tmp 7) (.reg [⟨(some 8), .makeInterface 9 (.const (.string ⟨#[115, 108, 105, 99, 101, 115, 46, 77, 97, 120, 58, 32, 101, 109, 112, 116, 121, 32, 108, 105, 115, 116]⟩)), none⟩,
      ⟨none, .panic (.tmp 8), none⟩])
   .skip))
 (.seq (.reg [⟨(some 9), .move (.tmp 0), none⟩,
     ⟨(some 10), .indexAddr 28 (.tmp 9) (.const (.int .i64 0)), none⟩,
     ⟨(some 11), .load 2 (.tmp 10), none⟩,
     ⟨(some 3), .assign (.tmp 11), none⟩])
  (.seq (.seq (.reg [⟨(some 4), .assign (.const (.int .i64 1)), none⟩])
    (.block 0 (.loop (.seq (.seq (.reg [⟨(some 12), .move (.tmp 4), none⟩,
           ⟨(some 13), .move (.tmp 0), none⟩,
           ⟨(some 14), .call ⟨(.builtin .len), #[(.tmp 13)], #[28]⟩, none⟩,
           ⟨(some 15), .binOp .lss 3 (.tmp 12) (.tmp 14) 3, none⟩])
        (.cond (.tmp 15) .skip
         (.exit 0)))
       (.seq (.block 1 (.reg [⟨(some 18), .move (.tmp 3), none⟩,
            ⟨(some 19), .move (.tmp 0), none⟩,
            ⟨(some 20), .move (.tmp 4), none⟩,
            ⟨(some 21), .indexAddr 28 (.tmp 19) (.tmp 20), none⟩,
            ⟨(some 22), .load 2 (.tmp 21), none⟩,
            ⟨(some 23), .call ⟨(.builtin .max), #[(.tmp 18), (.tmp 22)], #[2, 2]⟩, none⟩,
            ⟨(some 3), .assign (.tmp 23), none⟩]))
        (.reg [⟨(some 16), .move (.tmp 4), none⟩,
           ⟨(some 17), .binOp .add 3 (.tmp 16) (.const (.int .i64 1)) 3, none⟩,
           ⟨(some 4), .assign (.tmp 17), none⟩]))))))
   (.seq (.reg [⟨(some 24), .move (.tmp 3), none⟩,
       ⟨(some 2), .assign (.tmp 24), none⟩])
    .ret)))))
theorem s114 : slimF Try.f114 = some (c114, [.t 2], 25) := by kernel_rfl
theorem o114 : okF [] Try.f114 = true := by kernel_rfl
noncomputable def g114 : Fsem := sem1 (En.int .i64).list (fun l => l ≠ []) (fun n l => .int .i64 (hdmaxL l))
@[go_sem] theorem g114_eq {n τ : Nat} {l : List Int} : g114 n [.sl τ 1 (l.map (AV.int .i64))] = ⟨l ≠ [], .int .i64 (hdmaxL l)⟩ := sem1_eq  (E := (En.int .i64).list)
theorem p114 : Pure Try.prog 114 g114 := by
  refine sem1_pure fun τ l n h2 hpre => ?_
  have hT : Table Try.prog [] := .nil
  have hn0 : n ≠ 0 := by omega
  refine SatP.of_body hT hm Try.func114 s114 o114 h2 (by simp) ?_
  cases l with
  | nil => exact absurd rfl hpre
  | cons y l =>
    simp only [hdmaxL]
    generalize hr : maxL l y = r
    have hne : ¬ (l.length : Int) + 1 < 1 := by omega
    simp (config := {contextual := true, maxSteps := 2000000, implicitDefEqProofs := false}) [c114, go_sem, hne]
    intro hL
    refine VW_listK hT h2 hm l [0] (fun pre post (b : Int) => [(4, .int .i64 ((pre.length : Int) + 1)), (3, .int .i64 b)]) (fun pre post (b : Int) => maxL post b = r) y ?_ ?_ ?_ ?_
    · exact hr
    · simp [SubI, go_sem]
    · rintro b hR
      simp (config := {contextual := true, maxSteps := 2000000, implicitDefEqProofs := false}) [go_sem]
      intro _
      simpa [maxL] using hR
    · rintro pre x post b hl hlen hR
      have hn : nth (AV.int .i64 y :: List.map (AV.int .i64) l) (pre.length + 1) = .int .i64 x := by rw [← hl]; simp [nth]
      have hw : l.length + 1 ≤ maxLen → IntKind.i64.wrap ((pre.length : Int) + 1 + 1) = (pre.length : Int) + 1 + 1 := fun h => wrap_ok (by omega) (by simp only [maxLen] at h; omega)
      have h3 : (0 : Int) ≤ (pre.length : Int) + 1 := by omega
      have h3' : (0 : Int) ≤ (pre.length : Int) := by omega
      have h4 : (pre.length : Int) < (l.length : Int) := by omega
      have h5 : ¬ (l.length : Int) ≤ (pre.length : Int) := by omega
      have h6 : (pre.length : Int) + 1 < (l.length : Int) + 1 := by omega
      have hmx : (if x > b then x else b) = max b x := by split <;> omega
      simp only [maxL] at hR
      simp (config := {contextual := true, maxSteps := 2000000, implicitDefEqProofs := false}) [go_sem, hn, hw, hL, h3, h3', h4, h5, h6, SubI, hmx, hR]
/- slices.Min[[]int64,int64] -/
def c115 : SCode := (.seq (.reg [⟨(some 2), .assign (.const (.int .i64 0)), none⟩])
(.seq (.seq (.reg [⟨(some 5), .move (.tmp 0), none⟩,
     ⟨(some 6), .call ⟨(.builtin .len), #[(.tmp 5)], #[28]⟩, none⟩,
     ⟨(some 7), .binOp .lss 3 (.tmp 6) (.const (.int .i64 1)) 3, none⟩])
  (.cond (.tmp 7) (.reg [⟨(some 8), .makeInterface 9 (.const (.string ⟨#[115, 108, 105, 99, 101, 115, 46, 77, 105, 110, 58, 32, 101, 109, 112, 116, 121, 32, 108, 105, 115, 116]⟩)), none⟩,
      ⟨none, .panic (.tmp 8), none⟩])
   .skip))
 (.seq (.reg [⟨(some 9), .move (.tmp 0), none⟩,
     ⟨(some 10), .indexAddr 28 (.tmp 9) (.const (.int .i64 0)), none⟩,
     ⟨(some 11), .load 2 (.tmp 10), none⟩,
     ⟨(some 3), .assign (.tmp 11), none⟩])
  (.seq (.seq (.reg [⟨(some 4), .assign (.const (.int .i64 1)), none⟩])
    (.block 0 (.loop (.seq (.seq (.reg [⟨(some 12), .move (.tmp 4), none⟩,
           ⟨(some 13), .move (.tmp 0), none⟩,
           ⟨(some 14), .call ⟨(.builtin .len), #[(.tmp 13)], #[28]⟩, none⟩,
           ⟨(some 15), .binOp .lss 3 (.tmp 12) (.tmp 14) 3, none⟩])
        (.cond (.tmp 15) .skip
         (.exit 0)))
       (.seq (.block 1 (.reg [⟨(some 18), .move (.tmp 3), none⟩,
            ⟨(some 19), .move (.tmp 0), none⟩,
            ⟨(some 20), .move (.tmp 4), none⟩,
            ⟨(some 21), .indexAddr 28 (.tmp 19) (.tmp 20), none⟩,
            ⟨(some 22), .load 2 (.tmp 21), none⟩,
            ⟨(some 23), .call ⟨(.builtin .min), #[(.tmp 18), (.tmp 22)], #[2, 2]⟩, none⟩,
            ⟨(some 3), .assign (.tmp 23), none⟩]))
        (.reg [⟨(some 16), .move (.tmp 4), none⟩,
           ⟨(some 17), .binOp .add 3 (.tmp 16) (.const (.int .i64 1)) 3, none⟩,
           ⟨(some 4), .assign (.tmp 17), none⟩]))))))
   (.seq (.reg [⟨(some 24), .move (.tmp 3), none⟩,
       ⟨(some 2), .assign (.tmp 24), none⟩])
    .ret)))))
theorem s115 : slimF Try.f115 = some (c115, [.t 2], 25) := by kernel_rfl
theorem o115 : okF [] Try.f115 = true := by kernel_rfl
noncomputable def g115 : Fsem := sem1 (En.int .i64).list (fun l => l ≠ []) (fun n l => .int .i64 (hdminL l))
@[go_sem] theorem g115_eq {n τ : Nat} {l : List Int} : g115 n [.sl τ 1 (l.map (AV.int .i64))] = ⟨l ≠ [], .int .i64 (hdminL l)⟩ := sem1_eq  (E := (En.int .i64).list)
theorem p115 : Pure Try.prog 115 g115 := by
  refine sem1_pure fun τ l n h2 hpre => ?_
  have hT : Table Try.prog [] := .nil
  have hn0 : n ≠ 0 := by omega
  refine SatP.of_body hT hm Try.func115 s115 o115 h2 (by simp) ?_
  cases l with
  | nil => exact absurd rfl hpre
  | cons y l =>
    simp only [hdminL]
    generalize hr : minL l y = r
    have hne : ¬ (l.length : Int) + 1 < 1 := by omega
    simp (config := {contextual := true, maxSteps := 2000000, implicitDefEqProofs := false}) [c115, go_sem, hne]
    intro hL
    refine VW_listK hT h2 hm l [0] (fun pre post (b : Int) => [(4, .int .i64 ((pre.length : Int) + 1)), (3, .int .i64 b)]) (fun pre post (b : Int) => minL post b = r) y ?_ ?_ ?_ ?_
    · exact hr
    · simp [SubI, go_sem]
    · rintro b hR
      simp (config := {contextual := true, maxSteps := 2000000, implicitDefEqProofs := false}) [go_sem]
      intro _
      simpa [minL] using hR
    · rintro pre x post b hl hlen hR
      have hn : nth (AV.int .i64 y :: List.map (AV.int .i64) l) (pre.length + 1) = .int .i64 x := by rw [← hl]; simp [nth]
      have hw : l.length + 1 ≤ maxLen → IntKind.i64.wrap ((pre.length : Int) + 1 + 1) = (pre.length : Int) + 1 + 1 := fun h => wrap_ok (by omega) (by simp only [maxLen] at h; omega)
      have h3 : (0 : Int) ≤ (pre.length : Int) + 1 := by omega
      have h3' : (0 : Int) ≤ (pre.length : Int) := by omega
      have h4 : (pre.length : Int) < (l.length : Int) := by omega
      have h5 : ¬ (l.length : Int) ≤ (pre.length : Int) := by omega
      have h6 : (pre.length : Int) + 1 < (l.length : Int) + 1 := by omega
      have hmx : (if x < b then x else b) = min b x := by split <;> omega
      simp only [minL] at hR
      simp (config := {contextual := true, maxSteps := 2000000, implicitDefEqProofs := false}) [go_sem, hn, hw, hL, h3, h3', h4, h5, h6, SubI, hmx, hR]
end Go.Ve
