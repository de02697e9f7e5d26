/- The texts of this claim, part PD 9: the engine that runs the code on values, the data, the contracts. No condition. -/
import Derived.Test.YtidfijaobkaalaaGreatPD8
namespace Go.Ve
open Go.Proofs Go.RowKit
set_option linter.unusedVariables false
set_option linter.unusedSimpArgs false
set_option maxRecDepth 10000
set_option maxHeartbeats 4000000
def c20 : SCode := (.seq (.reg [⟨(some 4), .assign (.const (.int .i64 0)), none⟩])
(.seq (.seq (.reg [⟨(some 5), .assign (.const (.int .i64 0)), none⟩])
  (.block 0 (.loop (.seq (.seq (.reg [⟨(some 6), .move (.tmp 5), none⟩,
         ⟨(some 7), .move (.tmp 0), none⟩,
         ⟨(some 8), .call ⟨(.builtin .len), #[(.tmp 7)], #[28]⟩, none⟩,
         ⟨(some 9), .binOp .lss 3 (.tmp 6) (.tmp 8) 3, none⟩])
      (.cond (.tmp 9) .skip
       (.exit 0)))
     (.seq (.block 1 (.seq (.reg [⟨(some 12), .move (.tmp 0), none⟩,
           ⟨(some 13), .move (.tmp 5), none⟩,
           ⟨(some 14), .move (.tmp 1), none⟩,
           ⟨(some 15), .indexAddr 28 (.tmp 12) (.tmp 13), none⟩,
           ⟨none, .store 2 (.tmp 15) (.tmp 14), none⟩])
        (.reg [⟨(some 16), .move (.tmp 1), none⟩,
           ⟨(some 17), .binOp .add 3 (.tmp 16) (.const (.int .i64 1)) 3, none⟩,
           ⟨(some 1), .assign (.tmp 17), none⟩])))
      (.reg [⟨(some 10), .move (.tmp 5), none⟩,
         ⟨(some 11), .binOp .add 3 (.tmp 10) (.const (.int .i64 1)) 3, none⟩,
         ⟨(some 5), .assign (.tmp 11), none⟩]))))))
 (.seq (.reg [⟨(some 18), .move (.tmp 1), none⟩,
     ⟨(some 4), .assign (.tmp 18), none⟩])
  .ret)))
theorem s20 : slimF Tryz.f20 = some (c20, [.t 4], 19) := by kernel_rfl
theorem o20 : okF [] Tryz.f20 = true := by kernel_rfl
def gm20 : Msem := fun a => match a with
  | [.sl 1 1 xs, .int .i64 k] => ⟨(∀ x ∈ xs, x = .leaf) ∧ 0 ≤ k ∧ k + 1 * (xs.length : Int) ≤ 1152921504606846976, .int .i64 (k + 1 * (xs.length : Int))⟩
  | _ => .no
@[go_sem] theorem gm20_eq {xs : List AV} {k : Int} : gm20 [.sl 1 1 xs, .int .i64 k] = ⟨(∀ x ∈ xs, x = .leaf) ∧ 0 ≤ k ∧ k + 1 * (xs.length : Int) ≤ 1152921504606846976, .int .i64 (k + 1 * (xs.length : Int))⟩ := rfl
theorem mu20 {xs : List AV} (hx : (∀ x ∈ xs, x = .leaf)) : ∀ x ∈ xs, ∀ y ∈ x.cells, MuC y := fun x hx' y hy => by rw [hx x hx'] at hy; simp [AV.cells] at hy; subst hy; exact .leaf
theorem pm20 : ∀ args, (gm20 args).c → MSat Tryz.prog 20 args (gm20 args).v := by
  intro args hc
  by_cases h : ∃ xs k, args = [.sl 1 1 xs, .int .i64 k]
  · obtain ⟨xs, k, rfl⟩ := h
    obtain ⟨hx, hk0, hk1⟩ : (∀ x ∈ xs, x = .leaf) ∧ 0 ≤ k ∧ k + 1 * (xs.length : Int) ≤ 1152921504606846976 := hc
    have hmu := mu20 hx
    show MSat Tryz.prog 20 [.sl 1 1 xs, .int .i64 k] (.int .i64 (k + 1 * (xs.length : Int)))
    have hM : MTable Tryz.prog [] := .nil
    refine MSat.of_body hM Tryz.func20 s20 o20 (by simp) ?_
    simp (config := {contextual := true, maxSteps := 2000000, implicitDefEqProofs := false}) [c20, go_sem]
    refine MVW_for hM xs.length (fun i => ⟨[(0, .sl 1 1 xs), (1, .int .i64 (k + 1 * (i : Int))), (5, .int .i64 i)], []⟩) ?_ ?_
    · simp [SubI, go_sem]
    · intro i hi
      have h1 : (0 : Int) ≤ i := by omega
      by_cases hlt : i < xs.length
      · have h2 : (i : Int) < (xs.length : Int) := by omega
        have h3 : ¬ (xs.length : Int) ≤ (i : Int) := by omega
        generalize hK : k + 1 * (i : Int) = K
        have hn : nth xs i = .leaf := hx _ (nth_mem hlt)
        have hsum : k + 1 * ((i + 1 : Nat) : Int) = K + 1 := by rw [← hK]; omega
        have hK0 : 0 ≤ K := by omega
        have emu : (∀ x ∈ xs, ∀ y ∈ x.cells, MuC y) = True := eq_true hmu
        have hK1 : K + 1 ≤ 1152921504606846976 := by omega
        have hi2 : xs.length ≤ maxLen → IntKind.i64.wrap ((i : Int) + 1) = (i : Int) + 1 := fun h => wrap_ok (by omega) (by simp only [maxLen] at h; omega)
        have w1 : IntKind.i64.wrap (K + 1) = K + 1 := wrap_ok (by omega) (by omega)
        simp (config := {contextual := true, maxSteps := 2000000, implicitDefEqProofs := false}) [go_sem, hn, emu, h1, h2, h3, hi2, hsum, SubI, w1]
        intro _
        first | exact hlt | exact ⟨hlt, by omega⟩
      · obtain rfl : i = xs.length := by omega
        have h3 : ¬ (xs.length : Int) < (xs.length : Int) := by omega
        simp (config := {contextual := true, maxSteps := 2000000, implicitDefEqProofs := false}) [go_sem, h3]
  · exfalso
    unfold gm20 at hc
    split at hc
    · exact h ⟨_, _, rfl⟩
    · exact hc
def c58 : SCode := (.seq (.reg [⟨(some 4), .assign (.const (.int .i64 0)), none⟩])
(.seq (.seq (.reg [⟨(some 5), .assign (.const (.int .i64 0)), none⟩])
  (.block 0 (.loop (.seq (.seq (.reg [⟨(some 6), .move (.tmp 5), none⟩,
         ⟨(some 7), .move (.tmp 0), none⟩,
         ⟨(some 8), .call ⟨(.builtin .len), #[(.tmp 7)], #[36]⟩, none⟩,
         ⟨(some 9), .binOp .lss 3 (.tmp 6) (.tmp 8) 3, none⟩])
      (.cond (.tmp 9) .skip
       (.exit 0)))
     (.seq (.block 1 (.seq (.reg [⟨(some 12), .move (.tmp 0), none⟩,
           ⟨(some 13), .move (.tmp 5), none⟩,
           ⟨(some 14), .move (.tmp 1), none⟩,
           ⟨(some 15), .indexAddr 36 (.tmp 12) (.tmp 13), none⟩,
           ⟨(some 16), .fieldAddr 135 (.tmp 15) 0, none⟩,
           ⟨none, .store 2 (.tmp 16) (.tmp 14), none⟩])
        (.seq (.reg [⟨(some 17), .move (.tmp 1), none⟩,
            ⟨(some 18), .binOp .add 3 (.tmp 17) (.const (.int .i64 1)) 3, none⟩,
            ⟨(some 1), .assign (.tmp 18), none⟩])
         (.seq (.reg [⟨(some 19), .move (.tmp 0), none⟩,
             ⟨(some 20), .move (.tmp 5), none⟩,
             ⟨(some 21), .move (.tmp 1), none⟩,
             ⟨(some 22), .indexAddr 36 (.tmp 19) (.tmp 20), none⟩,
             ⟨(some 23), .fieldAddr 135 (.tmp 22) 1, none⟩,
             ⟨none, .store 2 (.tmp 23) (.tmp 21), none⟩])
          (.reg [⟨(some 24), .move (.tmp 1), none⟩,
             ⟨(some 25), .binOp .add 3 (.tmp 24) (.const (.int .i64 1)) 3, none⟩,
             ⟨(some 1), .assign (.tmp 25), none⟩])))))
      (.reg [⟨(some 10), .move (.tmp 5), none⟩,
         ⟨(some 11), .binOp .add 3 (.tmp 10) (.const (.int .i64 1)) 3, none⟩,
         ⟨(some 5), .assign (.tmp 11), none⟩]))))))
 (.seq (.reg [⟨(some 26), .move (.tmp 1), none⟩,
     ⟨(some 4), .assign (.tmp 26), none⟩])
  .ret)))
theorem s58 : slimF Tryz.f58 = some (c58, [.t 4], 27) := by kernel_rfl
theorem o58 : okF [] Tryz.f58 = true := by kernel_rfl
def gm58 : Msem := fun a => match a with
  | [.sl 1 2 xs, .int .i64 k] => ⟨(∀ x ∈ xs, x = .agg [.leaf, .leaf]) ∧ 0 ≤ k ∧ k + 2 * (xs.length : Int) ≤ 1152921504606846976, .int .i64 (k + 2 * (xs.length : Int))⟩
  | _ => .no
@[go_sem] theorem gm58_eq {xs : List AV} {k : Int} : gm58 [.sl 1 2 xs, .int .i64 k] = ⟨(∀ x ∈ xs, x = .agg [.leaf, .leaf]) ∧ 0 ≤ k ∧ k + 2 * (xs.length : Int) ≤ 1152921504606846976, .int .i64 (k + 2 * (xs.length : Int))⟩ := rfl
theorem mu58 {xs : List AV} (hx : (∀ x ∈ xs, x = .agg [.leaf, .leaf])) : ∀ x ∈ xs, ∀ y ∈ x.cells, MuC y := fun x hx' y hy => by rw [hx x hx'] at hy; simp only [AV.cells, List.mem_cons, List.not_mem_nil, or_false, or_self] at hy; subst hy; exact .leaf
theorem pm58 : ∀ args, (gm58 args).c → MSat Tryz.prog 58 args (gm58 args).v := by
  intro args hc
  by_cases h : ∃ xs k, args = [.sl 1 2 xs, .int .i64 k]
  · obtain ⟨xs, k, rfl⟩ := h
    obtain ⟨hx, hk0, hk1⟩ : (∀ x ∈ xs, x = .agg [.leaf, .leaf]) ∧ 0 ≤ k ∧ k + 2 * (xs.length : Int) ≤ 1152921504606846976 := hc
    have hmu := mu58 hx
    show MSat Tryz.prog 58 [.sl 1 2 xs, .int .i64 k] (.int .i64 (k + 2 * (xs.length : Int)))
    have hM : MTable Tryz.prog [] := .nil
    refine MSat.of_body hM Tryz.func58 s58 o58 (by simp) ?_
    simp (config := {contextual := true, maxSteps := 2000000, implicitDefEqProofs := false}) [c58, go_sem]
    refine MVW_for hM xs.length (fun i => ⟨[(0, .sl 1 2 xs), (1, .int .i64 (k + 2 * (i : Int))), (5, .int .i64 i)], []⟩) ?_ ?_
    · simp [SubI, go_sem]
    · intro i hi
      have h1 : (0 : Int) ≤ i := by omega
      by_cases hlt : i < xs.length
      · have h2 : (i : Int) < (xs.length : Int) := by omega
        have h3 : ¬ (xs.length : Int) ≤ (i : Int) := by omega
        generalize hK : k + 2 * (i : Int) = K
        have hn : nth xs i = .agg [.leaf, .leaf] := hx _ (nth_mem hlt)
        have hsum : k + 2 * ((i + 1 : Nat) : Int) = K + 1 + 1 := by rw [← hK]; omega
        have hK0 : 0 ≤ K := by omega
        have emu : (∀ x ∈ xs, ∀ y ∈ x.cells, MuC y) = True := eq_true hmu
        have hK1 : K + 1 + 1 ≤ 1152921504606846976 := by omega
        have hi2 : xs.length ≤ maxLen → IntKind.i64.wrap ((i : Int) + 1) = (i : Int) + 1 := fun h => wrap_ok (by omega) (by simp only [maxLen] at h; omega)
        have w1 : IntKind.i64.wrap (K + 1) = K + 1 := wrap_ok (by omega) (by omega)
        have w2 : IntKind.i64.wrap (K + 1 + 1) = K + 1 + 1 := wrap_ok (by omega) (by omega)
        simp (config := {contextual := true, maxSteps := 2000000, implicitDefEqProofs := false}) [go_sem, hn, emu, h1, h2, h3, hi2, hsum, SubI, w1, w2]
        intro _
        first | exact hlt | exact ⟨hlt, by omega⟩
      · obtain rfl : i = xs.length := by omega
        have h3 : ¬ (xs.length : Int) < (xs.length : Int) := by omega
        simp (config := {contextual := true, maxSteps := 2000000, implicitDefEqProofs := false}) [go_sem, h3]
  · exfalso
    unfold gm58 at hc
    split at hc
    · exact h ⟨_, _, rfl⟩
    · exact hc
def c59 : SCode := (.seq (.reg [⟨(some 4), .assign (.const (.int .i64 0)), none⟩])
(.seq (.seq (.reg [⟨(some 5), .assign (.const (.int .i64 0)), none⟩])
  (.block 0 (.loop (.seq (.seq (.reg [⟨(some 6), .move (.tmp 5), none⟩,
         ⟨(some 7), .move (.tmp 0), none⟩,
         ⟨(some 8), .call ⟨(.builtin .len), #[(.tmp 7)], #[37]⟩, none⟩,
         ⟨(some 9), .binOp .lss 3 (.tmp 6) (.tmp 8) 3, none⟩])
      (.cond (.tmp 9) .skip
       (.exit 0)))
     (.seq (.block 1 (.seq (.reg [⟨(some 12), .move (.tmp 0), none⟩,
           ⟨(some 13), .move (.tmp 5), none⟩,
           ⟨(some 14), .move (.tmp 1), none⟩,
           ⟨(some 15), .indexAddr 37 (.tmp 12) (.tmp 13), none⟩,
           ⟨(some 16), .fieldAddr 125 (.tmp 15) 0, none⟩,
           ⟨none, .store 2 (.tmp 16) (.tmp 14), none⟩])
        (.seq (.reg [⟨(some 17), .move (.tmp 1), none⟩,
            ⟨(some 18), .binOp .add 3 (.tmp 17) (.const (.int .i64 1)) 3, none⟩,
            ⟨(some 1), .assign (.tmp 18), none⟩])
         (.seq (.reg [⟨(some 19), .move (.tmp 0), none⟩,
             ⟨(some 20), .move (.tmp 5), none⟩,
             ⟨(some 21), .move (.tmp 1), none⟩,
             ⟨(some 22), .indexAddr 37 (.tmp 19) (.tmp 20), none⟩,
             ⟨(some 23), .fieldAddr 125 (.tmp 22) 1, none⟩,
             ⟨none, .store 2 (.tmp 23) (.tmp 21), none⟩])
          (.seq (.reg [⟨(some 24), .move (.tmp 1), none⟩,
              ⟨(some 25), .binOp .add 3 (.tmp 24) (.const (.int .i64 1)) 3, none⟩,
              ⟨(some 1), .assign (.tmp 25), none⟩])
           (.reg [⟨(some 26), .move (.tmp 0), none⟩,
              ⟨(some 27), .move (.tmp 5), none⟩,
              ⟨(some 28), .indexAddr 37 (.tmp 26) (.tmp 27), none⟩,
              ⟨(some 29), .fieldAddr 125 (.tmp 28) 2, none⟩,
              ⟨(some 30), .load 28 (.tmp 29), none⟩,
              ⟨(some 31), .move (.tmp 1), none⟩,
              ⟨(some 32), .call ⟨(.value (.func 20)), #[(.tmp 30), (.tmp 31)], #[28, 3]⟩, none⟩,
              ⟨(some 1), .assign (.tmp 32), none⟩]))))))
      (.reg [⟨(some 10), .move (.tmp 5), none⟩,
         ⟨(some 11), .binOp .add 3 (.tmp 10) (.const (.int .i64 1)) 3, none⟩,
         ⟨(some 5), .assign (.tmp 11), none⟩]))))))
 (.seq (.reg [⟨(some 33), .move (.tmp 1), none⟩,
     ⟨(some 4), .assign (.tmp 33), none⟩])
  .ret)))
theorem s59 : slimF Tryz.f59 = some (c59, [.t 4], 34) := by kernel_rfl
theorem o59 : okF [] Tryz.f59 = true := by kernel_rfl
def cm59 : AV → Int
  | .agg [_, _, .sl _ _ ys] => 2 + (ys.length : Int)
  | _ => 0
theorem cm59_nn (x : AV) : 0 ≤ cm59 x := by
  unfold cm59
  split <;> omega
def gm59 : Msem := fun a => match a with
  | [.sl 1 3 xs, .int .i64 k] => ⟨(∀ x ∈ xs, ∃ ys, x = .agg [.leaf, .leaf, .sl 1 1 ys] ∧ (∀ y ∈ ys, y = .leaf)) ∧ 0 ≤ k ∧ k + (xs.map cm59).sum ≤ 1152921504606846976, .int .i64 (k + (xs.map cm59).sum)⟩
  | _ => .no
@[go_sem] theorem gm59_eq {xs : List AV} {k : Int} : gm59 [.sl 1 3 xs, .int .i64 k] = ⟨(∀ x ∈ xs, ∃ ys, x = .agg [.leaf, .leaf, .sl 1 1 ys] ∧ (∀ y ∈ ys, y = .leaf)) ∧ 0 ≤ k ∧ k + (xs.map cm59).sum ≤ 1152921504606846976, .int .i64 (k + (xs.map cm59).sum)⟩ := rfl
theorem mu59 {xs : List AV} (hx : (∀ x ∈ xs, ∃ ys, x = .agg [.leaf, .leaf, .sl 1 1 ys] ∧ (∀ y ∈ ys, y = .leaf))) : ∀ x ∈ xs, ∀ y ∈ x.cells, MuC y := fun x hx' y hy => by
      obtain ⟨ys, rfl, hys⟩ := hx x hx'
      simp only [AV.cells, List.mem_cons, List.not_mem_nil, or_false] at hy
      have hsl : MuC (.sl 1 1 ys) := muC_sl.2 fun x hx'' y hy' => by rw [hys x hx''] at hy'; simp [AV.cells] at hy'; subst hy'; exact .leaf
      first
        | (rcases hy with rfl | rfl | rfl | rfl | rfl <;> first | exact .leaf | exact hsl)
        | (rcases hy with rfl | rfl | rfl | rfl <;> first | exact .leaf | exact hsl)
        | (rcases hy with rfl | rfl | rfl <;> first | exact .leaf | exact hsl)
        | (rcases hy with rfl | rfl <;> first | exact .leaf | exact hsl)
        | (subst hy; exact hsl)
theorem pm59 : ∀ args, (gm59 args).c → MSat Tryz.prog 59 args (gm59 args).v := by
  intro args hc
  by_cases h : ∃ xs k, args = [.sl 1 3 xs, .int .i64 k]
  · obtain ⟨xs, k, rfl⟩ := h
    obtain ⟨hx, hk0, hk1⟩ : (∀ x ∈ xs, ∃ ys, x = .agg [.leaf, .leaf, .sl 1 1 ys] ∧ (∀ y ∈ ys, y = .leaf)) ∧ 0 ≤ k ∧ k + (xs.map cm59).sum ≤ 1152921504606846976 := hc
    have hmu := mu59 hx
    show MSat Tryz.prog 59 [.sl 1 3 xs, .int .i64 k] (.int .i64 (k + (xs.map cm59).sum))
    have hM : MTable Tryz.prog [(20, gm20)] := (.cons pm20 .nil)
    refine MSat.of_body hM Tryz.func59 s59 o59 (by simp) ?_
    simp (config := {contextual := true, maxSteps := 2000000, implicitDefEqProofs := false}) [c59, go_sem]
    refine MVW_for hM xs.length (fun i => ⟨[(0, .sl 1 3 xs), (1, .int .i64 (k + ((xs.map cm59).take i).sum)), (5, .int .i64 i)], []⟩) ?_ ?_
    · simp [SubI, go_sem]
    · intro i hi
      have h1 : (0 : Int) ≤ i := by omega
      by_cases hlt : i < xs.length
      · have h2 : (i : Int) < (xs.length : Int) := by omega
        have h3 : ¬ (xs.length : Int) ≤ (i : Int) := by omega
        generalize hK : k + ((xs.map cm59).take i).sum = K
        obtain ⟨ys, hn, hy⟩ := hx _ (nth_mem hlt)
        have hcm : cm59 (nth xs i) = 2 + (ys.length : Int) := by rw [hn]; rfl
        have hts := take_sum (f := cm59) hlt
        have htl := (take_sum_le (f := cm59) cm59_nn (xs := xs) (i := i + 1)).2
        have htn := (take_sum_le (f := cm59) cm59_nn (xs := xs) (i := i)).1
        have hsum : k + ((xs.map cm59).take (i + 1)).sum = K + 1 + 1 + (ys.length : Int) := by rw [← hK, hts, hcm]; omega
        have hyl : K + 1 + 1 + (ys.length : Int) ≤ 1152921504606846976 := by omega
        have hyk : 0 ≤ K + 1 + 1 := by omega
        have ehy : (∀ y ∈ ys, y = .leaf) = True := eq_true hy
        have hmy : ∀ x ∈ ys, ∀ y ∈ x.cells, MuC y := fun x hx' y hy' => by rw [hy x hx'] at hy'; simp [AV.cells] at hy'; subst hy'; exact .leaf
        have emy : (∀ x ∈ ys, ∀ y ∈ x.cells, MuC y) = True := eq_true hmy
        have hK0 : 0 ≤ K := by omega
        have emu : (∀ x ∈ xs, ∀ y ∈ x.cells, MuC y) = True := eq_true hmu
        have hK1 : K + 1 + 1 ≤ 1152921504606846976 := by omega
        have hi2 : xs.length ≤ maxLen → IntKind.i64.wrap ((i : Int) + 1) = (i : Int) + 1 := fun h => wrap_ok (by omega) (by simp only [maxLen] at h; omega)
        have w1 : IntKind.i64.wrap (K + 1) = K + 1 := wrap_ok (by omega) (by omega)
        have w2 : IntKind.i64.wrap (K + 1 + 1) = K + 1 + 1 := wrap_ok (by omega) (by omega)
        simp (config := {contextual := true, maxSteps := 2000000, implicitDefEqProofs := false}) [go_sem, hn, emu, h1, h2, h3, hi2, hsum, SubI, w1, w2, hyl, hyk, emy, ehy]
        intro _
        first | exact hlt | exact ⟨hlt, by omega⟩
      · obtain rfl : i = xs.length := by omega
        have h3 : ¬ (xs.length : Int) < (xs.length : Int) := by omega
        have htk : (xs.map cm59).take xs.length = xs.map cm59 := List.take_of_length_le (by simp)
        simp (config := {contextual := true, maxSteps := 2000000, implicitDefEqProofs := false}) [go_sem, h3, htk]
  · exfalso
    unfold gm59 at hc
    split at hc
    · exact h ⟨_, _, rfl⟩
    · exact hc
def c21 : SCode := (.seq (.reg [⟨(some 4), .assign (.const (.int .i64 0)), none⟩])
(.seq (.seq (.reg [⟨(some 5), .assign (.const (.int .i64 0)), none⟩])
  (.block 0 (.loop (.seq (.seq (.reg [⟨(some 6), .move (.tmp 5), none⟩,
         ⟨(some 7), .move (.tmp 0), none⟩,
         ⟨(some 8), .call ⟨(.builtin .len), #[(.tmp 7)], #[46]⟩, none⟩,
         ⟨(some 9), .binOp .lss 3 (.tmp 6) (.tmp 8) 3, none⟩])
      (.cond (.tmp 9) .skip
       (.exit 0)))
     (.seq (.block 1 (.seq (.reg [⟨(some 12), .move (.tmp 0), none⟩,
           ⟨(some 13), .move (.tmp 5), none⟩,
           ⟨(some 14), .move (.tmp 1), none⟩,
           ⟨(some 15), .indexAddr 46 (.tmp 12) (.tmp 13), none⟩,
           ⟨(some 16), .fieldAddr 93 (.tmp 15) 0, none⟩,
           ⟨(some 17), .fieldAddr 44 (.tmp 16) 0, none⟩,
           ⟨none, .store 2 (.tmp 17) (.tmp 14), none⟩])
        (.seq (.reg [⟨(some 18), .move (.tmp 1), none⟩,
            ⟨(some 19), .binOp .add 3 (.tmp 18) (.const (.int .i64 1)) 3, none⟩,
            ⟨(some 1), .assign (.tmp 19), none⟩])
         (.seq (.reg [⟨(some 20), .move (.tmp 0), none⟩,
             ⟨(some 21), .move (.tmp 5), none⟩,
             ⟨(some 22), .move (.tmp 1), none⟩,
             ⟨(some 23), .indexAddr 46 (.tmp 20) (.tmp 21), none⟩,
             ⟨(some 24), .fieldAddr 93 (.tmp 23) 0, none⟩,
             ⟨(some 25), .fieldAddr 44 (.tmp 24) 1, none⟩,
             ⟨none, .store 2 (.tmp 25) (.tmp 22), none⟩])
          (.seq (.reg [⟨(some 26), .move (.tmp 1), none⟩,
              ⟨(some 27), .binOp .add 3 (.tmp 26) (.const (.int .i64 1)) 3, none⟩,
              ⟨(some 1), .assign (.tmp 27), none⟩])
           (.seq (.reg [⟨(some 28), .move (.tmp 0), none⟩,
               ⟨(some 29), .move (.tmp 5), none⟩,
               ⟨(some 30), .move (.tmp 1), none⟩,
               ⟨(some 31), .indexAddr 46 (.tmp 28) (.tmp 29), none⟩,
               ⟨(some 32), .fieldAddr 93 (.tmp 31) 1, none⟩,
               ⟨none, .store 2 (.tmp 32) (.tmp 30), none⟩])
            (.seq (.reg [⟨(some 33), .move (.tmp 1), none⟩,
                ⟨(some 34), .binOp .add 3 (.tmp 33) (.const (.int .i64 1)) 3, none⟩,
                ⟨(some 1), .assign (.tmp 34), none⟩])
             (.seq (.reg [⟨(some 35), .move (.tmp 0), none⟩,
                 ⟨(some 36), .move (.tmp 5), none⟩,
                 ⟨(some 37), .move (.tmp 1), none⟩,
                 ⟨(some 38), .indexAddr 46 (.tmp 35) (.tmp 36), none⟩,
                 ⟨(some 39), .fieldAddr 93 (.tmp 38) 2, none⟩,
                 ⟨none, .store 2 (.tmp 39) (.tmp 37), none⟩])
              (.reg [⟨(some 40), .move (.tmp 1), none⟩,
                 ⟨(some 41), .binOp .add 3 (.tmp 40) (.const (.int .i64 1)) 3, none⟩,
                 ⟨(some 1), .assign (.tmp 41), none⟩])))))))))
      (.reg [⟨(some 10), .move (.tmp 5), none⟩,
         ⟨(some 11), .binOp .add 3 (.tmp 10) (.const (.int .i64 1)) 3, none⟩,
         ⟨(some 5), .assign (.tmp 11), none⟩]))))))
 (.seq (.reg [⟨(some 42), .move (.tmp 1), none⟩,
     ⟨(some 4), .assign (.tmp 42), none⟩])
  .ret)))
theorem s21 : slimF Tryz.f21 = some (c21, [.t 4], 43) := by kernel_rfl
theorem o21 : okF [] Tryz.f21 = true := by kernel_rfl
def gm21 : Msem := fun a => match a with
  | [.sl 1 4 xs, .int .i64 k] => ⟨(∀ x ∈ xs, x = .agg [.leaf, .leaf, .leaf, .leaf]) ∧ 0 ≤ k ∧ k + 4 * (xs.length : Int) ≤ 1152921504606846976, .int .i64 (k + 4 * (xs.length : Int))⟩
  | _ => .no
@[go_sem] theorem gm21_eq {xs : List AV} {k : Int} : gm21 [.sl 1 4 xs, .int .i64 k] = ⟨(∀ x ∈ xs, x = .agg [.leaf, .leaf, .leaf, .leaf]) ∧ 0 ≤ k ∧ k + 4 * (xs.length : Int) ≤ 1152921504606846976, .int .i64 (k + 4 * (xs.length : Int))⟩ := rfl
theorem mu21 {xs : List AV} (hx : (∀ x ∈ xs, x = .agg [.leaf, .leaf, .leaf, .leaf])) : ∀ x ∈ xs, ∀ y ∈ x.cells, MuC y := fun x hx' y hy => by rw [hx x hx'] at hy; simp only [AV.cells, List.mem_cons, List.not_mem_nil, or_false, or_self] at hy; subst hy; exact .leaf
theorem pm21 : ∀ args, (gm21 args).c → MSat Tryz.prog 21 args (gm21 args).v := by
  intro args hc
  by_cases h : ∃ xs k, args = [.sl 1 4 xs, .int .i64 k]
  · obtain ⟨xs, k, rfl⟩ := h
    obtain ⟨hx, hk0, hk1⟩ : (∀ x ∈ xs, x = .agg [.leaf, .leaf, .leaf, .leaf]) ∧ 0 ≤ k ∧ k + 4 * (xs.length : Int) ≤ 1152921504606846976 := hc
    have hmu := mu21 hx
    show MSat Tryz.prog 21 [.sl 1 4 xs, .int .i64 k] (.int .i64 (k + 4 * (xs.length : Int)))
    have hM : MTable Tryz.prog [] := .nil
    refine MSat.of_body hM Tryz.func21 s21 o21 (by simp) ?_
    simp (config := {contextual := true, maxSteps := 2000000, implicitDefEqProofs := false}) [c21, go_sem]
    refine MVW_for hM xs.length (fun i => ⟨[(0, .sl 1 4 xs), (1, .int .i64 (k + 4 * (i : Int))), (5, .int .i64 i)], []⟩) ?_ ?_
    · simp [SubI, go_sem]
    · intro i hi
      have h1 : (0 : Int) ≤ i := by omega
      by_cases hlt : i < xs.length
      · have h2 : (i : Int) < (xs.length : Int) := by omega
        have h3 : ¬ (xs.length : Int) ≤ (i : Int) := by omega
        generalize hK : k + 4 * (i : Int) = K
        have hn : nth xs i = .agg [.leaf, .leaf, .leaf, .leaf] := hx _ (nth_mem hlt)
        have hsum : k + 4 * ((i + 1 : Nat) : Int) = K + 1 + 1 + 1 + 1 := by rw [← hK]; omega
        have hK0 : 0 ≤ K := by omega
        have emu : (∀ x ∈ xs, ∀ y ∈ x.cells, MuC y) = True := eq_true hmu
        have hK1 : K + 1 + 1 + 1 + 1 ≤ 1152921504606846976 := by omega
        have hi2 : xs.length ≤ maxLen → IntKind.i64.wrap ((i : Int) + 1) = (i : Int) + 1 := fun h => wrap_ok (by omega) (by simp only [maxLen] at h; omega)
        have w1 : IntKind.i64.wrap (K + 1) = K + 1 := wrap_ok (by omega) (by omega)
        have w2 : IntKind.i64.wrap (K + 1 + 1) = K + 1 + 1 := wrap_ok (by omega) (by omega)
        have w3 : IntKind.i64.wrap (K + 1 + 1 + 1) = K + 1 + 1 + 1 := wrap_ok (by omega) (by omega)
        have w4 : IntKind.i64.wrap (K + 1 + 1 + 1 + 1) = K + 1 + 1 + 1 + 1 := wrap_ok (by omega) (by omega)
        simp (config := {contextual := true, maxSteps := 2000000, implicitDefEqProofs := false}) [go_sem, hn, emu, h1, h2, h3, hi2, hsum, SubI, w1, w2, w3, w4]
        intro _
        first | exact hlt | exact ⟨hlt, by omega⟩
      · obtain rfl : i = xs.length := by omega
        have h3 : ¬ (xs.length : Int) < (xs.length : Int) := by omega
        simp (config := {contextual := true, maxSteps := 2000000, implicitDefEqProofs := false}) [go_sem, h3]
  · exfalso
    unfold gm21 at hc
    split at hc
    · exact h ⟨_, _, rfl⟩
    · exact hc
def c73 : SCode := (.seq (.reg [⟨(some 4), .assign (.const (.int .i64 0)), none⟩])
(.seq (.seq (.reg [⟨(some 5), .assign (.const (.int .i64 0)), none⟩])
  (.block 0 (.loop (.seq (.seq (.reg [⟨(some 6), .move (.tmp 5), none⟩,
         ⟨(some 7), .move (.tmp 0), none⟩,
         ⟨(some 8), .call ⟨(.builtin .len), #[(.tmp 7)], #[62]⟩, none⟩,
         ⟨(some 9), .binOp .lss 3 (.tmp 6) (.tmp 8) 3, none⟩])
      (.cond (.tmp 9) .skip
       (.exit 0)))
     (.seq (.block 1 (.seq (.reg [⟨(some 12), .move (.tmp 0), none⟩,
           ⟨(some 13), .move (.tmp 5), none⟩,
           ⟨(some 14), .move (.tmp 1), none⟩,
           ⟨(some 15), .indexAddr 62 (.tmp 12) (.tmp 13), none⟩,
           ⟨(some 16), .fieldAddr 41 (.tmp 15) 0, none⟩,
           ⟨none, .store 2 (.tmp 16) (.tmp 14), none⟩])
        (.seq (.reg [⟨(some 17), .move (.tmp 1), none⟩,
            ⟨(some 18), .binOp .add 3 (.tmp 17) (.const (.int .i64 1)) 3, none⟩,
            ⟨(some 1), .assign (.tmp 18), none⟩])
         (.seq (.reg [⟨(some 19), .move (.tmp 0), none⟩,
             ⟨(some 20), .move (.tmp 5), none⟩,
             ⟨(some 21), .move (.tmp 1), none⟩,
             ⟨(some 22), .indexAddr 62 (.tmp 19) (.tmp 20), none⟩,
             ⟨(some 23), .fieldAddr 41 (.tmp 22) 1, none⟩,
             ⟨none, .store 2 (.tmp 23) (.tmp 21), none⟩])
          (.seq (.reg [⟨(some 24), .move (.tmp 1), none⟩,
              ⟨(some 25), .binOp .add 3 (.tmp 24) (.const (.int .i64 1)) 3, none⟩,
              ⟨(some 1), .assign (.tmp 25), none⟩])
           (.seq (.reg [⟨(some 26), .move (.tmp 0), none⟩,
               ⟨(some 27), .move (.tmp 5), none⟩,
               ⟨(some 28), .move (.tmp 1), none⟩,
               ⟨(some 29), .indexAddr 62 (.tmp 26) (.tmp 27), none⟩,
               ⟨(some 30), .fieldAddr 41 (.tmp 29) 2, none⟩,
               ⟨none, .store 2 (.tmp 30) (.tmp 28), none⟩])
            (.seq (.reg [⟨(some 31), .move (.tmp 1), none⟩,
                ⟨(some 32), .binOp .add 3 (.tmp 31) (.const (.int .i64 1)) 3, none⟩,
                ⟨(some 1), .assign (.tmp 32), none⟩])
             (.seq (.reg [⟨(some 33), .move (.tmp 0), none⟩,
                 ⟨(some 34), .move (.tmp 5), none⟩,
                 ⟨(some 35), .move (.tmp 1), none⟩,
                 ⟨(some 36), .binOp .rem 3 (.tmp 35) (.const (.int .i64 3)) 3, none⟩,
                 ⟨(some 37), .binOp .eql 3 (.tmp 36) (.const (.int .i64 0)) 3, none⟩,
                 ⟨(some 38), .indexAddr 62 (.tmp 33) (.tmp 34), none⟩,
                 ⟨(some 39), .fieldAddr 41 (.tmp 38) 3, none⟩,
                 ⟨none, .store 4 (.tmp 39) (.tmp 37), none⟩])
              (.reg [⟨(some 40), .move (.tmp 1), none⟩,
                 ⟨(some 41), .binOp .add 3 (.tmp 40) (.const (.int .i64 1)) 3, none⟩,
                 ⟨(some 1), .assign (.tmp 41), none⟩])))))))))
      (.reg [⟨(some 10), .move (.tmp 5), none⟩,
         ⟨(some 11), .binOp .add 3 (.tmp 10) (.const (.int .i64 1)) 3, none⟩,
         ⟨(some 5), .assign (.tmp 11), none⟩]))))))
 (.seq (.reg [⟨(some 42), .move (.tmp 1), none⟩,
     ⟨(some 4), .assign (.tmp 42), none⟩])
  .ret)))
theorem s73 : slimF Tryz.f73 = some (c73, [.t 4], 43) := by kernel_rfl
theorem o73 : okF [] Tryz.f73 = true := by kernel_rfl
def gm73 : Msem := fun a => match a with
  | [.sl 1 4 xs, .int .i64 k] => ⟨(∀ x ∈ xs, x = .agg [.leaf, .leaf, .leaf, .leaf]) ∧ 0 ≤ k ∧ k + 4 * (xs.length : Int) ≤ 1152921504606846976, .int .i64 (k + 4 * (xs.length : Int))⟩
  | _ => .no
@[go_sem] theorem gm73_eq {xs : List AV} {k : Int} : gm73 [.sl 1 4 xs, .int .i64 k] = ⟨(∀ x ∈ xs, x = .agg [.leaf, .leaf, .leaf, .leaf]) ∧ 0 ≤ k ∧ k + 4 * (xs.length : Int) ≤ 1152921504606846976, .int .i64 (k + 4 * (xs.length : Int))⟩ := rfl
theorem mu73 {xs : List AV} (hx : (∀ x ∈ xs, x = .agg [.leaf, .leaf, .leaf, .leaf])) : ∀ x ∈ xs, ∀ y ∈ x.cells, MuC y := fun x hx' y hy => by rw [hx x hx'] at hy; simp only [AV.cells, List.mem_cons, List.not_mem_nil, or_false, or_self] at hy; subst hy; exact .leaf
theorem pm73 : ∀ args, (gm73 args).c → MSat Tryz.prog 73 args (gm73 args).v := by
  intro args hc
  by_cases h : ∃ xs k, args = [.sl 1 4 xs, .int .i64 k]
  · obtain ⟨xs, k, rfl⟩ := h
    obtain ⟨hx, hk0, hk1⟩ : (∀ x ∈ xs, x = .agg [.leaf, .leaf, .leaf, .leaf]) ∧ 0 ≤ k ∧ k + 4 * (xs.length : Int) ≤ 1152921504606846976 := hc
    have hmu := mu73 hx
    show MSat Tryz.prog 73 [.sl 1 4 xs, .int .i64 k] (.int .i64 (k + 4 * (xs.length : Int)))
    have hM : MTable Tryz.prog [] := .nil
    refine MSat.of_body hM Tryz.func73 s73 o73 (by simp) ?_
    simp (config := {contextual := true, maxSteps := 2000000, implicitDefEqProofs := false}) [c73, go_sem]
    refine MVW_for hM xs.length (fun i => ⟨[(0, .sl 1 4 xs), (1, .int .i64 (k + 4 * (i : Int))), (5, .int .i64 i)], []⟩) ?_ ?_
    · simp [SubI, go_sem]
    · intro i hi
      have h1 : (0 : Int) ≤ i := by omega
      by_cases hlt : i < xs.length
      · have h2 : (i : Int) < (xs.length : Int) := by omega
        have h3 : ¬ (xs.length : Int) ≤ (i : Int) := by omega
        generalize hK : k + 4 * (i : Int) = K
        have hn : nth xs i = .agg [.leaf, .leaf, .leaf, .leaf] := hx _ (nth_mem hlt)
        have hsum : k + 4 * ((i + 1 : Nat) : Int) = K + 1 + 1 + 1 + 1 := by rw [← hK]; omega
        have hK0 : 0 ≤ K := by omega
        have emu : (∀ x ∈ xs, ∀ y ∈ x.cells, MuC y) = True := eq_true hmu
        have hK1 : K + 1 + 1 + 1 + 1 ≤ 1152921504606846976 := by omega
        have hi2 : xs.length ≤ maxLen → IntKind.i64.wrap ((i : Int) + 1) = (i : Int) + 1 := fun h => wrap_ok (by omega) (by simp only [maxLen] at h; omega)
        have w1 : IntKind.i64.wrap (K + 1) = K + 1 := wrap_ok (by omega) (by omega)
        have w2 : IntKind.i64.wrap (K + 1 + 1) = K + 1 + 1 := wrap_ok (by omega) (by omega)
        have w3 : IntKind.i64.wrap (K + 1 + 1 + 1) = K + 1 + 1 + 1 := wrap_ok (by omega) (by omega)
        have w4 : IntKind.i64.wrap (K + 1 + 1 + 1 + 1) = K + 1 + 1 + 1 + 1 := wrap_ok (by omega) (by omega)
        simp (config := {contextual := true, maxSteps := 2000000, implicitDefEqProofs := false}) [go_sem, hn, emu, h1, h2, h3, hi2, hsum, SubI, w1, w2, w3, w4]
        intro _
        first | exact hlt | exact ⟨hlt, by omega⟩
      · obtain rfl : i = xs.length := by omega
        have h3 : ¬ (xs.length : Int) < (xs.length : Int) := by omega
        simp (config := {contextual := true, maxSteps := 2000000, implicitDefEqProofs := false}) [go_sem, h3]
  · exfalso
    unfold gm73 at hc
    split at hc
    · exact h ⟨_, _, rfl⟩
    · exact hc
def c74 : SCode := (.seq (.reg [⟨(some 4), .assign (.const (.int .i64 0)), none⟩])
(.seq (.seq (.reg [⟨(some 5), .assign (.const (.int .i64 0)), none⟩])
  (.block 0 (.loop (.seq (.seq (.reg [⟨(some 6), .move (.tmp 5), none⟩,
         ⟨(some 7), .move (.tmp 0), none⟩,
         ⟨(some 8), .call ⟨(.builtin .len), #[(.tmp 7)], #[63]⟩, none⟩,
         ⟨(some 9), .binOp .lss 3 (.tmp 6) (.tmp 8) 3, none⟩])
      (.cond (.tmp 9) .skip
       (.exit 0)))
     (.seq (.block 1 (.seq (.reg [⟨(some 12), .move (.tmp 0), none⟩,
           ⟨(some 13), .move (.tmp 5), none⟩,
           ⟨(some 14), .move (.tmp 1), none⟩,
           ⟨(some 15), .indexAddr 63 (.tmp 12) (.tmp 13), none⟩,
           ⟨(some 16), .fieldAddr 152 (.tmp 15) 0, none⟩,
           ⟨none, .store 2 (.tmp 16) (.tmp 14), none⟩])
        (.seq (.reg [⟨(some 17), .move (.tmp 1), none⟩,
            ⟨(some 18), .binOp .add 3 (.tmp 17) (.const (.int .i64 1)) 3, none⟩,
            ⟨(some 1), .assign (.tmp 18), none⟩])
         (.seq (.reg [⟨(some 19), .move (.tmp 0), none⟩,
             ⟨(some 20), .move (.tmp 5), none⟩,
             ⟨(some 21), .move (.tmp 1), none⟩,
             ⟨(some 22), .indexAddr 63 (.tmp 19) (.tmp 20), none⟩,
             ⟨(some 23), .fieldAddr 152 (.tmp 22) 1, none⟩,
             ⟨(some 24), .fieldAddr 150 (.tmp 23) 0, none⟩,
             ⟨none, .store 2 (.tmp 24) (.tmp 21), none⟩])
          (.seq (.reg [⟨(some 25), .move (.tmp 1), none⟩,
              ⟨(some 26), .binOp .add 3 (.tmp 25) (.const (.int .i64 1)) 3, none⟩,
              ⟨(some 1), .assign (.tmp 26), none⟩])
           (.seq (.reg [⟨(some 27), .move (.tmp 0), none⟩,
               ⟨(some 28), .move (.tmp 5), none⟩,
               ⟨(some 29), .move (.tmp 1), none⟩,
               ⟨(some 30), .indexAddr 63 (.tmp 27) (.tmp 28), none⟩,
               ⟨(some 31), .fieldAddr 152 (.tmp 30) 1, none⟩,
               ⟨(some 32), .fieldAddr 150 (.tmp 31) 1, none⟩,
               ⟨none, .store 2 (.tmp 32) (.tmp 29), none⟩])
            (.seq (.reg [⟨(some 33), .move (.tmp 1), none⟩,
                ⟨(some 34), .binOp .add 3 (.tmp 33) (.const (.int .i64 1)) 3, none⟩,
                ⟨(some 1), .assign (.tmp 34), none⟩])
             (.seq (.reg [⟨(some 35), .move (.tmp 0), none⟩,
                 ⟨(some 36), .move (.tmp 5), none⟩,
                 ⟨(some 37), .move (.tmp 1), none⟩,
                 ⟨(some 38), .indexAddr 63 (.tmp 35) (.tmp 36), none⟩,
                 ⟨(some 39), .fieldAddr 152 (.tmp 38) 2, none⟩,
                 ⟨none, .store 2 (.tmp 39) (.tmp 37), none⟩])
              (.seq (.reg [⟨(some 40), .move (.tmp 1), none⟩,
                  ⟨(some 41), .binOp .add 3 (.tmp 40) (.const (.int .i64 1)) 3, none⟩,
                  ⟨(some 1), .assign (.tmp 41), none⟩])
               (.seq (.reg [⟨(some 42), .move (.tmp 0), none⟩,
                   ⟨(some 43), .move (.tmp 5), none⟩,
                   ⟨(some 44), .move (.tmp 1), none⟩,
                   ⟨(some 45), .indexAddr 63 (.tmp 42) (.tmp 43), none⟩,
                   ⟨(some 46), .fieldAddr 152 (.tmp 45) 3, none⟩,
                   ⟨none, .store 2 (.tmp 46) (.tmp 44), none⟩])
                (.seq (.reg [⟨(some 47), .move (.tmp 1), none⟩,
                    ⟨(some 48), .binOp .add 3 (.tmp 47) (.const (.int .i64 1)) 3, none⟩,
                    ⟨(some 1), .assign (.tmp 48), none⟩])
                 (.seq (.reg [⟨(some 49), .move (.tmp 0), none⟩,
                     ⟨(some 50), .move (.tmp 5), none⟩,
                     ⟨(some 51), .move (.tmp 1), none⟩,
                     ⟨(some 52), .indexAddr 63 (.tmp 49) (.tmp 50), none⟩,
                     ⟨(some 53), .fieldAddr 152 (.tmp 52) 4, none⟩,
                     ⟨none, .store 2 (.tmp 53) (.tmp 51), none⟩])
                  (.reg [⟨(some 54), .move (.tmp 1), none⟩,
                     ⟨(some 55), .binOp .add 3 (.tmp 54) (.const (.int .i64 1)) 3, none⟩,
                     ⟨(some 1), .assign (.tmp 55), none⟩])))))))))))))
      (.reg [⟨(some 10), .move (.tmp 5), none⟩,
         ⟨(some 11), .binOp .add 3 (.tmp 10) (.const (.int .i64 1)) 3, none⟩,
         ⟨(some 5), .assign (.tmp 11), none⟩]))))))
 (.seq (.reg [⟨(some 56), .move (.tmp 1), none⟩,
     ⟨(some 4), .assign (.tmp 56), none⟩])
  .ret)))
theorem s74 : slimF Tryz.f74 = some (c74, [.t 4], 57) := by kernel_rfl
theorem o74 : okF [] Tryz.f74 = true := by kernel_rfl
def gm74 : Msem := fun a => match a with
  | [.sl 1 6 xs, .int .i64 k] => ⟨(∀ x ∈ xs, x = .agg [.leaf, .leaf, .leaf, .leaf, .leaf, .leaf]) ∧ 0 ≤ k ∧ k + 6 * (xs.length : Int) ≤ 1152921504606846976, .int .i64 (k + 6 * (xs.length : Int))⟩
  | _ => .no
@[go_sem] theorem gm74_eq {xs : List AV} {k : Int} : gm74 [.sl 1 6 xs, .int .i64 k] = ⟨(∀ x ∈ xs, x = .agg [.leaf, .leaf, .leaf, .leaf, .leaf, .leaf]) ∧ 0 ≤ k ∧ k + 6 * (xs.length : Int) ≤ 1152921504606846976, .int .i64 (k + 6 * (xs.length : Int))⟩ := rfl
theorem mu74 {xs : List AV} (hx : (∀ x ∈ xs, x = .agg [.leaf, .leaf, .leaf, .leaf, .leaf, .leaf])) : ∀ x ∈ xs, ∀ y ∈ x.cells, MuC y := fun x hx' y hy => by rw [hx x hx'] at hy; simp only [AV.cells, List.mem_cons, List.not_mem_nil, or_false, or_self] at hy; subst hy; exact .leaf
theorem pm74 : ∀ args, (gm74 args).c → MSat Tryz.prog 74 args (gm74 args).v := by
  intro args hc
  by_cases h : ∃ xs k, args = [.sl 1 6 xs, .int .i64 k]
  · obtain ⟨xs, k, rfl⟩ := h
    obtain ⟨hx, hk0, hk1⟩ : (∀ x ∈ xs, x = .agg [.leaf, .leaf, .leaf, .leaf, .leaf, .leaf]) ∧ 0 ≤ k ∧ k + 6 * (xs.length : Int) ≤ 1152921504606846976 := hc
    have hmu := mu74 hx
    show MSat Tryz.prog 74 [.sl 1 6 xs, .int .i64 k] (.int .i64 (k + 6 * (xs.length : Int)))
    have hM : MTable Tryz.prog [] := .nil
    refine MSat.of_body hM Tryz.func74 s74 o74 (by simp) ?_
    simp (config := {contextual := true, maxSteps := 2000000, implicitDefEqProofs := false}) [c74, go_sem]
    refine MVW_for hM xs.length (fun i => ⟨[(0, .sl 1 6 xs), (1, .int .i64 (k + 6 * (i : Int))), (5, .int .i64 i)], []⟩) ?_ ?_
    · simp [SubI, go_sem]
    · intro i hi
      have h1 : (0 : Int) ≤ i := by omega
      by_cases hlt : i < xs.length
      · have h2 : (i : Int) < (xs.length : Int) := by omega
        have h3 : ¬ (xs.length : Int) ≤ (i : Int) := by omega
        generalize hK : k + 6 * (i : Int) = K
        have hn : nth xs i = .agg [.leaf, .leaf, .leaf, .leaf, .leaf, .leaf] := hx _ (nth_mem hlt)
        have hsum : k + 6 * ((i + 1 : Nat) : Int) = K + 1 + 1 + 1 + 1 + 1 + 1 := by rw [← hK]; omega
        have hK0 : 0 ≤ K := by omega
        have emu : (∀ x ∈ xs, ∀ y ∈ x.cells, MuC y) = True := eq_true hmu
        have hK1 : K + 1 + 1 + 1 + 1 + 1 + 1 ≤ 1152921504606846976 := by omega
        have hi2 : xs.length ≤ maxLen → IntKind.i64.wrap ((i : Int) + 1) = (i : Int) + 1 := fun h => wrap_ok (by omega) (by simp only [maxLen] at h; omega)
        have w1 : IntKind.i64.wrap (K + 1) = K + 1 := wrap_ok (by omega) (by omega)
        have w2 : IntKind.i64.wrap (K + 1 + 1) = K + 1 + 1 := wrap_ok (by omega) (by omega)
        have w3 : IntKind.i64.wrap (K + 1 + 1 + 1) = K + 1 + 1 + 1 := wrap_ok (by omega) (by omega)
        have w4 : IntKind.i64.wrap (K + 1 + 1 + 1 + 1) = K + 1 + 1 + 1 + 1 := wrap_ok (by omega) (by omega)
        have w5 : IntKind.i64.wrap (K + 1 + 1 + 1 + 1 + 1) = K + 1 + 1 + 1 + 1 + 1 := wrap_ok (by omega) (by omega)
        have w6 : IntKind.i64.wrap (K + 1 + 1 + 1 + 1 + 1 + 1) = K + 1 + 1 + 1 + 1 + 1 + 1 := wrap_ok (by omega) (by omega)
        simp (config := {contextual := true, maxSteps := 2000000, implicitDefEqProofs := false}) [go_sem, hn, emu, h1, h2, h3, hi2, hsum, SubI, w1, w2, w3, w4, w5, w6]
        intro _
        first | exact hlt | exact ⟨hlt, by omega⟩
      · obtain rfl : i = xs.length := by omega
        have h3 : ¬ (xs.length : Int) < (xs.length : Int) := by omega
        simp (config := {contextual := true, maxSteps := 2000000, implicitDefEqProofs := false}) [go_sem, h3]
  · exfalso
    unfold gm74 at hc
    split at hc
    · exact h ⟨_, _, rfl⟩
    · exact hc
def c19 : SCode := (.seq (.reg [⟨(some 2), .box 39 (.tmp 0), none⟩,
   ⟨(some 4), .assign (.const (.int .i64 0)), none⟩])
(.seq (.reg [⟨(some 5), .fieldAddr 39 (.tmp 2) 0, none⟩,
    ⟨(some 6), .load 36 (.tmp 5), none⟩,
    ⟨(some 7), .move (.tmp 1), none⟩,
    ⟨(some 8), .call ⟨(.value (.func 58)), #[(.tmp 6), (.tmp 7)], #[36, 3]⟩, none⟩,
    ⟨(some 1), .assign (.tmp 8), none⟩])
 (.seq (.reg [⟨(some 9), .fieldAddr 39 (.tmp 2) 1, none⟩,
     ⟨(some 10), .load 37 (.tmp 9), none⟩,
     ⟨(some 11), .move (.tmp 1), none⟩,
     ⟨(some 12), .call ⟨(.value (.func 59)), #[(.tmp 10), (.tmp 11)], #[37, 3]⟩, none⟩,
     ⟨(some 1), .assign (.tmp 12), none⟩])
  (.seq (.reg [⟨(some 13), .move (.tmp 1), none⟩,
      ⟨(some 4), .assign (.tmp 13), none⟩])
   .ret))))
theorem s19 : slimF Tryz.f19 = some (c19, [.t 4], 14) := by kernel_rfl
theorem o19 : okF [] Tryz.f19 = true := by kernel_rfl
def gm19 : Msem := fun a => match a with
  | [.agg [.sl 1 2 a0, .sl 1 3 a1], .int .i64 k] => ⟨((∀ x ∈ a0, x = .agg [.leaf, .leaf]) ∧ (∀ x ∈ a1, ∃ ys, x = .agg [.leaf, .leaf, .sl 1 1 ys] ∧ (∀ y ∈ ys, y = .leaf))) ∧ 0 ≤ k ∧ k + 2 * (a0.length : Int) + (a1.map cm59).sum ≤ 1152921504606846976, .int .i64 (k + 2 * (a0.length : Int) + (a1.map cm59).sum)⟩
  | _ => .no
@[go_sem] theorem gm19_eq {a0 a1 : List AV} {k : Int} : gm19 [.agg [.sl 1 2 a0, .sl 1 3 a1], .int .i64 k] = ⟨((∀ x ∈ a0, x = .agg [.leaf, .leaf]) ∧ (∀ x ∈ a1, ∃ ys, x = .agg [.leaf, .leaf, .sl 1 1 ys] ∧ (∀ y ∈ ys, y = .leaf))) ∧ 0 ≤ k ∧ k + 2 * (a0.length : Int) + (a1.map cm59).sum ≤ 1152921504606846976, .int .i64 (k + 2 * (a0.length : Int) + (a1.map cm59).sum)⟩ := rfl
theorem pm19 : ∀ args, (gm19 args).c → MSat Tryz.prog 19 args (gm19 args).v := by
  intro args hc
  by_cases h : ∃ a0 a1 k, args = [.agg [.sl 1 2 a0, .sl 1 3 a1], .int .i64 k]
  · obtain ⟨a0, a1, k, rfl⟩ := h
    obtain ⟨⟨h0, h1⟩, hk0, hk1⟩ : ((∀ x ∈ a0, x = .agg [.leaf, .leaf]) ∧ (∀ x ∈ a1, ∃ ys, x = .agg [.leaf, .leaf, .sl 1 1 ys] ∧ (∀ y ∈ ys, y = .leaf))) ∧ 0 ≤ k ∧ k + 2 * (a0.length : Int) + (a1.map cm59).sum ≤ 1152921504606846976 := hc
    have e0 : (∀ x ∈ a0, x = .agg [.leaf, .leaf]) = True := eq_true h0
    have u0 := eq_true (mu58 h0)
    have n0 : 0 ≤ 2 * (a0.length : Int) := by omega
    have e1 : (∀ x ∈ a1, ∃ ys, x = .agg [.leaf, .leaf, .sl 1 1 ys] ∧ (∀ y ∈ ys, y = .leaf)) = True := eq_true h1
    have u1 := eq_true (mu59 h1)
    have n1 : 0 ≤ (a1.map cm59).sum := by have := (take_sum_le (f := cm59) cm59_nn (xs := a1) (i := a1.length)); omega
    have p0 : 0 ≤ k + 2 * (a0.length : Int) := by omega
    have q0 : k + 2 * (a0.length : Int) ≤ 1152921504606846976 := by omega
    have p1 : 0 ≤ k + 2 * (a0.length : Int) + (a1.map cm59).sum := by omega
    have q1 : k + 2 * (a0.length : Int) + (a1.map cm59).sum ≤ 1152921504606846976 := by omega
    show MSat Tryz.prog 19 [.agg [.sl 1 2 a0, .sl 1 3 a1], .int .i64 k] (.int .i64 (k + 2 * (a0.length : Int) + (a1.map cm59).sum))
    have hM : MTable Tryz.prog [(58, gm58), (59, gm59)] := (.cons pm58 (.cons pm59 .nil))
    refine MSat.of_body hM Tryz.func19 s19 o19 (by simp) ?_
    simp (config := {contextual := true, maxSteps := 4000000, implicitDefEqProofs := false}) [c19, go_sem, hk0, e0, u0, e1, u1, p0, q0, p1, q1, ← Int.add_assoc] <;> omega
  · exfalso
    unfold gm19 at hc
    split at hc
    · exact h ⟨_, _, _, rfl⟩
    · exact hc
def c28 : SCode := (.seq (.reg [⟨(some 2), .box 65 (.tmp 0), none⟩,
   ⟨(some 4), .assign (.const (.int .i64 0)), none⟩])
(.seq (.reg [⟨(some 5), .fieldAddr 65 (.tmp 2) 2, none⟩,
    ⟨(some 6), .load 39 (.tmp 5), none⟩,
    ⟨(some 7), .move (.tmp 1), none⟩,
    ⟨(some 8), .call ⟨(.value (.func 19)), #[(.tmp 6), (.tmp 7)], #[39, 3]⟩, none⟩,
    ⟨(some 1), .assign (.tmp 8), none⟩])
 (.seq (.reg [⟨(some 9), .fieldAddr 65 (.tmp 2) 3, none⟩,
     ⟨(some 10), .load 62 (.tmp 9), none⟩,
     ⟨(some 11), .move (.tmp 1), none⟩,
     ⟨(some 12), .call ⟨(.value (.func 73)), #[(.tmp 10), (.tmp 11)], #[62, 3]⟩, none⟩,
     ⟨(some 1), .assign (.tmp 12), none⟩])
  (.seq (.reg [⟨(some 13), .fieldAddr 65 (.tmp 2) 4, none⟩,
      ⟨(some 14), .load 63 (.tmp 13), none⟩,
      ⟨(some 15), .move (.tmp 1), none⟩,
      ⟨(some 16), .call ⟨(.value (.func 74)), #[(.tmp 14), (.tmp 15)], #[63, 3]⟩, none⟩,
      ⟨(some 1), .assign (.tmp 16), none⟩])
   (.seq (.reg [⟨(some 17), .fieldAddr 65 (.tmp 2) 5, none⟩,
       ⟨(some 18), .load 28 (.tmp 17), none⟩,
       ⟨(some 19), .move (.tmp 1), none⟩,
       ⟨(some 20), .call ⟨(.value (.func 20)), #[(.tmp 18), (.tmp 19)], #[28, 3]⟩, none⟩,
       ⟨(some 1), .assign (.tmp 20), none⟩])
    (.seq (.reg [⟨(some 21), .fieldAddr 65 (.tmp 2) 6, none⟩,
        ⟨(some 22), .load 28 (.tmp 21), none⟩,
        ⟨(some 23), .move (.tmp 1), none⟩,
        ⟨(some 24), .call ⟨(.value (.func 20)), #[(.tmp 22), (.tmp 23)], #[28, 3]⟩, none⟩,
        ⟨(some 1), .assign (.tmp 24), none⟩])
     (.seq (.reg [⟨(some 25), .move (.tmp 1), none⟩,
         ⟨(some 4), .assign (.tmp 25), none⟩])
      .ret)))))))
theorem s28 : slimF Tryz.f28 = some (c28, [.t 4], 26) := by kernel_rfl
theorem o28 : okF [] Tryz.f28 = true := by kernel_rfl
def gm28 : Msem := fun a => match a with
  | [.agg [.leaf, .leaf, .sl 1 2 a0, .sl 1 3 a1, .sl 1 4 a2, .sl 1 6 a3, .sl 1 1 a4, .sl 1 1 a5], .int .i64 k] => ⟨((∀ x ∈ a0, x = .agg [.leaf, .leaf]) ∧ (∀ x ∈ a1, ∃ ys, x = .agg [.leaf, .leaf, .sl 1 1 ys] ∧ (∀ y ∈ ys, y = .leaf)) ∧ (∀ x ∈ a2, x = .agg [.leaf, .leaf, .leaf, .leaf]) ∧ (∀ x ∈ a3, x = .agg [.leaf, .leaf, .leaf, .leaf, .leaf, .leaf]) ∧ (∀ x ∈ a4, x = .leaf) ∧ (∀ x ∈ a5, x = .leaf)) ∧ 0 ≤ k ∧ k + 2 * (a0.length : Int) + (a1.map cm59).sum + 4 * (a2.length : Int) + 6 * (a3.length : Int) + 1 * (a4.length : Int) + 1 * (a5.length : Int) ≤ 1152921504606846976, .int .i64 (k + 2 * (a0.length : Int) + (a1.map cm59).sum + 4 * (a2.length : Int) + 6 * (a3.length : Int) + 1 * (a4.length : Int) + 1 * (a5.length : Int))⟩
  | _ => .no
@[go_sem] theorem gm28_eq {a0 a1 a2 a3 a4 a5 : List AV} {k : Int} : gm28 [.agg [.leaf, .leaf, .sl 1 2 a0, .sl 1 3 a1, .sl 1 4 a2, .sl 1 6 a3, .sl 1 1 a4, .sl 1 1 a5], .int .i64 k] = ⟨((∀ x ∈ a0, x = .agg [.leaf, .leaf]) ∧ (∀ x ∈ a1, ∃ ys, x = .agg [.leaf, .leaf, .sl 1 1 ys] ∧ (∀ y ∈ ys, y = .leaf)) ∧ (∀ x ∈ a2, x = .agg [.leaf, .leaf, .leaf, .leaf]) ∧ (∀ x ∈ a3, x = .agg [.leaf, .leaf, .leaf, .leaf, .leaf, .leaf]) ∧ (∀ x ∈ a4, x = .leaf) ∧ (∀ x ∈ a5, x = .leaf)) ∧ 0 ≤ k ∧ k + 2 * (a0.length : Int) + (a1.map cm59).sum + 4 * (a2.length : Int) + 6 * (a3.length : Int) + 1 * (a4.length : Int) + 1 * (a5.length : Int) ≤ 1152921504606846976, .int .i64 (k + 2 * (a0.length : Int) + (a1.map cm59).sum + 4 * (a2.length : Int) + 6 * (a3.length : Int) + 1 * (a4.length : Int) + 1 * (a5.length : Int))⟩ := rfl
theorem pm28 : ∀ args, (gm28 args).c → MSat Tryz.prog 28 args (gm28 args).v := by
  intro args hc
  by_cases h : ∃ a0 a1 a2 a3 a4 a5 k, args = [.agg [.leaf, .leaf, .sl 1 2 a0, .sl 1 3 a1, .sl 1 4 a2, .sl 1 6 a3, .sl 1 1 a4, .sl 1 1 a5], .int .i64 k]
  · obtain ⟨a0, a1, a2, a3, a4, a5, k, rfl⟩ := h
    obtain ⟨⟨h0, h1, h2, h3, h4, h5⟩, hk0, hk1⟩ : ((∀ x ∈ a0, x = .agg [.leaf, .leaf]) ∧ (∀ x ∈ a1, ∃ ys, x = .agg [.leaf, .leaf, .sl 1 1 ys] ∧ (∀ y ∈ ys, y = .leaf)) ∧ (∀ x ∈ a2, x = .agg [.leaf, .leaf, .leaf, .leaf]) ∧ (∀ x ∈ a3, x = .agg [.leaf, .leaf, .leaf, .leaf, .leaf, .leaf]) ∧ (∀ x ∈ a4, x = .leaf) ∧ (∀ x ∈ a5, x = .leaf)) ∧ 0 ≤ k ∧ k + 2 * (a0.length : Int) + (a1.map cm59).sum + 4 * (a2.length : Int) + 6 * (a3.length : Int) + 1 * (a4.length : Int) + 1 * (a5.length : Int) ≤ 1152921504606846976 := hc
    have e0 : (∀ x ∈ a0, x = .agg [.leaf, .leaf]) = True := eq_true h0
    have u0 := eq_true (mu58 h0)
    have n0 : 0 ≤ 2 * (a0.length : Int) := by omega
    have e1 : (∀ x ∈ a1, ∃ ys, x = .agg [.leaf, .leaf, .sl 1 1 ys] ∧ (∀ y ∈ ys, y = .leaf)) = True := eq_true h1
    have u1 := eq_true (mu59 h1)
    have n1 : 0 ≤ (a1.map cm59).sum := by have := (take_sum_le (f := cm59) cm59_nn (xs := a1) (i := a1.length)); omega
    have e2 : (∀ x ∈ a2, x = .agg [.leaf, .leaf, .leaf, .leaf]) = True := eq_true h2
    have u2 := eq_true (mu73 h2)
    have n2 : 0 ≤ 4 * (a2.length : Int) := by omega
    have e3 : (∀ x ∈ a3, x = .agg [.leaf, .leaf, .leaf, .leaf, .leaf, .leaf]) = True := eq_true h3
    have u3 := eq_true (mu74 h3)
    have n3 : 0 ≤ 6 * (a3.length : Int) := by omega
    have e4 : (∀ x ∈ a4, x = .leaf) = True := eq_true h4
    have u4 := eq_true (mu20 h4)
    have n4 : 0 ≤ 1 * (a4.length : Int) := by omega
    have e5 : (∀ x ∈ a5, x = .leaf) = True := eq_true h5
    have u5 := eq_true (mu20 h5)
    have n5 : 0 ≤ 1 * (a5.length : Int) := by omega
    have p0 : 0 ≤ k + 2 * (a0.length : Int) := by omega
    have q0 : k + 2 * (a0.length : Int) ≤ 1152921504606846976 := by omega
    have p1 : 0 ≤ k + 2 * (a0.length : Int) + (a1.map cm59).sum := by omega
    have q1 : k + 2 * (a0.length : Int) + (a1.map cm59).sum ≤ 1152921504606846976 := by omega
    have p2 : 0 ≤ k + 2 * (a0.length : Int) + (a1.map cm59).sum + 4 * (a2.length : Int) := by omega
    have q2 : k + 2 * (a0.length : Int) + (a1.map cm59).sum + 4 * (a2.length : Int) ≤ 1152921504606846976 := by omega
    have p3 : 0 ≤ k + 2 * (a0.length : Int) + (a1.map cm59).sum + 4 * (a2.length : Int) + 6 * (a3.length : Int) := by omega
    have q3 : k + 2 * (a0.length : Int) + (a1.map cm59).sum + 4 * (a2.length : Int) + 6 * (a3.length : Int) ≤ 1152921504606846976 := by omega
    have p4 : 0 ≤ k + 2 * (a0.length : Int) + (a1.map cm59).sum + 4 * (a2.length : Int) + 6 * (a3.length : Int) + 1 * (a4.length : Int) := by omega
    have q4 : k + 2 * (a0.length : Int) + (a1.map cm59).sum + 4 * (a2.length : Int) + 6 * (a3.length : Int) + 1 * (a4.length : Int) ≤ 1152921504606846976 := by omega
    have p5 : 0 ≤ k + 2 * (a0.length : Int) + (a1.map cm59).sum + 4 * (a2.length : Int) + 6 * (a3.length : Int) + 1 * (a4.length : Int) + 1 * (a5.length : Int) := by omega
    have q5 : k + 2 * (a0.length : Int) + (a1.map cm59).sum + 4 * (a2.length : Int) + 6 * (a3.length : Int) + 1 * (a4.length : Int) + 1 * (a5.length : Int) ≤ 1152921504606846976 := by omega
    show MSat Tryz.prog 28 [.agg [.leaf, .leaf, .sl 1 2 a0, .sl 1 3 a1, .sl 1 4 a2, .sl 1 6 a3, .sl 1 1 a4, .sl 1 1 a5], .int .i64 k] (.int .i64 (k + 2 * (a0.length : Int) + (a1.map cm59).sum + 4 * (a2.length : Int) + 6 * (a3.length : Int) + 1 * (a4.length : Int) + 1 * (a5.length : Int)))
    have hM : MTable Tryz.prog [(19, gm19), (73, gm73), (74, gm74), (20, gm20)] := (.cons pm19 (.cons pm73 (.cons pm74 (.cons pm20 .nil))))
    refine MSat.of_body hM Tryz.func28 s28 o28 (by simp) ?_
    simp (config := {contextual := true, maxSteps := 4000000, implicitDefEqProofs := false}) [c28, go_sem, hk0, e0, u0, e1, u1, e2, u2, e3, u3, e4, u4, e5, u5, p0, q0, p1, q1, p2, q2, p3, q3, p4, q4, p5, q5, ← Int.add_assoc] <;> omega
  · exfalso
    unfold gm28 at hc
    split at hc
    · exact h ⟨_, _, _, _, _, _, _, rfl⟩
    · exact hc
end Go.Ve
namespace Go.Ve
open Go.Proofs Go.RowKit
set_option linter.unusedVariables false
set_option linter.unusedSimpArgs false
set_option maxRecDepth 10000
set_option maxHeartbeats 4000000
def mkI : Int → Nat → List Int
  | _, 0 => []
  | k, n + 1 => k :: mkI (k + 1) n
theorem mkI_len : ∀ {k : Int} {n : Nat}, (mkI k n).length = n
  | _, 0 => rfl
  | k, n + 1 => by simp only [mkI, List.length_cons, mkI_len (n := n)]
theorem mkI_one : ∀ {k : Int} {n : Nat}, mkI k (n + 1) = mkI k n ++ [k + (n : Int)]
  | k, 0 => by simp [mkI]
  | k, n + 1 => by
    rw [mkI, mkI_one (n := n)]
    simp only [mkI, List.cons_append, List.cons.injEq, true_and, List.append_cancel_left_eq, and_true]
    omega
def hldI : Int → List Int → Int
  | k, [] => k
  | k, x :: l => if x = k then hldI (k + 1) l else -1
theorem hldI_mkI : ∀ {k : Int} {n : Nat}, hldI k (mkI k n) = k + (n : Int)
  | k, 0 => by simp [mkI, hldI]
  | k, n + 1 => by
    simp only [mkI, hldI, if_true, hldI_mkI (n := n)]
    omega
theorem sat_20 {n : Nat} (h2 : 2 ≤ n) {k : Int} {ls : List Int} (hk0 : 0 ≤ k) (hk1 : k + (ls.length : Int) ≤ 1152921504606846976) : SatM Tryz.prog n 20 [.row 2 1 (ls.map (AV.int .i64))] [.osl 0 1 0 ls.length, .int .i64 k] [.row 2 1 ((mkI k ls.length).map (AV.int .i64))] (.int .i64 (k + (ls.length : Int))) := by
  have hT : Table Tryz.prog [] := .nil
  have hn0 : n ≠ 0 := by omega
  refine SatM.of_bodyV hT hm Tryz.func20 s20 o20 h2 (by simp) ?_
  simp (config := {contextual := true, maxSteps := 2000000, implicitDefEqProofs := false}) [c20, go_sem]
  refine VW_listKE [] [0] hT h2 hm ls [0] (fun pre post (u0 : Unit) => [.row 2 1 ((mkI k pre.length).map (AV.int .i64) ++ post.map (AV.int .i64))]) (fun pre post (u0 : Unit) => [(5, .int .i64 pre.length), (1, .int .i64 (k + (pre.length : Int)))]) (fun pre post (u0 : Unit) => True) () ?_ ?_ ?_ ?_
  · trivial
  · simp [SubE, SubR, go_sem, mkI]
  · intro _ _
    have hfin : (mkI k ls.length).length = ls.length := mkI_len
    simp (config := {contextual := true, maxSteps := 2000000, implicitDefEqProofs := false}) [go_sem]
    intro _
    refine ⟨_, [0], Sub.refl 1 _, ?_⟩
    simp [retM, resAV, rvV, rinOf, Root.rnp, AV.rnp, AV.rnp2, AV.rnp1, AV.rnp0, posOf, go_sem, Rz, nz_int, nz_osl, nz_tup]
  · rintro pre x post _ hl hlen _
    have hA : ((mkI k pre.length).map (AV.int .i64)).length = pre.length := by rw [List.length_map, mkI_len]
    have hone : (mkI k (pre.length + 1)).map (AV.int .i64) = (mkI k pre.length).map (AV.int .i64) ++ [.int .i64 (k + (pre.length : Int))] := by
      rw [mkI_one]; simp
    have hlen2 : (ls.length : Int) = (pre.length : Int) + ((post.length : Int) + 1) := by omega
    have hll : (mkI k pre.length).length = pre.length := mkI_len
    generalize (mkI k pre.length).map (AV.int .i64) = A at *
    have hnA : ∀ y : AV, nth (A ++ y :: List.map (AV.int .i64) post) pre.length = y := fun y => by rw [← hA]; simp [go_sem]
    have hsA : ∀ y z : AV, (A ++ y :: List.map (AV.int .i64) post).set pre.length z = A ++ z :: List.map (AV.int .i64) post := fun y z => by rw [← hA]; simp
    have hAl : ∀ y : AV, (A ++ y :: List.map (AV.int .i64) post).length = A.length + (post.length + 1) := fun y => by simp
    have w1 : IntKind.i64.wrap (k + (pre.length : Int) + 1) = k + (pre.length : Int) + 1 := wrap_ok (by omega) (by omega)
    have w3 : ls.length ≤ maxLen → IntKind.i64.wrap ((pre.length : Int) + 1) = (pre.length : Int) + 1 := fun h => wrap_ok (by omega) (by simp only [maxLen] at h; omega)
    have h3 : (0 : Int) ≤ pre.length := by omega
    have h4 : (pre.length : Int) < (ls.length : Int) := by omega
    have h5 : ¬ (ls.length : Int) ≤ (pre.length : Int) := by omega
    have h6 : pre.length < A.length + (post.length + 1) := by omega
    have h7 : (k + (((pre ++ [x]).length : Nat) : Int)) = k + (pre.length : Int) + 1 := by simp; omega
    simp (config := {contextual := true, maxSteps := 2000000, implicitDefEqProofs := false}) [go_sem, hnA, hsA, hAl, w1, w3, h3, h4, h5, h6, hone, SubE, SubR, setEl]
    intros
    omega
def c22 : SCode := (.seq (.reg [⟨(some 4), .assign (.const (.int .i64 0)), none⟩])
(.seq (.seq (.reg [⟨(some 5), .assign (.const (.int .i64 0)), none⟩])
  (.block 0 (.loop (.seq (.seq (.reg [⟨(some 6), .move (.tmp 5), none⟩,
         ⟨(some 7), .move (.tmp 0), none⟩,
         ⟨(some 8), .call ⟨(.builtin .len), #[(.tmp 7)], #[28]⟩, none⟩,
         ⟨(some 9), .binOp .lss 3 (.tmp 6) (.tmp 8) 3, none⟩])
      (.cond (.tmp 9) .skip
       (.exit 0)))
     (.seq (.block 1 (.seq (.seq (.reg [⟨(some 12), .move (.tmp 0), none⟩,
            ⟨(some 13), .move (.tmp 5), none⟩,
            ⟨(some 14), .indexAddr 28 (.tmp 12) (.tmp 13), none⟩,
            ⟨(some 15), .load 2 (.tmp 14), none⟩,
            ⟨(some 16), .move (.tmp 1), none⟩,
            ⟨(some 17), .binOp .neq 2 (.tmp 15) (.tmp 16) 2, none⟩])
         (.cond (.tmp 17) (.seq (.reg [⟨(some 4), .assign (.const (.int .i64 (-1))), none⟩])
           .ret)
          .skip))
        (.reg [⟨(some 18), .move (.tmp 1), none⟩,
           ⟨(some 19), .binOp .add 3 (.tmp 18) (.const (.int .i64 1)) 3, none⟩,
           ⟨(some 1), .assign (.tmp 19), none⟩])))
      (.reg [⟨(some 10), .move (.tmp 5), none⟩,
         ⟨(some 11), .binOp .add 3 (.tmp 10) (.const (.int .i64 1)) 3, none⟩,
         ⟨(some 5), .assign (.tmp 11), none⟩]))))))
 (.seq (.reg [⟨(some 20), .move (.tmp 1), none⟩,
     ⟨(some 4), .assign (.tmp 20), none⟩])
  .ret)))
theorem s22 : slimF Tryz.f22 = some (c22, [.t 4], 21) := by kernel_rfl
theorem o22 : okF [] Tryz.f22 = true := by kernel_rfl
noncomputable def g22 : Fsem := sem2 (En.int .i64).list (En.int .i64) (fun ls k => 0 ≤ k ∧ k + (ls.length : Int) ≤ 1152921504606846976) (fun n ls k => .int .i64 (hldI k ls))
@[go_sem] theorem g22_eq {n τ : Nat} {ls : List Int} {k : Int} : g22 n [.sl τ 1 (ls.map (AV.int .i64)), .int .i64 k] = ⟨0 ≤ k ∧ k + (ls.length : Int) ≤ 1152921504606846976, .int .i64 (hldI k ls)⟩ := sem2_eq (τ' := 0) (E := (En.int .i64).list) (F := (En.int .i64))
theorem p22 : Pure Tryz.prog 22 g22 := by
  refine sem2_pure fun τ τ' ls k n h2 hpre => ?_
  have hT : Table Tryz.prog [] := .nil
  have hn0 : n ≠ 0 := by omega
  refine SatP.of_body hT hm Tryz.func22 s22 o22 h2 (by simp) ?_
  obtain ⟨p1, p2⟩ := hpre
  generalize hr : hldI k ls = r
  simp (config := {contextual := true, maxSteps := 2000000, implicitDefEqProofs := false}) [c22, go_sem]
  refine VW_listK hT h2 hm ls [0] (fun pre post (b : Int) => [(5, .int .i64 pre.length), (1, .int .i64 b)]) (fun pre post (b : Int) => hldI b post = r ∧ b = k + (pre.length : Int)) k ?_ ?_ ?_ ?_
  · exact ⟨hr, by simp⟩
  · simp [SubI, go_sem]
  · rintro b ⟨hR, hb⟩
    simp (config := {contextual := true, maxSteps := 2000000, implicitDefEqProofs := false}) [go_sem]
    intro _
    simpa [hldI] using hR
  · rintro pre x post b hl hlen ⟨hR, hb⟩
    have hln : ls.length = pre.length + (post.length + 1) := by rw [← hl]; simp
    have hn : nth (List.map (AV.int .i64) ls) (pre.length) = (AV.int .i64) x := by rw [← hl]; simp [go_sem]
    have hw : ls.length ≤ maxLen → IntKind.i64.wrap ((pre.length : Int) + 1) = (pre.length : Int) + 1 := fun h => wrap_ok (by omega) (by simp only [maxLen] at h; omega)
    have h3 : (0 : Int) ≤ (pre.length : Int) := by omega
    have h4 : (pre.length : Int) < (ls.length : Int) := by omega
    have h5 : ¬ (ls.length : Int) ≤ (pre.length : Int) := by omega
    have w1 : IntKind.i64.wrap (b + 1) = b + 1 := wrap_ok (by omega) (by omega)
    simp only [hldI] at hR
    simp (config := {contextual := true, maxSteps := 2000000, implicitDefEqProofs := false}) [go_sem, hn, hw, h3, h4, h5, w1, SubI]
    intro _
    exact ⟨fun h => by rw [if_neg h] at hR; exact hR, fun h => ⟨by rw [if_pos h] at hR; exact hR, by omega⟩⟩
end Go.Ve
namespace Go.Ve
open Go.Proofs Go.RowKit
set_option linter.unusedVariables false
set_option linter.unusedSimpArgs false
set_option maxRecDepth 10000
set_option maxHeartbeats 4000000
def mTree (x : Tree) : AV := .agg [.sl 1 2 (x.devices.map fun _ => .agg [.leaf, .leaf]), .sl 1 3 (x.buckets.map fun b => .agg [.leaf, .leaf, .sl 1 1 (b.items.map fun _ => .leaf)])]
theorem lfTree {μ : Nat} {x : Tree} : LfV μ (.agg [.sl μ 2 (x.devices.map (enDev.av μ)), .sl μ 3 (x.buckets.map (enBkt.av μ))]) (mTree x) := by
  refine lfV_agg ⟨Lf.map fun a _ => ?_, Lf.map fun a _ => ?_, trivial⟩
  · simp only [go_sem]
    exact lfE_agg ⟨.int .., .int .., trivial⟩
  · simp only [go_sem]
    exact lfE_agg ⟨.int .., .int .., Lf.map fun b _ => lfE_one rfl rfl (.int ..), trivial⟩
theorem cmTree : ∀ {l : List Bkt}, 0 ≤ ((l.map fun b : Bkt => AV.agg [.leaf, .leaf, .sl 1 1 (b.items.map fun _ => .leaf)]).map cm59).sum ∧ ((l.map fun b : Bkt => AV.agg [.leaf, .leaf, .sl 1 1 (b.items.map fun _ => .leaf)]).map cm59).sum ≤ 2 * ((l.length + (l.map enBkt.tot).sum : Nat) : Int)
  | [] => by simp
  | b :: l => by
    have := cmTree (l := l)
    have hb : cm59 (.agg [.leaf, .leaf, .sl 1 1 (b.items.map fun _ => .leaf)]) = 2 + (b.items.length : Int) := by simp [cm59]
    have ht : enBkt.tot b = b.items.length := tot_Bkt
    simp only [List.map_cons, List.sum_cons, List.length_cons, hb, ht] at *
    omega
theorem bktsM {l : List Bkt} : ∀ x ∈ (l.map fun b : Bkt => AV.agg [.leaf, .leaf, .sl 1 1 (b.items.map fun _ => .leaf)]), ∃ ys, x = .agg [.leaf, .leaf, .sl 1 1 ys] ∧ ∀ y ∈ ys, y = .leaf := fun x hx => by
  obtain ⟨b, _, rfl⟩ := List.mem_map.1 hx
  refine ⟨_, rfl, fun y hy => ?_⟩
  obtain ⟨_, _, rfl⟩ := List.mem_map.1 hy
  rfl
theorem constM {α : Type} {l : List α} {c : AV} : ∀ x ∈ (l.map fun _ => c), x = c := fun x hx => by
  obtain ⟨_, _, rfl⟩ := List.mem_map.1 hx
  rfl
end Go.Ve
namespace Go.Ve
open Go.Proofs Go.RowKit
set_option linter.unusedVariables false
set_option linter.unusedSimpArgs false
set_option maxRecDepth 10000
set_option maxHeartbeats 4000000
def c100 : SCode := (.seq (.reg [⟨(some 2), .assign (.const (.slice none 0 0)), none⟩])
(.seq (.reg [⟨(some 3), .buildSlice 28 0 #[], none⟩,
    ⟨(some 4), .move (.tmp 0), none⟩,
    ⟨(some 5), .call ⟨(.builtin .append), #[(.tmp 3), (.tmp 4)], #[28, 28]⟩, none⟩,
    ⟨(some 2), .assign (.tmp 5), none⟩])
 .ret))
theorem s100 : slimF Tryz.f100 = some (c100, [.t 2], 6) := by kernel_rfl
theorem o100 : okF [] Tryz.f100 = true := by kernel_rfl
theorem sat_100 {n : Nat} (h2 : 2 ≤ n) {τ : Nat} {l : List Int} (hl : l.length ≤ 1048576) : SatM Tryz.prog n 100 [] [.sl τ 1 (l.map (AV.int .i64))] [.row 2 1 ((l).map (AV.int .i64))] (.osl 0 1 0 l.length) := by
  have hT : Table Tryz.prog [] := .nil
  have hn0 : n ≠ 0 := by omega
  refine SatM.of_bodyV hT hm Tryz.func100 s100 o100 h2 (by simp) ?_
  have hl1 : l.length ≤ maxLen := by simp only [maxLen]; omega
  simp (config := {contextual := true, maxSteps := 2000000, implicitDefEqProofs := false}) [c100, go_sem]
  refine ⟨by omega, _, [1], Sub.refl 0 _, ?_⟩
  simp [retM, resAV, rvV, rinOf, Root.rnp, AV.rnp, AV.rnp2, AV.rnp1, AV.rnp0, posOf, go_sem, Rz, nz_int, nz_osl, nz_tup]
end Go.Ve
namespace Go.Ve
open Go.Proofs Go.RowKit
set_option linter.unusedVariables false
set_option linter.unusedSimpArgs false
set_option maxRecDepth 10000
set_option maxHeartbeats 4000000
def low (w : Int) : Nat := (w % 4294967296).toNat
theorem low_lt (w : Int) : low w < 4294967296 := by unfold low; omega
def mixN (h w : Nat) : Nat :=
  let a := (h ^^^ w) * 16777619 % 4294967296
  let b := a ^^^ (a / 32768)
  let c := b * 1540483477 % 4294967296
  c ^^^ (c / 8192)
theorem xor_lt32 {a b : Nat} (h1 : a < 4294967296) (h2 : b < 4294967296) : a ^^^ b < 4294967296 := Nat.xor_lt_two_pow (n := 32) h1 h2
theorem mixN_lt {h w : Nat} : mixN h w < 4294967296 := by
  unfold mixN
  exact xor_lt32 (Nat.mod_lt _ (by decide)) (by have := Nat.mod_lt ((((h ^^^ w) * 16777619 % 4294967296) ^^^ ((h ^^^ w) * 16777619 % 4294967296 / 32768)) * 1540483477) (show 0 < 4294967296 by decide); omega)
def mixL : Nat → List Int → Nat
  | h, [] => h
  | h, w :: l => mixL (mixN h (low w)) l
def mixI (l : List Int) : Int := (mixL 2166136261 l : Nat)
theorem wrap_u32 (x : Int) : IntKind.u32.wrap x = (low x : Nat) := by
  unfold low
  rw [Int.toNat_of_nonneg (by omega)]
  rfl
theorem low_nat {a : Nat} (h : a < 4294967296) : low (a : Int) = a := by unfold low; omega
theorem low_mul (a c : Nat) : low ((a : Int) * (c : Int)) = a * c % 4294967296 := by
  unfold low
  rw [← Int.natCast_mul]
  omega
theorem bv32 (x : Int) : (BitVec.ofInt 32 x).toNat = low x := by
  rw [BitVec.toNat_ofInt]
  rfl
theorem xor_u32 {a b : Nat} (h1 : a < 4294967296) (h2 : b < 4294967296) : vbits .xor .u32 (a : Int) (b : Int) = ((a ^^^ b : Nat) : Int) := by
  show IntKind.u32.wrap ((BitVec.ofInt 32 (a : Int) ^^^ BitVec.ofInt 32 (b : Int)).toNat : Int) = _
  rw [BitVec.toNat_xor, bv32, bv32, low_nat h1, low_nat h2, wrap_u32, low_nat (xor_lt32 h1 h2)]
theorem bv64 {a : Nat} (h : a < 4294967296) : (BitVec.ofInt 64 (a : Int)).toNat = a := by
  rw [BitVec.toNat_ofInt]
  omega
theorem xor_i64 {a b : Nat} (h1 : a < 4294967296) (h2 : b < 4294967296) : vbits .xor .i64 (a : Int) (b : Int) = ((a ^^^ b : Nat) : Int) := by
  show IntKind.i64.wrap ((BitVec.ofInt 64 (a : Int) ^^^ BitVec.ofInt 64 (b : Int)).toNat : Int) = _
  rw [BitVec.toNat_xor, bv64 h1, bv64 h2]
  have := xor_lt32 h1 h2
  exact wrap_ok (by omega) (by omega)
theorem and_low (x : Int) : vbits .and .i64 x 4294967295 = (low x : Nat) := by
  show IntKind.i64.wrap ((BitVec.ofInt 64 x &&& BitVec.ofInt 64 4294967295).toNat : Int) = _
  have h1 : (BitVec.ofInt 64 4294967295).toNat = 2 ^ 32 - 1 := by decide
  rw [BitVec.toNat_and, h1, Nat.and_two_pow_sub_one_eq_mod, BitVec.toNat_ofInt]
  have h2 : ((x % ((2 ^ 64 : Nat) : Int)).toNat % 2 ^ 32 : Nat) = low x := by
    unfold low
    omega
  rw [h2]
  have := low_lt x
  exact wrap_ok (by omega) (by omega)
theorem fdiv_nat (a c : Nat) : ((a : Int).fdiv (c : Int)) = ((a / c : Nat) : Int) := by
  rw [Int.fdiv_eq_ediv_of_nonneg _ (by omega)]
  rfl
theorem mix_u32 {h : Nat} (hh : h < 4294967296) (x : Int) : vbits .xor .u32 (IntKind.u32.wrap (vbits .xor .u32 (IntKind.u32.wrap (vbits .xor .u32 (h : Int) (IntKind.u32.wrap x) * 16777619)) ((IntKind.u32.wrap (vbits .xor .u32 (h : Int) (IntKind.u32.wrap x) * 16777619)).fdiv 32768) * 1540483477)) ((IntKind.u32.wrap (vbits .xor .u32 (IntKind.u32.wrap (vbits .xor .u32 (h : Int) (IntKind.u32.wrap x) * 16777619)) ((IntKind.u32.wrap (vbits .xor .u32 (h : Int) (IntKind.u32.wrap x) * 16777619)).fdiv 32768) * 1540483477)).fdiv 8192) = (mixN h (low x) : Nat) := by
  have l1 := low_lt x
  have m1 : ∀ a : Nat, low ((a : Int) * 16777619) = a * 16777619 % 4294967296 := fun a => low_mul a 16777619
  have m2 : ∀ a : Nat, low ((a : Int) * 1540483477) = a * 1540483477 % 4294967296 := fun a => low_mul a 1540483477
  have d1 : ∀ a : Nat, (a : Int).fdiv 32768 = ((a / 32768 : Nat) : Int) := fun a => fdiv_nat a 32768
  have d2 : ∀ a : Nat, (a : Int).fdiv 8192 = ((a / 8192 : Nat) : Int) := fun a => fdiv_nat a 8192
  have e1 : IntKind.u32.wrap (((h ^^^ low x : Nat) : Int) * 16777619) = ((h ^^^ low x) * 16777619 % 4294967296 : Nat) := by rw [wrap_u32, m1]
  rw [wrap_u32 x, xor_u32 hh l1, e1]
  have a1 := Nat.mod_lt ((h ^^^ low x) * 16777619) (show 0 < 4294967296 by decide)
  unfold mixN
  generalize (h ^^^ low x) * 16777619 % 4294967296 = a at *
  simp only
  have e2 : IntKind.u32.wrap (((a ^^^ a / 32768 : Nat) : Int) * 1540483477) = ((a ^^^ a / 32768) * 1540483477 % 4294967296 : Nat) := by rw [wrap_u32, m2]
  rw [d1, xor_u32 a1 (by omega), e2]
  have c1 := Nat.mod_lt ((a ^^^ a / 32768) * 1540483477) (show 0 < 4294967296 by decide)
  generalize (a ^^^ a / 32768) * 1540483477 % 4294967296 = c at *
  rw [d2, xor_u32 c1 (by omega)]
theorem mix_i64 {h : Nat} (hh : h < 4294967296) (x : Int) : vbits .xor .i64 ((low (IntKind.i64.wrap (vbits .xor .i64 ((low (IntKind.i64.wrap (vbits .xor .i64 (h : Int) (low x : Nat) * 16777619)) : Nat) : Int) (((low (IntKind.i64.wrap (vbits .xor .i64 (h : Int) (low x : Nat) * 16777619)) : Nat) : Int).fdiv 32768) * 1540483477)) : Nat) : Int) (((low (IntKind.i64.wrap (vbits .xor .i64 ((low (IntKind.i64.wrap (vbits .xor .i64 (h : Int) (low x : Nat) * 16777619)) : Nat) : Int) (((low (IntKind.i64.wrap (vbits .xor .i64 (h : Int) (low x : Nat) * 16777619)) : Nat) : Int).fdiv 32768) * 1540483477)) : Nat) : Int).fdiv 8192) = (mixN h (low x) : Nat) := by
  have l1 := low_lt x
  have x1 := xor_lt32 hh l1
  have m1 : ∀ a : Nat, low ((a : Int) * 16777619) = a * 16777619 % 4294967296 := fun a => low_mul a 16777619
  have m2 : ∀ a : Nat, low ((a : Int) * 1540483477) = a * 1540483477 % 4294967296 := fun a => low_mul a 1540483477
  have d1 : ∀ a : Nat, (a : Int).fdiv 32768 = ((a / 32768 : Nat) : Int) := fun a => fdiv_nat a 32768
  have d2 : ∀ a : Nat, (a : Int).fdiv 8192 = ((a / 8192 : Nat) : Int) := fun a => fdiv_nat a 8192
  rw [xor_i64 hh l1]
  unfold mixN
  generalize h ^^^ low x = q at *
  rw [wrap_ok (show -9223372036854775808 ≤ (q : Int) * 16777619 by omega) (by omega), m1]
  have a1 := Nat.mod_lt (q * 16777619) (show 0 < 4294967296 by decide)
  generalize q * 16777619 % 4294967296 = a at *
  simp only
  have y1 := xor_lt32 a1 (show a / 32768 < 4294967296 by omega)
  rw [d1, xor_i64 a1 (by omega)]
  generalize a ^^^ a / 32768 = b at *
  rw [wrap_ok (show -9223372036854775808 ≤ (b : Int) * 1540483477 by omega) (by omega), m2]
  have c1 := Nat.mod_lt (b * 1540483477) (show 0 < 4294967296 by decide)
  generalize b * 1540483477 % 4294967296 = c at *
  rw [d2, xor_i64 c1 (by omega)]
def tick (id unit seed try_ : Int) : Int := mixI [seed, try_, id, unit]
def bestN (id seed try_ : Int) : Nat → Int
  | 0 => -1
  | k + 1 => max (bestN id seed try_ k) (tick id k seed try_)
def c186 : SCode := (.seq (.reg [⟨(some 2), .assign (.const (.int .i64 0)), none⟩])
(.seq (.reg [⟨(some 3), .assign (.const (.int .u32 2166136261)), none⟩])
 (.seq (.seq (.reg [⟨(some 6), .move (.tmp 0), none⟩,
      ⟨(some 7), .call ⟨(.builtin .len), #[(.tmp 6)], #[28]⟩, none⟩,
      ⟨(some 8), .move (.const (.int .i64 0)), none⟩])
   (.block 0 (.loop (.seq (.reg [⟨(some 9), .binOp .lss 3 (.tmp 8) (.tmp 7) 3, none⟩])
      (.seq (.cond (.tmp 9) .skip
        (.exit 0))
       (.seq (.block 1 (.seq (.reg [⟨(some 10), .indexAddr 28 (.tmp 6) (.tmp 8), none⟩,
             ⟨(some 11), .load 2 (.tmp 10), none⟩,
             ⟨(some 5), .assign (.tmp 11), none⟩])
          (.seq (.reg [⟨(some 12), .move (.tmp 3), none⟩,
              ⟨(some 13), .move (.tmp 5), none⟩,
              ⟨(some 14), .convert 2 219 (.tmp 13), none⟩,
              ⟨(some 15), .binOp .xor 219 (.tmp 12) (.tmp 14) 219, none⟩,
              ⟨(some 16), .binOp .mul 219 (.tmp 15) (.const (.int .u32 16777619)) 219, none⟩,
              ⟨(some 3), .assign (.tmp 16), none⟩])
           (.seq (.reg [⟨(some 17), .move (.tmp 3), none⟩,
               ⟨(some 18), .move (.tmp 3), none⟩,
               ⟨(some 19), .binOp .shr 219 (.tmp 18) (.const (.int .u64 15)) 208, none⟩,
               ⟨(some 20), .binOp .xor 219 (.tmp 17) (.tmp 19) 219, none⟩,
               ⟨(some 3), .assign (.tmp 20), none⟩])
            (.seq (.reg [⟨(some 21), .move (.tmp 3), none⟩,
                ⟨(some 22), .binOp .mul 219 (.tmp 21) (.const (.int .u32 1540483477)) 219, none⟩,
                ⟨(some 3), .assign (.tmp 22), none⟩])
             (.reg [⟨(some 23), .move (.tmp 3), none⟩,
                ⟨(some 24), .move (.tmp 3), none⟩,
                ⟨(some 25), .binOp .shr 219 (.tmp 24) (.const (.int .u64 13)) 208, none⟩,
                ⟨(some 26), .binOp .xor 219 (.tmp 23) (.tmp 25) 219, none⟩,
                ⟨(some 3), .assign (.tmp 26), none⟩]))))))
        (.reg [⟨(some 27), .binOp .add 3 (.tmp 8) (.const (.int .i64 1)) 3, none⟩,
           ⟨(some 8), .move (.tmp 27), none⟩])))))))
  (.seq (.reg [⟨(some 28), .move (.tmp 3), none⟩,
      ⟨(some 29), .convert 219 2 (.tmp 28), none⟩,
      ⟨(some 2), .assign (.tmp 29), none⟩])
   .ret))))
theorem s186 : slimF Tryz.f186 = some (c186, [.t 2], 30) := by kernel_rfl
theorem o186 : okF [] Tryz.f186 = true := by kernel_rfl
noncomputable def g186 : Fsem := sem1 (En.int .i64).list (fun ls => True) (fun n ls => .int .i64 (mixI ls))
@[go_sem] theorem g186_eq {n τ : Nat} {ls : List Int} : g186 n [.sl τ 1 (ls.map (AV.int .i64))] = ⟨True, .int .i64 (mixI ls)⟩ := sem1_eq  (E := (En.int .i64).list)
theorem p186 : Pure Tryz.prog 186 g186 := by
  refine sem1_pure fun τ ls n h2 hpre => ?_
  have hT : Table Tryz.prog [] := .nil
  have hn0 : n ≠ 0 := by omega
  refine SatP.of_body hT hm Tryz.func186 s186 o186 h2 (by simp) ?_
  simp only [mixI]
  generalize hr : mixL 2166136261 ls = r
  simp (config := {contextual := true, maxSteps := 2000000, implicitDefEqProofs := false}) [c186, go_sem]
  intro hL
  refine VW_listK hT h2 hm ls [6, 7] (fun pre post (b : Int) => [(8, .int .i64 pre.length), (3, .int .u32 b)]) (fun pre post (b : Int) => ∃ h : Nat, b = h ∧ h < 4294967296 ∧ mixL h post = r) 2166136261 ?_ ?_ ?_ ?_
  · exact ⟨2166136261, rfl, by decide, hr⟩
  · simp [SubI, go_sem]
  · rintro b ⟨h, rfl, hh, hR⟩
    have hw : IntKind.i64.wrap (h : Int) = h := wrap_ok (by omega) (by omega)
    simp only [mixL] at hR
    simp (config := {contextual := true, maxSteps := 2000000, implicitDefEqProofs := false}) [go_sem, ← hR, hw]
  · rintro pre x post b hl hlen ⟨h, rfl, hh, hR⟩
    have hln : ls.length = pre.length + (post.length + 1) := by rw [← hl]; simp
    have hn : nth (List.map (AV.int .i64) ls) (pre.length) = (AV.int .i64) x := by rw [← hl]; simp [go_sem]
    have hw : ls.length ≤ maxLen → IntKind.i64.wrap ((pre.length : Int) + 1) = (pre.length : Int) + 1 := fun h => wrap_ok (by omega) (by simp only [maxLen] at h; omega)
    have h3 : (0 : Int) ≤ (pre.length : Int) := by omega
    have h4 : (pre.length : Int) < (ls.length : Int) := by omega
    have h5 : ¬ (ls.length : Int) ≤ (pre.length : Int) := by omega
    simp only [mixL] at hR
    simp (config := {contextual := true, maxSteps := 2000000, implicitDefEqProofs := false}) [go_sem, hn, hw, hL, h3, h4, h5, SubI, mix_u32 hh]
    exact ⟨_, rfl, mixN_lt, hR⟩
def c221 : SCode := (.seq (.reg [⟨(some 2), .assign (.const (.int .i64 0)), none⟩])
(.seq (.reg [⟨(some 3), .move (.tmp 0), none⟩,
    ⟨(some 4), .binOp .and 2 (.tmp 3) (.const (.int .i64 4294967295)) 2, none⟩,
    ⟨(some 2), .assign (.tmp 4), none⟩])
 .ret))
theorem s221 : slimF Tryz.f221 = some (c221, [.t 2], 5) := by kernel_rfl
theorem o221 : okF [] Tryz.f221 = true := by kernel_rfl
noncomputable def g221 : Fsem := sem1 (En.int .i64) (fun w => True) (fun n w => .int .i64 (low w : Nat))
@[go_sem] theorem g221_eq {n : Nat} {w : Int} : g221 n [.int .i64 w] = ⟨True, .int .i64 (low w : Nat)⟩ := sem1_eq (τ := 0) (E := (En.int .i64))
theorem p221 : Pure Tryz.prog 221 g221 := by
  refine sem1_pure fun τ w n h2 hpre => ?_
  have hT : Table Tryz.prog [] := .nil
  have hn0 : n ≠ 0 := by omega
  refine SatP.of_body hT hm Tryz.func221 s221 o221 h2 (by simp) ?_
  simp (config := {contextual := true, maxSteps := 2000000, implicitDefEqProofs := false}) [c221, go_sem, and_low]
def c203 : SCode := (.seq (.reg [⟨(some 2), .assign (.const (.int .i64 0)), none⟩])
(.seq (.reg [⟨(some 3), .assign (.const (.int .i64 2166136261)), none⟩])
 (.seq (.seq (.reg [⟨(some 4), .assign (.const (.int .i64 0)), none⟩])
   (.block 0 (.loop (.seq (.seq (.reg [⟨(some 5), .move (.tmp 4), none⟩,
          ⟨(some 6), .move (.tmp 0), none⟩,
          ⟨(some 7), .call ⟨(.builtin .len), #[(.tmp 6)], #[28]⟩, none⟩,
          ⟨(some 8), .binOp .lss 3 (.tmp 5) (.tmp 7) 3, none⟩])
       (.cond (.tmp 8) .skip
        (.exit 0)))
      (.seq (.block 1 (.seq (.reg [⟨(some 11), .move (.tmp 3), none⟩,
            ⟨(some 12), .move (.tmp 0), none⟩,
            ⟨(some 13), .move (.tmp 4), none⟩,
            ⟨(some 14), .indexAddr 28 (.tmp 12) (.tmp 13), none⟩,
            ⟨(some 15), .load 2 (.tmp 14), none⟩,
            ⟨(some 16), .call ⟨(.value (.func 221)), #[(.tmp 15)], #[2]⟩, none⟩,
            ⟨(some 17), .binOp .xor 2 (.tmp 11) (.tmp 16) 2, none⟩,
            ⟨(some 18), .binOp .mul 2 (.tmp 17) (.const (.int .i64 16777619)) 2, none⟩,
            ⟨(some 19), .call ⟨(.value (.func 221)), #[(.tmp 18)], #[2]⟩, none⟩,
            ⟨(some 3), .assign (.tmp 19), none⟩])
         (.seq (.reg [⟨(some 20), .move (.tmp 3), none⟩,
             ⟨(some 21), .move (.tmp 3), none⟩,
             ⟨(some 22), .binOp .shr 2 (.tmp 21) (.const (.int .u64 15)) 208, none⟩,
             ⟨(some 23), .binOp .xor 2 (.tmp 20) (.tmp 22) 2, none⟩,
             ⟨(some 3), .assign (.tmp 23), none⟩])
          (.seq (.reg [⟨(some 24), .move (.tmp 3), none⟩,
              ⟨(some 25), .binOp .mul 2 (.tmp 24) (.const (.int .i64 1540483477)) 2, none⟩,
              ⟨(some 26), .call ⟨(.value (.func 221)), #[(.tmp 25)], #[2]⟩, none⟩,
              ⟨(some 3), .assign (.tmp 26), none⟩])
           (.reg [⟨(some 27), .move (.tmp 3), none⟩,
              ⟨(some 28), .move (.tmp 3), none⟩,
              ⟨(some 29), .binOp .shr 2 (.tmp 28) (.const (.int .u64 13)) 208, none⟩,
              ⟨(some 30), .binOp .xor 2 (.tmp 27) (.tmp 29) 2, none⟩,
              ⟨(some 3), .assign (.tmp 30), none⟩])))))
       (.reg [⟨(some 9), .move (.tmp 4), none⟩,
          ⟨(some 10), .binOp .add 3 (.tmp 9) (.const (.int .i64 1)) 3, none⟩,
          ⟨(some 4), .assign (.tmp 10), none⟩]))))))
  (.seq (.reg [⟨(some 31), .move (.tmp 3), none⟩,
      ⟨(some 2), .assign (.tmp 31), none⟩])
   .ret))))
theorem s203 : slimF Tryz.f203 = some (c203, [.t 2], 32) := by kernel_rfl
theorem o203 : okF [(221, g221)] Tryz.f203 = true := by kernel_rfl
noncomputable def g203 : Fsem := sem1 (En.int .i64).list (fun ls => True) (fun n ls => .int .i64 (mixI ls))
@[go_sem] theorem g203_eq {n τ : Nat} {ls : List Int} : g203 n [.sl τ 1 (ls.map (AV.int .i64))] = ⟨True, .int .i64 (mixI ls)⟩ := sem1_eq  (E := (En.int .i64).list)
theorem p203 : Pure Tryz.prog 203 g203 := by
  refine sem1_pure fun τ ls n h2 hpre => ?_
  have hT : Table Tryz.prog [(221, g221)] := (.cons p221 .nil)
  have hn0 : n ≠ 0 := by omega
  refine SatP.of_body hT hm Tryz.func203 s203 o203 h2 (by simp) ?_
  simp only [mixI]
  generalize hr : mixL 2166136261 ls = r
  simp (config := {contextual := true, maxSteps := 2000000, implicitDefEqProofs := false}) [c203, go_sem]
  refine VW_listK hT h2 hm ls [0] (fun pre post (b : Int) => [(4, .int .i64 pre.length), (3, .int .i64 b)]) (fun pre post (b : Int) => ∃ h : Nat, b = h ∧ h < 4294967296 ∧ mixL h post = r) 2166136261 ?_ ?_ ?_ ?_
  · exact ⟨2166136261, rfl, by decide, hr⟩
  · simp [SubI, go_sem]
  · rintro b ⟨h, rfl, hh, hR⟩
    simp only [mixL] at hR
    simp (config := {contextual := true, maxSteps := 2000000, implicitDefEqProofs := false}) [go_sem, hR]
  · rintro pre x post b hl hlen ⟨h, rfl, hh, hR⟩
    have hln : ls.length = pre.length + (post.length + 1) := by rw [← hl]; simp
    have hn : nth (List.map (AV.int .i64) ls) (pre.length) = (AV.int .i64) x := by rw [← hl]; simp [go_sem]
    have hw : ls.length ≤ maxLen → IntKind.i64.wrap ((pre.length : Int) + 1) = (pre.length : Int) + 1 := fun h => wrap_ok (by omega) (by simp only [maxLen] at h; omega)
    have h3 : (0 : Int) ≤ (pre.length : Int) := by omega
    have h4 : (pre.length : Int) < (ls.length : Int) := by omega
    have h5 : ¬ (ls.length : Int) ≤ (pre.length : Int) := by omega
    simp only [mixL] at hR
    simp (config := {contextual := true, maxSteps := 2000000, implicitDefEqProofs := false}) [go_sem, hn, hw, h3, h4, h5, SubI, mix_i64 hh]
    exact fun _ => ⟨_, rfl, mixN_lt, hR⟩
end Go.Ve
namespace Go.Ve
open Go.Proofs Go.RowKit
set_option linter.unusedVariables false
set_option linter.unusedSimpArgs false
set_option maxRecDepth 10000
set_option maxHeartbeats 4000000
structure Itm where
  id : Int
  weight : Int
  deriving Inhabited
def toItm (p : Int × Int) : Itm := ⟨p.1, p.2⟩
def ofItm (x : Itm) : Int × Int := (x.id, x.weight)
def enItm : En Itm := En.iso ((En.int .i64).prod (En.int .i64)) ofItm toItm (fun _ => rfl)
@[go_sem] theorem av_Itm {τ : Nat} {x : Itm} : enItm.av τ x = .agg [.int .i64 x.id, .int .i64 x.weight] := rfl
@[go_sem] theorem cs_Itm {τ : Nat} {x : Itm} : enItm.cs τ x = [.int .i64 x.id, .int .i64 x.weight] := rfl
@[go_sem] theorem w_Itm : enItm.w = 2 := rfl
def c240 : SCode := (.seq (.reg [⟨(some 4), .assign (.const (.int .i64 0)), none⟩])
(.seq (.seq (.reg [⟨(some 5), .move (.tmp 0), none⟩,
     ⟨(some 6), .move (.tmp 1), none⟩,
     ⟨(some 7), .binOp .gtr 2 (.tmp 5) (.tmp 6) 2, none⟩])
  (.cond (.tmp 7) (.seq (.reg [⟨(some 8), .move (.tmp 0), none⟩,
       ⟨(some 4), .assign (.tmp 8), none⟩])
    .ret)
   .skip))
 (.seq (.reg [⟨(some 9), .move (.tmp 1), none⟩,
     ⟨(some 4), .assign (.tmp 9), none⟩])
  .ret)))
theorem s240 : slimF Tryz.f240 = some (c240, [.t 4], 10) := by kernel_rfl
theorem o240 : okF [] Tryz.f240 = true := by kernel_rfl
noncomputable def g240 : Fsem := sem2 (En.int .i64) (En.int .i64) (fun a b => True) (fun n a b => .int .i64 (max a b))
@[go_sem] theorem g240_eq {n : Nat} {a : Int} {b : Int} : g240 n [.int .i64 a, .int .i64 b] = ⟨True, .int .i64 (max a b)⟩ := sem2_eq (τ := 0) (τ' := 0) (E := (En.int .i64)) (F := (En.int .i64))
theorem p240 : Pure Tryz.prog 240 g240 := by
  refine sem2_pure fun τ τ' a b n h2 hpre => ?_
  have hT : Table Tryz.prog [] := .nil
  have hn0 : n ≠ 0 := by omega
  refine SatP.of_body hT hm Tryz.func240 s240 o240 h2 (by simp) ?_
  simp (config := {contextual := true, maxSteps := 2000000, implicitDefEqProofs := false}) [c240, go_sem]
  omega
def c238 : SCode := (.seq (.reg [⟨(some 8), .assign (.const (.int .i64 0)), none⟩])
(.seq (.reg [⟨(some 9), .move (.tmp 2), none⟩,
    ⟨(some 10), .move (.tmp 3), none⟩,
    ⟨(some 11), .move (.tmp 0), none⟩,
    ⟨(some 12), .move (.tmp 1), none⟩,
    ⟨(some 13), .buildSlice 28 4 #[(0, (.tmp 9)), (1, (.tmp 10)), (2, (.tmp 11)), (3, (.tmp 12))], none⟩,
    ⟨(some 14), .call ⟨(.value (.func 186)), #[(.tmp 13)], #[28]⟩, none⟩,
    ⟨(some 8), .assign (.tmp 14), none⟩])
 .ret))
theorem s238 : slimF Tryz.f238 = some (c238, [.t 8], 15) := by kernel_rfl
theorem o238 : okF [(186, g186)] Tryz.f238 = true := by kernel_rfl
noncomputable def g238 : Fsem := sem4 (En.int .i64) (En.int .i64) (En.int .i64) (En.int .i64) (fun id unit seed try_ => True) (fun n id unit seed try_ => .int .i64 (tick id unit seed try_))
@[go_sem] theorem g238_eq {n : Nat} {id : Int} {unit : Int} {seed : Int} {try_ : Int} : g238 n [.int .i64 id, .int .i64 unit, .int .i64 seed, .int .i64 try_] = ⟨True, .int .i64 (tick id unit seed try_)⟩ := sem4_eq (τ := 0) (τ' := 0) (τ'' := 0) (τ3 := 0) (E := (En.int .i64)) (F := (En.int .i64)) (G := (En.int .i64)) (H := (En.int .i64))
theorem p238 : Pure Tryz.prog 238 g238 := by
  refine sem4_pure fun τ τ' τ'' τ3 id unit seed try_ n h2 hpre => ?_
  have hT : Table Tryz.prog [(186, g186)] := (.cons p186 .nil)
  have hn0 : n ≠ 0 := by omega
  refine SatP.of_body hT hm Tryz.func238 s238 o238 h2 (by simp) ?_
  have hg := g186_eq (n := n) (τ := 0) (ls := [seed, try_, id, unit])
  simp only [List.map_cons, List.map_nil] at hg
  simp (config := {contextual := true, maxSteps := 2000000, implicitDefEqProofs := false}) [c238, go_sem, hg, tick]
def c241 : SCode := (.seq (.reg [⟨(some 8), .assign (.const (.int .i64 0)), none⟩])
(.seq (.reg [⟨(some 9), .move (.tmp 2), none⟩,
    ⟨(some 10), .move (.tmp 3), none⟩,
    ⟨(some 11), .move (.tmp 0), none⟩,
    ⟨(some 12), .move (.tmp 1), none⟩,
    ⟨(some 13), .buildSlice 28 4 #[(0, (.tmp 9)), (1, (.tmp 10)), (2, (.tmp 11)), (3, (.tmp 12))], none⟩,
    ⟨(some 14), .call ⟨(.value (.func 203)), #[(.tmp 13)], #[28]⟩, none⟩,
    ⟨(some 8), .assign (.tmp 14), none⟩])
 .ret))
theorem s241 : slimF Tryz.f241 = some (c241, [.t 8], 15) := by kernel_rfl
theorem o241 : okF [(203, g203)] Tryz.f241 = true := by kernel_rfl
noncomputable def g241 : Fsem := sem4 (En.int .i64) (En.int .i64) (En.int .i64) (En.int .i64) (fun id unit seed try_ => True) (fun n id unit seed try_ => .int .i64 (tick id unit seed try_))
@[go_sem] theorem g241_eq {n : Nat} {id : Int} {unit : Int} {seed : Int} {try_ : Int} : g241 n [.int .i64 id, .int .i64 unit, .int .i64 seed, .int .i64 try_] = ⟨True, .int .i64 (tick id unit seed try_)⟩ := sem4_eq (τ := 0) (τ' := 0) (τ'' := 0) (τ3 := 0) (E := (En.int .i64)) (F := (En.int .i64)) (G := (En.int .i64)) (H := (En.int .i64))
theorem p241 : Pure Tryz.prog 241 g241 := by
  refine sem4_pure fun τ τ' τ'' τ3 id unit seed try_ n h2 hpre => ?_
  have hT : Table Tryz.prog [(203, g203)] := (.cons p203 .nil)
  have hn0 : n ≠ 0 := by omega
  refine SatP.of_body hT hm Tryz.func241 s241 o241 h2 (by simp) ?_
  have hg := g203_eq (n := n) (τ := 0) (ls := [seed, try_, id, unit])
  simp only [List.map_cons, List.map_nil] at hg
  simp (config := {contextual := true, maxSteps := 2000000, implicitDefEqProofs := false}) [c241, go_sem, hg, tick]
def c235 : SCode := (.seq (.reg [⟨(some 3), .box 244 (.tmp 0), none⟩,
   ⟨(some 6), .assign (.const (.int .i64 0)), none⟩])
(.seq (.reg [⟨(some 7), .assign (.const (.int .i64 (-1))), none⟩])
 (.seq (.seq (.reg [⟨(some 9), .fieldAddr 244 (.tmp 3) 1, none⟩,
      ⟨(some 10), .load 2 (.tmp 9), none⟩,
      ⟨(some 11), .move (.const (.int .i64 0)), none⟩])
   (.block 0 (.loop (.seq (.reg [⟨(some 12), .binOp .lss 2 (.tmp 11) (.tmp 10) 2, none⟩])
      (.seq (.cond (.tmp 12) .skip
        (.exit 0))
       (.seq (.block 1 (.seq (.reg [⟨(some 13), .move (.tmp 11), none⟩,
             ⟨(some 8), .assign (.tmp 13), none⟩])
          (.reg [⟨(some 14), .move (.tmp 7), none⟩,
             ⟨(some 15), .fieldAddr 244 (.tmp 3) 0, none⟩,
             ⟨(some 16), .load 2 (.tmp 15), none⟩,
             ⟨(some 17), .move (.tmp 8), none⟩,
             ⟨(some 18), .move (.tmp 1), none⟩,
             ⟨(some 19), .move (.tmp 2), none⟩,
             ⟨(some 20), .call ⟨(.value (.func 238)), #[(.tmp 16), (.tmp 17), (.tmp 18), (.tmp 19)], #[2, 2, 2, 2]⟩, none⟩,
             ⟨(some 21), .call ⟨(.builtin .max), #[(.tmp 14), (.tmp 20)], #[2, 2]⟩, none⟩,
             ⟨(some 7), .assign (.tmp 21), none⟩])))
        (.reg [⟨(some 22), .binOp .add 2 (.tmp 11) (.const (.int .i64 1)) 2, none⟩,
           ⟨(some 11), .move (.tmp 22), none⟩])))))))
  (.seq (.reg [⟨(some 23), .move (.tmp 7), none⟩,
      ⟨(some 6), .assign (.tmp 23), none⟩])
   .ret))))
theorem s235 : slimF Tryz.f235 = some (c235, [.t 6], 24) := by kernel_rfl
theorem o235 : okF [(238, g238)] Tryz.f235 = true := by kernel_rfl
noncomputable def g235 : Fsem := sem3 enItm (En.int .i64) (En.int .i64) (fun x seed try_ => x.weight ≤ 1000000) (fun n x seed try_ => .int .i64 (bestN x.id seed try_ x.weight.toNat))
@[go_sem] theorem g235_eq {n : Nat} {x : Itm} {seed : Int} {try_ : Int} : g235 n [.agg [.int .i64 x.id, .int .i64 x.weight], .int .i64 seed, .int .i64 try_] = ⟨x.weight ≤ 1000000, .int .i64 (bestN x.id seed try_ x.weight.toNat)⟩ := sem3_eq (τ := 0) (τ' := 0) (τ'' := 0) (E := enItm) (F := (En.int .i64)) (G := (En.int .i64))
theorem p235 : Pure Tryz.prog 235 g235 := by
  refine sem3_pure fun τ τ' τ'' x seed try_ n h2 hpre => ?_
  have hT : Table Tryz.prog [(238, g238)] := (.cons p238 .nil)
  have hn0 : n ≠ 0 := by omega
  refine SatP.of_body hT hm Tryz.func235 s235 o235 h2 (by simp) ?_
  have hx : x.weight ≤ 1000000 := hpre
  generalize hN : x.weight.toNat = N
  simp (config := {contextual := true, maxSteps := 2000000, implicitDefEqProofs := false}) [c235, go_sem]
  refine VW_listK hT h2 hm (List.replicate N ()) [1, 2, 3, 10] (fun pre post (u0 : Unit) => [(11, .int .i64 pre.length), (7, .int .i64 (bestN x.id seed try_ pre.length))]) (fun pre post (u0 : Unit) => True) () ?_ ?_ ?_ ?_
  · trivial
  · simp [SubI, go_sem, bestN]
  · intro _ _
    have h5 : ¬ (N : Int) < x.weight := by omega
    simp (config := {contextual := true, maxSteps := 2000000, implicitDefEqProofs := false}) [go_sem, h5]
  · rintro pre u post _ hl hlen _
    have hln : N = pre.length + (post.length + 1) := by have := congrArg List.length hl; simp at this; omega
    have hw : IntKind.i64.wrap ((pre.length : Int) + 1) = (pre.length : Int) + 1 := wrap_ok (by omega) (by omega)
    have h3 : (0 : Int) ≤ pre.length := by omega
    have h4 : (pre.length : Int) < x.weight := by omega
    simp (config := {contextual := true, maxSteps := 2000000, implicitDefEqProofs := false}) [go_sem, hw, h3, h4, SubI, bestN]
    split <;> omega
def c239 : SCode := (.seq (.reg [⟨(some 3), .box 244 (.tmp 0), none⟩,
   ⟨(some 6), .assign (.const (.int .i64 0)), none⟩])
(.seq (.reg [⟨(some 7), .assign (.const (.int .i64 (-1))), none⟩])
 (.seq (.seq (.reg [⟨(some 8), .assign (.const (.int .i64 0)), none⟩])
   (.block 0 (.loop (.seq (.seq (.reg [⟨(some 9), .move (.tmp 8), none⟩,
          ⟨(some 10), .fieldAddr 244 (.tmp 3) 1, none⟩,
          ⟨(some 11), .load 2 (.tmp 10), none⟩,
          ⟨(some 12), .binOp .lss 2 (.tmp 9) (.tmp 11) 2, none⟩])
       (.cond (.tmp 12) .skip
        (.exit 0)))
      (.seq (.block 1 (.reg [⟨(some 15), .move (.tmp 7), none⟩,
           ⟨(some 16), .fieldAddr 244 (.tmp 3) 0, none⟩,
           ⟨(some 17), .load 2 (.tmp 16), none⟩,
           ⟨(some 18), .move (.tmp 8), none⟩,
           ⟨(some 19), .move (.tmp 1), none⟩,
           ⟨(some 20), .move (.tmp 2), none⟩,
           ⟨(some 21), .call ⟨(.value (.func 241)), #[(.tmp 17), (.tmp 18), (.tmp 19), (.tmp 20)], #[2, 2, 2, 2]⟩, none⟩,
           ⟨(some 22), .call ⟨(.value (.func 240)), #[(.tmp 15), (.tmp 21)], #[2, 2]⟩, none⟩,
           ⟨(some 7), .assign (.tmp 22), none⟩]))
       (.reg [⟨(some 13), .move (.tmp 8), none⟩,
          ⟨(some 14), .binOp .add 2 (.tmp 13) (.const (.int .i64 1)) 2, none⟩,
          ⟨(some 8), .assign (.tmp 14), none⟩]))))))
  (.seq (.reg [⟨(some 23), .move (.tmp 7), none⟩,
      ⟨(some 6), .assign (.tmp 23), none⟩])
   .ret))))
theorem s239 : slimF Tryz.f239 = some (c239, [.t 6], 24) := by kernel_rfl
theorem o239 : okF [(241, g241), (240, g240)] Tryz.f239 = true := by kernel_rfl
noncomputable def g239 : Fsem := sem3 enItm (En.int .i64) (En.int .i64) (fun x seed try_ => x.weight ≤ 1000000) (fun n x seed try_ => .int .i64 (bestN x.id seed try_ x.weight.toNat))
@[go_sem] theorem g239_eq {n : Nat} {x : Itm} {seed : Int} {try_ : Int} : g239 n [.agg [.int .i64 x.id, .int .i64 x.weight], .int .i64 seed, .int .i64 try_] = ⟨x.weight ≤ 1000000, .int .i64 (bestN x.id seed try_ x.weight.toNat)⟩ := sem3_eq (τ := 0) (τ' := 0) (τ'' := 0) (E := enItm) (F := (En.int .i64)) (G := (En.int .i64))
theorem p239 : Pure Tryz.prog 239 g239 := by
  refine sem3_pure fun τ τ' τ'' x seed try_ n h2 hpre => ?_
  have hT : Table Tryz.prog [(241, g241), (240, g240)] := (.cons p241 (.cons p240 .nil))
  have hn0 : n ≠ 0 := by omega
  refine SatP.of_body hT hm Tryz.func239 s239 o239 h2 (by simp) ?_
  have hx : x.weight ≤ 1000000 := hpre
  generalize hN : x.weight.toNat = N
  simp (config := {contextual := true, maxSteps := 2000000, implicitDefEqProofs := false}) [c239, go_sem]
  refine VW_listK hT h2 hm (List.replicate N ()) [1, 2, 3] (fun pre post (u0 : Unit) => [(8, .int .i64 pre.length), (7, .int .i64 (bestN x.id seed try_ pre.length))]) (fun pre post (u0 : Unit) => True) () ?_ ?_ ?_ ?_
  · trivial
  · simp [SubI, go_sem, bestN]
  · intro _ _
    have h5 : ¬ (N : Int) < x.weight := by omega
    simp (config := {contextual := true, maxSteps := 2000000, implicitDefEqProofs := false}) [go_sem, h5]
  · rintro pre u post _ hl hlen _
    have hln : N = pre.length + (post.length + 1) := by have := congrArg List.length hl; simp at this; omega
    have hw : IntKind.i64.wrap ((pre.length : Int) + 1) = (pre.length : Int) + 1 := wrap_ok (by omega) (by omega)
    have h3 : (0 : Int) ≤ pre.length := by omega
    have h4 : (pre.length : Int) < x.weight := by omega
    simp (config := {contextual := true, maxSteps := 2000000, implicitDefEqProofs := false}) [go_sem, hw, h3, h4, SubI, bestN]
def chL (seed try_ : Int) : Int → Int → List Itm → Int × Int
  | m, i, [] => (m, i)
  | m, i, x :: l => if m < bestN x.id seed try_ x.weight.toNat then chL seed try_ (bestN x.id seed try_ x.weight.toNat) x.id l else chL seed try_ m i l
theorem chL_spec {seed try_ : Int} : ∀ {l : List Itm} {m i : Int}, chL seed try_ m i l = (m, i) ∨ (m < (chL seed try_ m i l).1 ∧ ∃ x ∈ l, (chL seed try_ m i l).2 = x.id)
  | [], m, i => .inl rfl
  | x :: l, m, i => by
    unfold chL
    split
    · rename_i h
      right
      rcases chL_spec (l := l) (m := bestN x.id seed try_ x.weight.toNat) (i := x.id) with h1 | ⟨h1, y, hy, h2⟩
      · rw [h1]; exact ⟨h, x, by simp, rfl⟩
      · exact ⟨by omega, y, by simp [hy], h2⟩
    · rcases chL_spec (l := l) (m := m) (i := i) with h1 | ⟨h1, y, hy, h2⟩
      · exact .inl h1
      · exact .inr ⟨h1, y, by simp [hy], h2⟩
def c230 : SCode := (.seq (.reg [⟨(some 6), .assign (.const (.int .i64 0)), none⟩,
   ⟨(some 7), .assign (.const (.bool false)), none⟩])
(.seq (.reg [⟨(some 8), .assign (.const (.int .i64 (-1))), none⟩,
    ⟨(some 9), .assign (.const (.int .i64 0)), none⟩])
 (.seq (.seq (.reg [⟨(some 13), .move (.tmp 0), none⟩,
      ⟨(some 14), .call ⟨(.builtin .len), #[(.tmp 13)], #[243]⟩, none⟩,
      ⟨(some 15), .move (.const (.int .i64 0)), none⟩])
   (.block 0 (.loop (.seq (.reg [⟨(some 16), .binOp .lss 3 (.tmp 15) (.tmp 14) 3, none⟩])
      (.seq (.cond (.tmp 16) .skip
        (.exit 0))
       (.seq (.block 1 (.seq (.reg [⟨(some 17), .indexAddr 243 (.tmp 13) (.tmp 15), none⟩,
             ⟨(some 18), .load 244 (.tmp 17), none⟩,
             ⟨(some 11), .alloc 244, none⟩,
             ⟨none, .store 244 (.tmp 11) (.tmp 18), none⟩])
          (.seq (.reg [⟨(some 19), .load 244 (.tmp 11), none⟩,
              ⟨(some 20), .move (.tmp 1), none⟩,
              ⟨(some 21), .move (.tmp 2), none⟩,
              ⟨(some 22), .call ⟨(.value (.func 235)), #[(.tmp 19), (.tmp 20), (.tmp 21)], #[244, 2, 2]⟩, none⟩,
              ⟨(some 12), .assign (.tmp 22), none⟩])
           (.seq (.reg [⟨(some 23), .move (.tmp 12), none⟩,
               ⟨(some 24), .move (.tmp 8), none⟩,
               ⟨(some 25), .binOp .gtr 2 (.tmp 23) (.tmp 24) 2, none⟩])
            (.cond (.tmp 25) (.draw [⟨(some 26), .move (.tmp 12), none⟩,
                ⟨(some 27), .fieldAddr 244 (.tmp 11) 0, none⟩,
                ⟨(some 28), .load 2 (.tmp 27), none⟩,
                ⟨(some 8), .assign (.tmp 26), none⟩,
                ⟨(some 9), .assign (.tmp 28), none⟩] [[], [], [1], [0], [0, 1, 2, 3]])
             .skip)))))
        (.reg [⟨(some 29), .binOp .add 3 (.tmp 15) (.const (.int .i64 1)) 3, none⟩,
           ⟨(some 15), .move (.tmp 29), none⟩])))))))
  (.seq (.reg [⟨(some 30), .move (.tmp 9), none⟩,
      ⟨(some 31), .move (.tmp 8), none⟩,
      ⟨(some 32), .binOp .geq 2 (.tmp 31) (.const (.int .i64 0)) 2, none⟩,
      ⟨(some 6), .assign (.tmp 30), none⟩,
      ⟨(some 7), .assign (.tmp 32), none⟩])
   .ret))))
theorem s230 : slimF Tryz.f230 = some (c230, [.t 6, .t 7], 33) := by kernel_rfl
theorem o230 : okF [(235, g235)] Tryz.f230 = true := by kernel_rfl
noncomputable def g230 : Fsem := sem3 enItm.list (En.int .i64) (En.int .i64) (fun ls seed try_ => ∀ x ∈ ls, x.weight ≤ 1000000) (fun n ls seed try_ => .tup [.int .i64 (chL seed try_ (-1) 0 ls).2, .bool (decide (0 ≤ (chL seed try_ (-1) 0 ls).1))])
@[go_sem] theorem g230_eq {n τ : Nat} {ls : List Itm} {seed : Int} {try_ : Int} : g230 n [.sl τ 2 (ls.map (enItm.av τ)), .int .i64 seed, .int .i64 try_] = ⟨∀ x ∈ ls, x.weight ≤ 1000000, .tup [.int .i64 (chL seed try_ (-1) 0 ls).2, .bool (decide (0 ≤ (chL seed try_ (-1) 0 ls).1))]⟩ := sem3_eq (τ' := 0) (τ'' := 0) (E := enItm.list) (F := (En.int .i64)) (G := (En.int .i64))
theorem p230 : Pure Tryz.prog 230 g230 := by
  refine sem3_pure fun τ τ' τ'' ls seed try_ n h2 hpre => ?_
  have hT : Table Tryz.prog [(235, g235)] := (.cons p235 .nil)
  have hn0 : n ≠ 0 := by omega
  refine SatP.of_body hT hm Tryz.func230 s230 o230 h2 (by simp) ?_
  have hx : ∀ x ∈ ls, x.weight ≤ 1000000 := hpre
  generalize hr : chL seed try_ (-1) 0 ls = r
  simp (config := {contextual := true, maxSteps := 2000000, implicitDefEqProofs := false}) [c230, go_sem]
  intro hL
  refine VW_listKE [] [] hT h2 hm ls [1, 2, 13, 14] (fun pre post (b : Int × Int) => []) (fun pre post (b : Int × Int) => [(15, .int .i64 pre.length), (8, .int .i64 b.1), (9, .int .i64 b.2)]) (fun pre post (b : Int × Int) => chL seed try_ b.1 b.2 post = r) (-1, 0) ?_ ?_ ?_ ?_
  · exact hr
  · simp [SubE, SubR, SubI, go_sem]
  · rintro ⟨m, i⟩ hR
    have hR' : r = (m, i) := hR.symm
    subst hR'
    simp (config := {contextual := true, maxSteps := 2000000, implicitDefEqProofs := false}) [go_sem]
  · rintro pre x post ⟨m, i⟩ hl hlen hR
    have hln : ls.length = pre.length + (post.length + 1) := by rw [← hl]; simp
    have hn : nth (List.map (enItm.av τ) ls) (pre.length) = (enItm.av τ) x := by rw [← hl]; simp [go_sem]
    have hw : ls.length ≤ maxLen → IntKind.i64.wrap ((pre.length : Int) + 1) = (pre.length : Int) + 1 := fun h => wrap_ok (by omega) (by simp only [maxLen] at h; omega)
    have h3 : (0 : Int) ≤ (pre.length : Int) := by omega
    have h4 : (pre.length : Int) < (ls.length : Int) := by omega
    have h5 : ¬ (ls.length : Int) ≤ (pre.length : Int) := by omega
    have hxx : x.weight ≤ 1000000 := hx x (by rw [← hl]; simp)
    simp only [chL] at hR
    by_cases hc : m < bestN x.id seed try_ x.weight.toNat
    · rw [if_pos hc] at hR
      simp (config := {contextual := true, maxSteps := 2000000, implicitDefEqProofs := false}) [go_sem, hn, hw, hL, h3, h4, h5, SubI, SubE, SubR, hxx, hc]
      exact hR
    · rw [if_neg hc] at hR
      simp (config := {contextual := true, maxSteps := 2000000, implicitDefEqProofs := false}) [go_sem, hn, hw, hL, h3, h4, h5, SubI, SubE, SubR, hxx, hc]
      exact hR
def c237 : SCode := (.seq (.reg [⟨(some 6), .assign (.const (.int .i64 0)), none⟩,
   ⟨(some 7), .assign (.const (.bool false)), none⟩])
(.seq (.reg [⟨(some 8), .assign (.const (.int .i64 (-1))), none⟩])
 (.seq (.reg [⟨(some 9), .assign (.const (.int .i64 0)), none⟩])
  (.seq (.seq (.reg [⟨(some 10), .assign (.const (.int .i64 0)), none⟩])
    (.block 0 (.loop (.seq (.seq (.reg [⟨(some 12), .move (.tmp 10), none⟩,
           ⟨(some 13), .move (.tmp 0), none⟩,
           ⟨(some 14), .call ⟨(.builtin .len), #[(.tmp 13)], #[243]⟩, none⟩,
           ⟨(some 15), .binOp .lss 3 (.tmp 12) (.tmp 14) 3, none⟩])
        (.cond (.tmp 15) .skip
         (.exit 0)))
       (.seq (.block 1 (.seq (.reg [⟨(some 18), .move (.tmp 0), none⟩,
             ⟨(some 19), .move (.tmp 10), none⟩,
             ⟨(some 20), .indexAddr 243 (.tmp 18) (.tmp 19), none⟩,
             ⟨(some 21), .load 244 (.tmp 20), none⟩,
             ⟨(some 22), .move (.tmp 1), none⟩,
             ⟨(some 23), .move (.tmp 2), none⟩,
             ⟨(some 24), .call ⟨(.value (.func 239)), #[(.tmp 21), (.tmp 22), (.tmp 23)], #[244, 2, 2]⟩, none⟩,
             ⟨(some 11), .assign (.tmp 24), none⟩])
          (.seq (.reg [⟨(some 25), .move (.tmp 11), none⟩,
              ⟨(some 26), .move (.tmp 8), none⟩,
              ⟨(some 27), .binOp .gtr 2 (.tmp 25) (.tmp 26) 2, none⟩])
           (.cond (.tmp 27) (.seq (.reg [⟨(some 28), .move (.tmp 11), none⟩,
                ⟨(some 8), .assign (.tmp 28), none⟩])
             (.reg [⟨(some 29), .move (.tmp 0), none⟩,
                ⟨(some 30), .move (.tmp 10), none⟩,
                ⟨(some 31), .indexAddr 243 (.tmp 29) (.tmp 30), none⟩,
                ⟨(some 32), .fieldAddr 244 (.tmp 31) 0, none⟩,
                ⟨(some 33), .load 2 (.tmp 32), none⟩,
                ⟨(some 9), .assign (.tmp 33), none⟩]))
            .skip))))
        (.reg [⟨(some 16), .move (.tmp 10), none⟩,
           ⟨(some 17), .binOp .add 3 (.tmp 16) (.const (.int .i64 1)) 3, none⟩,
           ⟨(some 10), .assign (.tmp 17), none⟩]))))))
   (.seq (.reg [⟨(some 34), .move (.tmp 9), none⟩,
       ⟨(some 35), .move (.tmp 8), none⟩,
       ⟨(some 36), .binOp .geq 2 (.tmp 35) (.const (.int .i64 0)) 2, none⟩,
       ⟨(some 6), .assign (.tmp 34), none⟩,
       ⟨(some 7), .assign (.tmp 36), none⟩])
    .ret)))))
theorem s237 : slimF Tryz.f237 = some (c237, [.t 6, .t 7], 37) := by kernel_rfl
theorem o237 : okF [(239, g239)] Tryz.f237 = true := by kernel_rfl
noncomputable def g237 : Fsem := sem3 enItm.list (En.int .i64) (En.int .i64) (fun ls seed try_ => ∀ x ∈ ls, x.weight ≤ 1000000) (fun n ls seed try_ => .tup [.int .i64 (chL seed try_ (-1) 0 ls).2, .bool (decide (0 ≤ (chL seed try_ (-1) 0 ls).1))])
@[go_sem] theorem g237_eq {n τ : Nat} {ls : List Itm} {seed : Int} {try_ : Int} : g237 n [.sl τ 2 (ls.map (enItm.av τ)), .int .i64 seed, .int .i64 try_] = ⟨∀ x ∈ ls, x.weight ≤ 1000000, .tup [.int .i64 (chL seed try_ (-1) 0 ls).2, .bool (decide (0 ≤ (chL seed try_ (-1) 0 ls).1))]⟩ := sem3_eq (τ' := 0) (τ'' := 0) (E := enItm.list) (F := (En.int .i64)) (G := (En.int .i64))
theorem p237 : Pure Tryz.prog 237 g237 := by
  refine sem3_pure fun τ τ' τ'' ls seed try_ n h2 hpre => ?_
  have hT : Table Tryz.prog [(239, g239)] := (.cons p239 .nil)
  have hn0 : n ≠ 0 := by omega
  refine SatP.of_body hT hm Tryz.func237 s237 o237 h2 (by simp) ?_
  have hx : ∀ x ∈ ls, x.weight ≤ 1000000 := hpre
  generalize hr : chL seed try_ (-1) 0 ls = r
  simp (config := {contextual := true, maxSteps := 2000000, implicitDefEqProofs := false}) [c237, go_sem]
  refine VW_listK hT h2 hm ls [0, 1, 2] (fun pre post (b : Int × Int) => [(10, .int .i64 pre.length), (8, .int .i64 b.1), (9, .int .i64 b.2)]) (fun pre post (b : Int × Int) => chL seed try_ b.1 b.2 post = r) (-1, 0) ?_ ?_ ?_ ?_
  · exact hr
  · simp [SubE, SubR, SubI, go_sem]
  · rintro ⟨m, i⟩ hR
    have hR' : r = (m, i) := hR.symm
    subst hR'
    simp (config := {contextual := true, maxSteps := 2000000, implicitDefEqProofs := false}) [go_sem]
  · rintro pre x post ⟨m, i⟩ hl hlen hR
    have hln : ls.length = pre.length + (post.length + 1) := by rw [← hl]; simp
    have hn : nth (List.map (enItm.av τ) ls) (pre.length) = (enItm.av τ) x := by rw [← hl]; simp [go_sem]
    have hw : ls.length ≤ maxLen → IntKind.i64.wrap ((pre.length : Int) + 1) = (pre.length : Int) + 1 := fun h => wrap_ok (by omega) (by simp only [maxLen] at h; omega)
    have h3 : (0 : Int) ≤ (pre.length : Int) := by omega
    have h4 : (pre.length : Int) < (ls.length : Int) := by omega
    have h5 : ¬ (ls.length : Int) ≤ (pre.length : Int) := by omega
    have hxx : x.weight ≤ 1000000 := hx x (by rw [← hl]; simp)
    simp only [chL] at hR
    by_cases hc : m < bestN x.id seed try_ x.weight.toNat
    · rw [if_pos hc] at hR
      simp (config := {contextual := true, maxSteps := 2000000, implicitDefEqProofs := false}) [go_sem, hn, hw, h3, h4, h5, SubI, SubE, SubR, hxx, hc]
      exact fun _ => hR
    · rw [if_neg hc] at hR
      simp (config := {contextual := true, maxSteps := 2000000, implicitDefEqProofs := false}) [go_sem, hn, hw, h3, h4, h5, SubI, SubE, SubR, hxx, hc]
      exact fun _ => hR
end Go.Ve
namespace Go.Ve
open Go.Proofs Go.RowKit
set_option linter.unusedVariables false
set_option linter.unusedSimpArgs false
set_option maxRecDepth 10000
set_option maxHeartbeats 4000000
def insL (v : Int) : List Int → List Int
  | [] => [v]
  | y :: r => if v ≤ y then (if v < y then v :: y :: r else y :: r) else y :: insL v r
def insG (v : Int) : Bool → List Int → List Int
  | d, [] => if d = true then [] else [v]
  | d, y :: r => if d = false ∧ v ≤ y then (if v < y then v :: y :: insG v true r else y :: insG v true r) else y :: insG v d r
theorem insG_true {v : Int} : ∀ l : List Int, insG v true l = l
  | [] => by simp [insG]
  | y :: r => by simp [insG, insG_true r]
theorem insG_false {v : Int} : ∀ l : List Int, insG v false l = insL v l
  | [] => by simp [insG, insL]
  | y :: r => by
    simp only [insG, insL, insG_true, insG_false r, true_and]
def putAllL : List Int → List Int → List Int
  | acc, [] => acc
  | acc, n :: r => putAllL (insL n acc) r
def sortL (l : List Int) : List Int := l.mergeSort fun x y => decide (x ≤ y)
theorem eq_of_strict : ∀ (a b : List Int), a.Pairwise (· < ·) → b.Pairwise (· < ·) → (∀ x, x ∈ a ↔ x ∈ b) → a = b
  | [], [], _, _, _ => rfl
  | [], y :: b, _, _, h => absurd ((h y).2 (by simp)) (by simp)
  | x :: a, [], _, _, h => absurd ((h x).1 (by simp)) (by simp)
  | x :: a, y :: b, ha, hb, h => by
    have ha' := List.pairwise_cons.1 ha
    have hb' := List.pairwise_cons.1 hb
    have e : x = y := by
      rcases List.mem_cons.1 ((h x).1 (by simp)) with e | e
      · exact e
      · rcases List.mem_cons.1 ((h y).2 (by simp)) with e2 | e2
        · exact e2.symm
        · have := hb'.1 x e
          have := ha'.1 y e2
          omega
    subst e
    rw [eq_of_strict a b ha'.2 hb'.2 (fun z => ⟨fun hz => by
      rcases List.mem_cons.1 ((h z).1 (List.mem_cons_of_mem _ hz)) with e | e
      · have := ha'.1 z hz; omega
      · exact e, fun hz => by
      rcases List.mem_cons.1 ((h z).2 (List.mem_cons_of_mem _ hz)) with e | e
      · have := hb'.1 z hz; omega
      · exact e⟩)]
theorem insL_mem (v x : Int) : ∀ l : List Int, x ∈ insL v l ↔ x = v ∨ x ∈ l
  | [] => by simp [insL]
  | y :: r => by
    have ih := insL_mem v x r
    simp only [insL]
    by_cases h1 : v ≤ y
    · rw [if_pos h1]
      by_cases h2 : v < y
      · rw [if_pos h2]; simp
      · rw [if_neg h2]
        have e : y = v := by omega
        subst e
        simp
    · rw [if_neg h1, List.mem_cons, ih, List.mem_cons]
      exact ⟨fun h => h.elim (fun e => .inr (.inl e)) (fun e => e.elim .inl (fun e => .inr (.inr e))), fun h => h.elim (fun e => .inr (.inl e)) (fun e => e.elim .inl (fun e => .inr (.inr e)))⟩
theorem insL_strict (v : Int) : ∀ l : List Int, l.Pairwise (· < ·) → (insL v l).Pairwise (· < ·)
  | [], _ => by simp [insL]
  | y :: r, h => by
    have h' := List.pairwise_cons.1 h
    simp only [insL]
    by_cases h1 : v ≤ y
    · rw [if_pos h1]
      by_cases h2 : v < y
      · rw [if_pos h2]
        refine List.pairwise_cons.2 ⟨fun a ha => ?_, h⟩
        rcases List.mem_cons.1 ha with rfl | ha
        · exact h2
        · have := h'.1 a ha; omega
      · rw [if_neg h2]; exact h
    · rw [if_neg h1]
      refine List.pairwise_cons.2 ⟨fun a ha => ?_, insL_strict v r h'.2⟩
      rcases (insL_mem v a r).1 ha with e | e
      · omega
      · exact h'.1 a e
theorem insL_len (v : Int) : ∀ l : List Int, (insL v l).length ≤ l.length + 1
  | [] => by simp [insL]
  | y :: r => by
    have := insL_len v r
    simp only [insL]
    split
    · split <;> simp
    · simp only [List.length_cons]; omega
theorem putAllL_strict : ∀ (l acc : List Int), acc.Pairwise (· < ·) → (putAllL acc l).Pairwise (· < ·)
  | [], _, h => h
  | n :: r, acc, h => putAllL_strict r _ (insL_strict n acc h)
theorem putAllL_mem (x : Int) : ∀ (l acc : List Int), x ∈ putAllL acc l ↔ x ∈ acc ∨ x ∈ l
  | [], acc => by simp [putAllL]
  | n :: r, acc => by
    simp only [putAllL]
    rw [putAllL_mem x r, insL_mem, List.mem_cons]
    constructor
    · rintro ((h | h) | h)
      · exact .inr (.inl h)
      · exact .inl h
      · exact .inr (.inr h)
    · rintro (h | h | h)
      · exact .inl (.inr h)
      · exact .inl (.inl h)
      · exact .inr h
theorem putAllL_len : ∀ (l acc : List Int), (putAllL acc l).length ≤ acc.length + l.length
  | [], acc => by simp [putAllL]
  | n :: r, acc => by
    have := insL_len n acc
    have h1 := putAllL_len r (insL n acc)
    simp only [putAllL, List.length_cons]
    omega
theorem sortL_mem {x : Int} {l : List Int} : x ∈ sortL l ↔ x ∈ l := by simp [sortL]
theorem sortL_len {l : List Int} : (sortL l).length = l.length := by simp [sortL]
theorem sortL_sorted (l : List Int) : (sortL l).Pairwise (· ≤ ·) := by
  have := List.pairwise_mergeSort (le := fun x y : Int => decide (x ≤ y)) (fun a b c h1 h2 => by simp at *; omega) (fun a b => by simp; omega) l
  simpa [sortL] using this
theorem dev_in {t : Tree} (h : treeOk t = true) : ∀ d ∈ t.devices, 0 ≤ d.id ∧ d.id ≤ 15 ∧ 0 ≤ d.weight ∧ d.weight ≤ 8 := fun d hd => by
  have h1 := (treeOk_parts h).1
  simp only [devsOk, Bool.and_eq_true] at h1
  obtain ⟨o, ho⟩ := chk_mem h1.1 d hd
  simp only [devOk, btw, Bool.and_eq_true, decide_eq_true_eq] at ho
  omega
theorem devI_neg {t : Tree} (h : treeOk t = true) {id : Int} (hid : id < 0) : ¬ 0 ≤ devI t id := by
  intro h0
  rw [devI, idx_nonneg, List.any_eq_true] at h0
  obtain ⟨d, hd, e⟩ := h0
  have := dev_in h d hd
  simp at e
  omega
theorem chk_pair : ∀ {l : List Bkt} {o : Option Bkt}, chk bkt0 o l = true → l.Pairwise (fun a b => b.id < a.id) ∧ ∀ y, o = some y → ∀ b ∈ l, b.id < y.id
  | [], _, _ => ⟨.nil, fun _ _ b hb => by cases hb⟩
  | x :: l, o, h => by
    simp only [chk, Bool.and_eq_true] at h
    obtain ⟨h1, h2⟩ := chk_pair h.2
    refine ⟨List.pairwise_cons.2 ⟨h2 x rfl, h1⟩, fun y hy b hb => ?_⟩
    have hx : x.id < y.id := by
      subst hy
      have := h.1
      simp only [bkt0, Bool.and_eq_true, decide_eq_true_eq] at this
      exact this.2
    rcases List.mem_cons.1 hb with rfl | hb
    · exact hx
    · have := h2 x rfl b hb; omega
theorem bkt_inj {t : Tree} (h : treeOk t = true) {a b : Bkt} (ha : a ∈ t.buckets) (hb : b ∈ t.buckets) (e : a.id = b.id) : a = b := by
  have h1 := (treeOk_parts h).2.1
  simp only [bktsOk, Bool.and_eq_true] at h1
  have hp := (chk_pair h1.1).1
  obtain ⟨i, hi, rfl⟩ := List.mem_iff_getElem.1 ha
  obtain ⟨j, hj, rfl⟩ := List.mem_iff_getElem.1 hb
  rw [List.pairwise_iff_getElem] at hp
  rcases Nat.lt_trichotomy i j with hij | rfl | hij
  · have := hp i j hi hj hij; omega
  · rfl
  · have := hp j i hj hi hij; omega
theorem bktO_self {t : Tree} (h : treeOk t = true) {b : Bkt} (hb : b ∈ t.buckets) : bktO t b.id = some b := by
  cases hf : bktO t b.id with
  | none =>
    have := List.find?_eq_none.1 hf b hb
    simp at this
  | some c =>
    obtain ⟨h1, h2⟩ := bktO_some hf
    rw [bkt_inj h h1 hb h2]
theorem kind_some {t : Tree} (h : treeOk t = true) {id : Int} {b : Bkt} (hb : bktO t id = some b) : kindOf t id = b.kind ∧ 1 ≤ b.kind ∧ b.kind ≤ 3 ∧ b ∈ t.buckets ∧ b.id = id ∧ id < 0 := by
  obtain ⟨h1, h2⟩ := bktO_some hb
  obtain ⟨h3, h4⟩ := bkt_neg (treeOk_parts h).2.1 h1
  have h5 : id < 0 := by omega
  simp only [btw, Bool.and_eq_true, decide_eq_true_eq] at h4
  refine ⟨?_, h4.1, h4.2, h1, h2, h5⟩
  unfold kindOf
  rw [if_neg (devI_neg h h5), hb]
theorem kind_none {t : Tree} {id : Int} (hb : bktO t id = none) : kindOf t id = if 0 ≤ devI t id then 0 else -1 := by
  unfold kindOf
  rw [hb]
theorem kind_bkt {t : Tree} (h : treeOk t = true) {b : Bkt} (hb : b ∈ t.buckets) : kindOf t b.id = b.kind := (kind_some h (bktO_self h hb)).1
theorem kind_in {t : Tree} (h : treeOk t = true) (id : Int) : -1 ≤ kindOf t id ∧ kindOf t id ≤ 3 := by
  cases hb : bktO t id with
  | none => rw [kind_none hb]; split <;> omega
  | some b => have := kind_some h hb; omega
theorem kind_dev {t : Tree} (h : treeOk t = true) {id : Int} : kindOf t id = 0 ↔ 0 ≤ devI t id := by
  cases hb : bktO t id with
  | none => rw [kind_none hb]; split <;> simp_all
  | some b =>
    have := kind_some h hb
    have := devI_neg h this.2.2.2.2.2
    omega
theorem fits_item {t : Tree} (h : treeOk t = true) {b : Bkt} (hb : b ∈ t.buckets) {id : Int} (hi : id ∈ b.items) : (b.kind < 3 → kindOf t id = b.kind - 1) ∧ (b.kind = 3 → kindOf t id = kindOf t (b.items.headD 0) ∧ (kindOf t id = 1 ∨ kindOf t id = 2)) := by
  have h1 := List.all_eq_true.1 ((treeOk_parts h).2.2.2) b hb
  have h2 := List.all_eq_true.1 h1 id hi
  obtain ⟨_, k1⟩ := bkt_neg (treeOk_parts h).2.1 hb
  simp only [btw, Bool.and_eq_true, decide_eq_true_eq] at k1
  have hw : IntKind.i64.wrap (b.kind - 1) = b.kind - 1 := wrap_ok (by omega) (by omega)
  simp only [fitsOne, hw, Bool.and_eq_true, Bool.not_eq_true', Bool.and_eq_false_iff, decide_eq_false_iff_not, Bool.or_eq_false_iff, Decidable.not_not, ne_eq] at h2
  refine ⟨fun hk => ?_, fun hk => ?_⟩
  · rcases h2.1 with h3 | h3
    · exact absurd hk h3
    · exact h3
  · rcases h2.2 with h3 | h3
    · exact absurd hk h3
    · refine ⟨h3.1, ?_⟩
      rcases h3.2 with h4 | h4
      · exact .inl h4
      · exact .inr h4
theorem kind_item {t : Tree} (h : treeOk t = true) {b : Bkt} (hb : b ∈ t.buckets) {id : Int} (hi : id ∈ b.items) : 0 ≤ kindOf t id ∧ kindOf t id < b.kind ∧ kindOf t id ≤ 2 := by
  obtain ⟨_, k1⟩ := bkt_neg (treeOk_parts h).2.1 hb
  simp only [btw, Bool.and_eq_true, decide_eq_true_eq] at k1
  obtain ⟨h1, h2⟩ := fits_item h hb hi
  rcases Int.lt_or_eq_of_le k1.2 with h3 | h3
  · have := h1 h3; omega
  · have := h2 h3; omega
theorem kind_same {t : Tree} (h : treeOk t = true) {b : Bkt} (hb : b ∈ t.buckets) {x y : Int} (hx : x ∈ b.items) (hy : y ∈ b.items) : kindOf t x = kindOf t y := by
  obtain ⟨_, k1⟩ := bkt_neg (treeOk_parts h).2.1 hb
  simp only [btw, Bool.and_eq_true, decide_eq_true_eq] at k1
  obtain ⟨h1, h2⟩ := fits_item h hb hx
  obtain ⟨h3, h4⟩ := fits_item h hb hy
  rcases Int.lt_or_eq_of_le k1.2 with h5 | h5
  · have := h1 h5; have := h3 h5; omega
  · have := h2 h5; have := h4 h5; omega
theorem once_nodup : ∀ {l s : List Int}, onceL s l = true → l.Nodup ∧ ∀ x ∈ l, x ∉ s
  | [], _, _ => ⟨.nil, fun x hx => by cases hx⟩
  | x :: l, s, h => by
    simp only [onceL, Bool.and_eq_true, Bool.not_eq_true'] at h
    obtain ⟨h1, h2⟩ := once_nodup h.2
    have hx : x ∉ s := fun hc => by rw [has_iff.2 hc] at h; cases h.1
    refine ⟨List.nodup_cons.2 ⟨fun hc => h2 x hc (by simp), h1⟩, fun y hy => ?_⟩
    rcases List.mem_cons.1 hy with rfl | hy
    · exact hx
    · exact fun hc => h2 y hy (by simp [hc])
theorem once_uniq : ∀ {l : List Bkt}, (l.flatMap (·.items)).Nodup → (∀ b ∈ l, b.items.Nodup) ∧ ∀ A ∈ l, ∀ B ∈ l, ∀ x, x ∈ A.items → x ∈ B.items → A = B
  | [], _ => ⟨fun b hb => (by cases hb), fun A hA => (by cases hA)⟩
  | c :: l, h => by
    rw [List.flatMap_cons, List.nodup_append] at h
    obtain ⟨h1, h2⟩ := once_uniq h.2.1
    refine ⟨fun b hb => ?_, fun A hA B hB x hx hy => ?_⟩
    · rcases List.mem_cons.1 hb with rfl | hb
      · exact h.1
      · exact h1 b hb
    · rcases List.mem_cons.1 hA with e1 | hA1 <;> rcases List.mem_cons.1 hB with e2 | hB1
      · rw [e1, e2]
      · subst e1; exact absurd rfl (h.2.2 x hx x (List.mem_flatMap.2 ⟨B, hB1, hy⟩))
      · subst e2; exact absurd rfl (h.2.2 x hy x (List.mem_flatMap.2 ⟨A, hA1, hx⟩))
      · exact h2 A hA1 B hB1 x hx hy
theorem items_uniq {t : Tree} (h : treeOk t = true) : (∀ b ∈ t.buckets, b.items.Nodup) ∧ ∀ A ∈ t.buckets, ∀ B ∈ t.buckets, ∀ x, x ∈ A.items → x ∈ B.items → A = B := once_uniq (once_nodup (treeOk_parts h).2.2.1).1
theorem items8 {t : Tree} (h : treeOk t = true) {b : Bkt} (hb : b ∈ t.buckets) : b.items.length ≤ 8 := (small_of (treeOk_parts h).2.1).2 b hb
def catF (f : Int → List Int) : List Int → List Int
  | [] => []
  | x :: l => f x ++ catF f l
def putF (f : Int → List Int) : List Int → List Int → List Int
  | acc, [] => acc
  | acc, x :: l => putF f (putAllL acc (f x)) l
def underF : Nat → Tree → Int → List Int
  | 0, _, id => [id]
  | k + 1, t, id => match bktO t id with
    | none => [id]
    | some b => sortL (catF (underF k t) b.items)
def underG : Nat → Tree → Int → List Int
  | 0, _, id => [id]
  | k + 1, t, id => match bktO t id with
    | none => [id]
    | some b => putF (underG k t) [] b.items
theorem catF_one {f : Int → List Int} {x : Int} : ∀ {l : List Int}, catF f (l ++ [x]) = catF f l ++ f x
  | [] => by simp [catF]
  | y :: l => by simp only [List.cons_append, catF, catF_one (l := l), List.append_assoc]
theorem mem_catF {f : Int → List Int} {n : Int} : ∀ {l : List Int}, n ∈ catF f l ↔ ∃ x ∈ l, n ∈ f x
  | [] => by simp [catF]
  | y :: l => by simp [catF, mem_catF (l := l)]
theorem mem_putF {f : Int → List Int} {n : Int} : ∀ {l acc : List Int}, n ∈ putF f acc l ↔ n ∈ acc ∨ ∃ x ∈ l, n ∈ f x
  | [], acc => by simp [putF]
  | y :: l, acc => by
    simp only [putF, mem_putF (l := l), putAllL_mem, List.mem_cons, exists_eq_or_imp]
    exact or_assoc
theorem putF_strict {f : Int → List Int} : ∀ {l acc : List Int}, acc.Pairwise (· < ·) → (putF f acc l).Pairwise (· < ·)
  | [], _, h => h
  | y :: l, acc, h => putF_strict (l := l) (putAllL_strict (f y) acc h)
theorem catF_len {f : Int → List Int} {c : Nat} : ∀ {l : List Int}, (∀ x ∈ l, (f x).length ≤ c) → (catF f l).length ≤ c * l.length
  | [], _ => by simp [catF]
  | y :: l, h => by
    have h1 := catF_len (f := f) (c := c) (l := l) fun x hx => h x (List.mem_cons_of_mem _ hx)
    have h2 := h y (List.mem_cons_self ..)
    simp only [catF, List.length_append, List.length_cons, Nat.mul_succ]
    omega
theorem putF_len {f : Int → List Int} {c : Nat} : ∀ {l acc : List Int}, (∀ x ∈ l, (f x).length ≤ c) → (putF f acc l).length ≤ acc.length + c * l.length
  | [], acc, _ => by simp [putF]
  | y :: l, acc, h => by
    have h1 := putF_len (f := f) (c := c) (l := l) (acc := putAllL acc (f y)) fun x hx => h x (List.mem_cons_of_mem _ hx)
    have h2 := h y (List.mem_cons_self ..)
    have h3 := putAllL_len (f y) acc
    simp only [putF, List.length_cons, Nat.mul_succ]
    omega
theorem pow8 {k : Nat} (h : k ≤ 5) : 8 ^ k ≤ 32768 := Nat.pow_le_pow_right (n := 8) (by decide) h
theorem under_len {t : Tree} (h : treeOk t = true) : ∀ (k : Nat) (id : Int), (underF k t id).length ≤ 8 ^ k
  | 0, id => by simp [underF]
  | k + 1, id => by
    unfold underF
    split
    · have := Nat.one_le_two_pow (n := 1); simp; exact Nat.pos_of_ne_zero (by simp)
    · rename_i b hb
      rw [sortL_len]
      have h1 := catF_len (f := underF k t) (c := 8 ^ k) (l := b.items) fun x _ => under_len h k x
      have h2 := items8 h (kind_some h hb).2.2.2.1
      have h3 : 8 ^ k * b.items.length ≤ 8 ^ k * 8 := Nat.mul_le_mul_left _ h2
      rw [Nat.pow_succ]
      omega
theorem underG_len {t : Tree} (h : treeOk t = true) : ∀ (k : Nat) (id : Int), (underG k t id).length ≤ 8 ^ k
  | 0, id => by simp [underG]
  | k + 1, id => by
    unfold underG
    split
    · simp; exact Nat.pos_of_ne_zero (by simp)
    · rename_i b hb
      have h1 := putF_len (f := underG k t) (c := 8 ^ k) (l := b.items) (acc := []) fun x _ => underG_len h k x
      have h2 := items8 h (kind_some h hb).2.2.2.1
      have h3 : 8 ^ k * b.items.length ≤ 8 ^ k * 8 := Nat.mul_le_mul_left _ h2
      rw [Nat.pow_succ]
      simp only [List.length_nil] at h1
      omega
theorem under_disj {t : Tree} (h : treeOk t = true) : ∀ (k : Nat) (a b n : Int), kindOf t a = kindOf t b → 0 ≤ kindOf t a → kindOf t a ≤ 2 → n ∈ underF k t a → n ∈ underF k t b → a = b
  | 0, a, b, n, _, _, _, ha, hb => by
    simp only [underF, List.mem_cons, List.not_mem_nil, or_false] at ha hb
    omega
  | k + 1, a, b, n, e, h0, h2, ha, hb => by
    unfold underF at ha hb
    cases hA : bktO t a with
    | none =>
      have hk := kind_none hA
      have hB : bktO t b = none := by
        cases hB : bktO t b with
        | none => rfl
        | some B =>
          have := kind_some h hB
          rw [hk] at e h0
          split at e <;> omega
      rw [hA] at ha
      rw [hB] at hb
      simp only [List.mem_cons, List.not_mem_nil, or_false] at ha hb
      omega
    | some A =>
      have hk := kind_some h hA
      cases hB : bktO t b with
      | none =>
        have := kind_none hB
        rw [this] at e
        split at e <;> omega
      | some B =>
        have hk' := kind_some h hB
        rw [hA] at ha
        rw [hB] at hb
        simp only [sortL_mem, mem_catF] at ha hb
        obtain ⟨x, hx, hnx⟩ := ha
        obtain ⟨y, hy, hny⟩ := hb
        have fx := (fits_item h hk.2.2.2.1 hx).1 (by omega)
        have fy := (fits_item h hk'.2.2.2.1 hy).1 (by omega)
        have exy := under_disj h k x y n (by omega) (by omega) (by omega) hnx hny
        subst exy
        have := (items_uniq h).2 A hk.2.2.2.1 B hk'.2.2.2.1 x hx hy
        subst this
        omega
theorem catF_nodup {f : Int → List Int} : ∀ {l : List Int}, l.Nodup → (∀ x ∈ l, (f x).Nodup) → (∀ x ∈ l, ∀ y ∈ l, ∀ n, n ∈ f x → n ∈ f y → x = y) → (catF f l).Nodup
  | [], _, _, _ => .nil
  | x :: l, h1, h2, h3 => by
    have h4 := List.nodup_cons.1 h1
    simp only [catF]
    refine List.nodup_append.2 ⟨h2 x (by simp), catF_nodup h4.2 (fun y hy => h2 y (by simp [hy])) (fun y hy z hz => h3 y (by simp [hy]) z (by simp [hz])), fun a ha b hb e => ?_⟩
    subst e
    obtain ⟨y, hy, hay⟩ := mem_catF.1 hb
    have := h3 x (by simp) y (by simp [hy]) a ha hay
    subst this
    exact h4.1 hy
theorem under_nodup {t : Tree} (h : treeOk t = true) : ∀ (k : Nat) (id : Int), (underF k t id).Nodup
  | 0, id => by simp [underF]
  | k + 1, id => by
    unfold underF
    split
    · simp
    · rename_i b hb
      have hk := kind_some h hb
      have hc : (catF (underF k t) b.items).Nodup := catF_nodup ((items_uniq h).1 b hk.2.2.2.1) (fun x _ => under_nodup h k x) fun x hx y hy n hnx hny => under_disj h k x y n (kind_same h hk.2.2.2.1 hx hy) (kind_item h hk.2.2.2.1 hx).1 (kind_item h hk.2.2.2.1 hx).2.2 hnx hny
      exact (List.mergeSort_perm _ _).nodup_iff.2 hc
theorem strict_of {l : List Int} (h1 : l.Pairwise (· ≤ ·)) (h2 : l.Nodup) : l.Pairwise (· < ·) := by
  rw [List.pairwise_iff_getElem] at *
  intro i j hi hj hij
  have a := h1 i j hi hj hij
  have b : l[i] ≠ l[j] := fun e => by
    have := (List.getElem_inj h2).1 e
    omega
  omega
theorem under_strict {t : Tree} (h : treeOk t = true) : ∀ (k : Nat) (id : Int), (underF k t id).Pairwise (· < ·)
  | 0, id => by simp [underF]
  | k + 1, id => by
    have hn := under_nodup h (k + 1) id
    unfold underF at hn ⊢
    split
    · simp
    · rename_i b hb
      rw [hb] at hn
      exact strict_of (sortL_sorted _) hn
theorem underG_strict {t : Tree} : ∀ (k : Nat) (id : Int), (underG k t id).Pairwise (· < ·)
  | 0, id => by simp [underG]
  | k + 1, id => by
    unfold underG
    split
    · simp
    · exact putF_strict .nil
theorem underG_eq {t : Tree} (h : treeOk t = true) : ∀ (k : Nat) (id : Int), underG k t id = underF k t id
  | 0, id => rfl
  | k + 1, id => by
    refine eq_of_strict _ _ (underG_strict _ _) (under_strict h _ _) fun n => ?_
    unfold underG underF
    split
    · rfl
    · rename_i b hb
      rw [mem_putF, sortL_mem, mem_catF]
      simp only [List.not_mem_nil, false_or, underG_eq h k]
theorem under_dev {t : Tree} (h : treeOk t = true) : ∀ (k : Nat) (id : Int), 0 ≤ kindOf t id → kindOf t id < (k : Int) → ∀ n ∈ underF k t id, 0 ≤ devI t n
  | 0, id, h0, h1, n, hn => by omega
  | k + 1, id, h0, h1, n, hn => by
    unfold underF at hn
    cases hb : bktO t id with
    | none =>
      rw [hb] at hn
      simp only [List.mem_cons, List.not_mem_nil, or_false] at hn
      subst hn
      refine (kind_dev h).1 ?_
      rw [kind_none hb] at h0 ⊢
      split <;> simp_all
    | some b =>
      rw [hb] at hn
      simp only [sortL_mem, mem_catF] at hn
      obtain ⟨x, hx, hnx⟩ := hn
      have hk := kind_some h hb
      have hi := kind_item h hk.2.2.2.1 hx
      exact under_dev h k x hi.1 (by omega) n hnx
def devW (t : Tree) (n : Int) : Int := match t.devices.find? (fun d : Dev => decide (d.id = n)) with
  | some d => d.weight
  | none => 0
theorem devW_in {t : Tree} (h : treeOk t = true) (n : Int) : 0 ≤ devW t n ∧ devW t n ≤ 8 := by
  unfold devW
  split
  · rename_i d hd
    have := dev_in h d (List.mem_of_find?_eq_some hd)
    omega
  · omega
def sumW (t : Tree) : Int → List Int → Int
  | a, [] => a
  | a, n :: l => sumW t (a + devW t n) l
theorem sumW_in {t : Tree} (h : treeOk t = true) : ∀ (l : List Int) (a : Int), a ≤ sumW t a l ∧ sumW t a l ≤ a + 8 * (l.length : Int)
  | [], a => by simp [sumW]
  | n :: l, a => by
    have h1 := sumW_in h l (a + devW t n)
    have h2 := devW_in h n
    simp only [sumW, List.length_cons]
    omega
def wt (t : Tree) (id : Int) : Int := sumW t 0 (underF 5 t id)
theorem wt_in {t : Tree} (h : treeOk t = true) (id : Int) : 0 ≤ wt t id ∧ wt t id ≤ 262144 := by
  have h1 := sumW_in h (underF 5 t id) 0
  have h2 := under_len h 5 id
  unfold wt
  omega
def inB (t : Tree) (id : Int) : Option Bkt := t.buckets.find? (fun b : Bkt => has b.items id)
def aboveF : Nat → Tree → Int → Int → Int
  | 0, _, _, _ => 0
  | k + 1, t, id, kind => match inB t id with
    | none => 0
    | some b => if b.kind = kind then b.id else aboveF k t b.id kind
theorem inB_some {t : Tree} (h : treeOk t = true) {id : Int} {b : Bkt} (hb : inB t id = some b) : b ∈ t.buckets ∧ kindOf t id < kindOf t b.id ∧ 0 ≤ kindOf t id := by
  have h1 := List.mem_of_find?_eq_some hb
  have h2 := List.find?_some hb
  have h3 := kind_item h h1 (has_iff.1 h2)
  rw [kind_bkt h h1]
  exact ⟨h1, h3.2.1, h3.1⟩
end Go.Ve
