/- Contracts of the seat: marks of rows. No condition. -/
import Derived.Test.YtidfijaobkaalaaV2
import Derived.Test.YtidfijaobkaalaaE31
namespace Go.Ve
open Go.Proofs Go.RowKit
set_option linter.unusedVariables false
set_option linter.unusedSimpArgs false
set_option maxRecDepth 10000
set_option maxHeartbeats 4000000
/- laws.markInt64S -/
def c70 : SCode := (.seq (.reg [⟨(some 4), .assign (.const (.int .i64 0)), none⟩])
(.seq (.seq (.reg [⟨(some 5), .assign (.const (.int .i64 0)), none⟩])
  (.block 0 (.loop (.seq (.seq (.reg [⟨(some 6), .move (.tmp 5), none⟩,
         ⟨(some 7), .move (.tmp 0), none⟩,
         ⟨(some 8), .call ⟨(.builtin .len), #[(.tmp 7)], #[28]⟩, none⟩,
         ⟨(some 9), .binOp .lss 3 (.tmp 6) (.tmp 8) 3, none⟩])
      (.cond (.tmp 9) .skip
       (.exit 0)))
     (.seq (.block 1 (.seq (.reg [⟨(some 12), .move (.tmp 0), none⟩,
           ⟨(some 13), .move (.tmp 5), none⟩,
           ⟨(some 14), .move (.tmp 1), none⟩,
           ⟨(some 15), .indexAddr 28 (.tmp 12) (.tmp 13), none⟩,
           ⟨none, .store 2 (.tmp 15) (.tmp 14), none⟩])
        (.reg [⟨(some 16), .move (.tmp 1), none⟩,
           ⟨(some 17), .binOp .add 3 (.tmp 16) (.const (.int .i64 1)) 3, none⟩,
           ⟨(some 1), .assign (.tmp 17), none⟩])))
      (.reg [⟨(some 10), .move (.tmp 5), none⟩,
         ⟨(some 11), .binOp .add 3 (.tmp 10) (.const (.int .i64 1)) 3, none⟩,
         ⟨(some 5), .assign (.tmp 11), none⟩]))))))
 (.seq (.reg [⟨(some 18), .move (.tmp 1), none⟩,
     ⟨(some 4), .assign (.tmp 18), none⟩])
  .ret)))
theorem s70 : slimF Try.f70 = some (c70, [.t 4], 19) := by kernel_rfl
theorem o70 : okF [] Try.f70 = true := by kernel_rfl
def gm70 : Msem := fun a => match a with
  | [.sl 1 1 xs, .int .i64 k] => ⟨(∀ x ∈ xs, x = .leaf) ∧ 0 ≤ k ∧ k + 1 * (xs.length : Int) ≤ 1152921504606846976, .int .i64 (k + 1 * (xs.length : Int))⟩
  | _ => .no
@[go_sem] theorem gm70_eq {xs : List AV} {k : Int} : gm70 [.sl 1 1 xs, .int .i64 k] = ⟨(∀ x ∈ xs, x = .leaf) ∧ 0 ≤ k ∧ k + 1 * (xs.length : Int) ≤ 1152921504606846976, .int .i64 (k + 1 * (xs.length : Int))⟩ := rfl
theorem mu70 {xs : List AV} (hx : (∀ x ∈ xs, x = .leaf)) : ∀ x ∈ xs, ∀ y ∈ x.cells, MuC y := fun x hx' y hy => by rw [hx x hx'] at hy; simp [AV.cells] at hy; subst hy; exact .leaf
theorem pm70 : ∀ args, (gm70 args).c → MSat Try.prog 70 args (gm70 args).v := by
  intro args hc
  by_cases h : ∃ xs k, args = [.sl 1 1 xs, .int .i64 k]
  · obtain ⟨xs, k, rfl⟩ := h
    obtain ⟨hx, hk0, hk1⟩ : (∀ x ∈ xs, x = .leaf) ∧ 0 ≤ k ∧ k + 1 * (xs.length : Int) ≤ 1152921504606846976 := hc
    have hmu := mu70 hx
    show MSat Try.prog 70 [.sl 1 1 xs, .int .i64 k] (.int .i64 (k + 1 * (xs.length : Int)))
    have hM : MTable Try.prog [] := .nil
    refine MSat.of_body hM Try.func70 s70 o70 (by simp) ?_
    simp (config := {contextual := true, maxSteps := 2000000, implicitDefEqProofs := false}) [c70, go_sem]
    refine MVW_for hM xs.length (fun i => ⟨[(0, .sl 1 1 xs), (1, .int .i64 (k + 1 * (i : Int))), (5, .int .i64 i)], []⟩) ?_ ?_
    · simp [SubI, go_sem]
    · intro i hi
      have h1 : (0 : Int) ≤ i := by omega
      by_cases hlt : i < xs.length
      · have h2 : (i : Int) < (xs.length : Int) := by omega
        have h3 : ¬ (xs.length : Int) ≤ (i : Int) := by omega
        generalize hK : k + 1 * (i : Int) = K
        have hn : nth xs i = .leaf := hx _ (nth_mem hlt)
        have hsum : k + 1 * ((i + 1 : Nat) : Int) = K + 1 := by rw [← hK]; omega
        have hK0 : 0 ≤ K := by omega
        have emu : (∀ x ∈ xs, ∀ y ∈ x.cells, MuC y) = True := eq_true hmu
        have hK1 : K + 1 ≤ 1152921504606846976 := by omega
        have hi2 : xs.length ≤ maxLen → IntKind.i64.wrap ((i : Int) + 1) = (i : Int) + 1 := fun h => wrap_ok (by omega) (by simp only [maxLen] at h; omega)
        have w1 : IntKind.i64.wrap (K + 1) = K + 1 := wrap_ok (by omega) (by omega)
        simp (config := {contextual := true, maxSteps := 2000000, implicitDefEqProofs := false}) [go_sem, hn, emu, h1, h2, h3, hi2, hsum, SubI, w1]
        intro _
        first | exact hlt | exact ⟨hlt, by omega⟩
      · obtain rfl : i = xs.length := by omega
        have h3 : ¬ (xs.length : Int) < (xs.length : Int) := by omega
        simp (config := {contextual := true, maxSteps := 2000000, implicitDefEqProofs := false}) [go_sem, h3]
  · exfalso
    unfold gm70 at hc
    split at hc
    · exact h ⟨_, _, rfl⟩
    · exact hc
/- laws.markDeviceS -/
def c68 : SCode := (.seq (.reg [⟨(some 4), .assign (.const (.int .i64 0)), none⟩])
(.seq (.seq (.reg [⟨(some 5), .assign (.const (.int .i64 0)), none⟩])
  (.block 0 (.loop (.seq (.seq (.reg [⟨(some 6), .move (.tmp 5), none⟩,
         ⟨(some 7), .move (.tmp 0), none⟩,
         ⟨(some 8), .call ⟨(.builtin .len), #[(.tmp 7)], #[33]⟩, none⟩,
         ⟨(some 9), .binOp .lss 3 (.tmp 6) (.tmp 8) 3, none⟩])
      (.cond (.tmp 9) .skip
       (.exit 0)))
     (.seq (.block 1 (.seq (.reg [⟨(some 12), .move (.tmp 0), none⟩,
           ⟨(some 13), .move (.tmp 5), none⟩,
           ⟨(some 14), .move (.tmp 1), none⟩,
           ⟨(some 15), .indexAddr 33 (.tmp 12) (.tmp 13), none⟩,
           ⟨(some 16), .fieldAddr 125 (.tmp 15) 0, none⟩,
           ⟨none, .store 2 (.tmp 16) (.tmp 14), none⟩])
        (.seq (.reg [⟨(some 17), .move (.tmp 1), none⟩,
            ⟨(some 18), .binOp .add 3 (.tmp 17) (.const (.int .i64 1)) 3, none⟩,
            ⟨(some 1), .assign (.tmp 18), none⟩])
         (.seq (.reg [⟨(some 19), .move (.tmp 0), none⟩,
             ⟨(some 20), .move (.tmp 5), none⟩,
             ⟨(some 21), .move (.tmp 1), none⟩,
             ⟨(some 22), .indexAddr 33 (.tmp 19) (.tmp 20), none⟩,
             ⟨(some 23), .fieldAddr 125 (.tmp 22) 1, none⟩,
             ⟨none, .store 2 (.tmp 23) (.tmp 21), none⟩])
          (.reg [⟨(some 24), .move (.tmp 1), none⟩,
             ⟨(some 25), .binOp .add 3 (.tmp 24) (.const (.int .i64 1)) 3, none⟩,
             ⟨(some 1), .assign (.tmp 25), none⟩])))))
      (.reg [⟨(some 10), .move (.tmp 5), none⟩,
         ⟨(some 11), .binOp .add 3 (.tmp 10) (.const (.int .i64 1)) 3, none⟩,
         ⟨(some 5), .assign (.tmp 11), none⟩]))))))
 (.seq (.reg [⟨(some 26), .move (.tmp 1), none⟩,
     ⟨(some 4), .assign (.tmp 26), none⟩])
  .ret)))
theorem s68 : slimF Try.f68 = some (c68, [.t 4], 27) := by kernel_rfl
theorem o68 : okF [] Try.f68 = true := by kernel_rfl
def gm68 : Msem := fun a => match a with
  | [.sl 1 2 xs, .int .i64 k] => ⟨(∀ x ∈ xs, x = .agg [.leaf, .leaf]) ∧ 0 ≤ k ∧ k + 2 * (xs.length : Int) ≤ 1152921504606846976, .int .i64 (k + 2 * (xs.length : Int))⟩
  | _ => .no
@[go_sem] theorem gm68_eq {xs : List AV} {k : Int} : gm68 [.sl 1 2 xs, .int .i64 k] = ⟨(∀ x ∈ xs, x = .agg [.leaf, .leaf]) ∧ 0 ≤ k ∧ k + 2 * (xs.length : Int) ≤ 1152921504606846976, .int .i64 (k + 2 * (xs.length : Int))⟩ := rfl
theorem mu68 {xs : List AV} (hx : (∀ x ∈ xs, x = .agg [.leaf, .leaf])) : ∀ x ∈ xs, ∀ y ∈ x.cells, MuC y := fun x hx' y hy => by rw [hx x hx'] at hy; simp only [AV.cells, List.mem_cons, List.not_mem_nil, or_false, or_self] at hy; subst hy; exact .leaf
theorem pm68 : ∀ args, (gm68 args).c → MSat Try.prog 68 args (gm68 args).v := by
  intro args hc
  by_cases h : ∃ xs k, args = [.sl 1 2 xs, .int .i64 k]
  · obtain ⟨xs, k, rfl⟩ := h
    obtain ⟨hx, hk0, hk1⟩ : (∀ x ∈ xs, x = .agg [.leaf, .leaf]) ∧ 0 ≤ k ∧ k + 2 * (xs.length : Int) ≤ 1152921504606846976 := hc
    have hmu := mu68 hx
    show MSat Try.prog 68 [.sl 1 2 xs, .int .i64 k] (.int .i64 (k + 2 * (xs.length : Int)))
    have hM : MTable Try.prog [] := .nil
    refine MSat.of_body hM Try.func68 s68 o68 (by simp) ?_
    simp (config := {contextual := true, maxSteps := 2000000, implicitDefEqProofs := false}) [c68, go_sem]
    refine MVW_for hM xs.length (fun i => ⟨[(0, .sl 1 2 xs), (1, .int .i64 (k + 2 * (i : Int))), (5, .int .i64 i)], []⟩) ?_ ?_
    · simp [SubI, go_sem]
    · intro i hi
      have h1 : (0 : Int) ≤ i := by omega
      by_cases hlt : i < xs.length
      · have h2 : (i : Int) < (xs.length : Int) := by omega
        have h3 : ¬ (xs.length : Int) ≤ (i : Int) := by omega
        generalize hK : k + 2 * (i : Int) = K
        have hn : nth xs i = .agg [.leaf, .leaf] := hx _ (nth_mem hlt)
        have hsum : k + 2 * ((i + 1 : Nat) : Int) = K + 1 + 1 := by rw [← hK]; omega
        have hK0 : 0 ≤ K := by omega
        have emu : (∀ x ∈ xs, ∀ y ∈ x.cells, MuC y) = True := eq_true hmu
        have hK1 : K + 1 + 1 ≤ 1152921504606846976 := by omega
        have hi2 : xs.length ≤ maxLen → IntKind.i64.wrap ((i : Int) + 1) = (i : Int) + 1 := fun h => wrap_ok (by omega) (by simp only [maxLen] at h; omega)
        have w1 : IntKind.i64.wrap (K + 1) = K + 1 := wrap_ok (by omega) (by omega)
        have w2 : IntKind.i64.wrap (K + 1 + 1) = K + 1 + 1 := wrap_ok (by omega) (by omega)
        simp (config := {contextual := true, maxSteps := 2000000, implicitDefEqProofs := false}) [go_sem, hn, emu, h1, h2, h3, hi2, hsum, SubI, w1, w2]
        intro _
        first | exact hlt | exact ⟨hlt, by omega⟩
      · obtain rfl : i = xs.length := by omega
        have h3 : ¬ (xs.length : Int) < (xs.length : Int) := by omega
        simp (config := {contextual := true, maxSteps := 2000000, implicitDefEqProofs := false}) [go_sem, h3]
  · exfalso
    unfold gm68 at hc
    split at hc
    · exact h ⟨_, _, rfl⟩
    · exact hc
/- laws.markBucketS -/
def c69 : SCode := (.seq (.reg [⟨(some 4), .assign (.const (.int .i64 0)), none⟩])
(.seq (.seq (.reg [⟨(some 5), .assign (.const (.int .i64 0)), none⟩])
  (.block 0 (.loop (.seq (.seq (.reg [⟨(some 6), .move (.tmp 5), none⟩,
         ⟨(some 7), .move (.tmp 0), none⟩,
         ⟨(some 8), .call ⟨(.builtin .len), #[(.tmp 7)], #[34]⟩, none⟩,
         ⟨(some 9), .binOp .lss 3 (.tmp 6) (.tmp 8) 3, none⟩])
      (.cond (.tmp 9) .skip
       (.exit 0)))
     (.seq (.block 1 (.seq (.reg [⟨(some 12), .move (.tmp 0), none⟩,
           ⟨(some 13), .move (.tmp 5), none⟩,
           ⟨(some 14), .move (.tmp 1), none⟩,
           ⟨(some 15), .indexAddr 34 (.tmp 12) (.tmp 13), none⟩,
           ⟨(some 16), .fieldAddr 115 (.tmp 15) 0, none⟩,
           ⟨none, .store 2 (.tmp 16) (.tmp 14), none⟩])
        (.seq (.reg [⟨(some 17), .move (.tmp 1), none⟩,
            ⟨(some 18), .binOp .add 3 (.tmp 17) (.const (.int .i64 1)) 3, none⟩,
            ⟨(some 1), .assign (.tmp 18), none⟩])
         (.seq (.reg [⟨(some 19), .move (.tmp 0), none⟩,
             ⟨(some 20), .move (.tmp 5), none⟩,
             ⟨(some 21), .move (.tmp 1), none⟩,
             ⟨(some 22), .indexAddr 34 (.tmp 19) (.tmp 20), none⟩,
             ⟨(some 23), .fieldAddr 115 (.tmp 22) 1, none⟩,
             ⟨none, .store 2 (.tmp 23) (.tmp 21), none⟩])
          (.seq (.reg [⟨(some 24), .move (.tmp 1), none⟩,
              ⟨(some 25), .binOp .add 3 (.tmp 24) (.const (.int .i64 1)) 3, none⟩,
              ⟨(some 1), .assign (.tmp 25), none⟩])
           (.reg [⟨(some 26), .move (.tmp 0), none⟩,
              ⟨(some 27), .move (.tmp 5), none⟩,
              ⟨(some 28), .indexAddr 34 (.tmp 26) (.tmp 27), none⟩,
              ⟨(some 29), .fieldAddr 115 (.tmp 28) 2, none⟩,
              ⟨(some 30), .load 28 (.tmp 29), none⟩,
              ⟨(some 31), .move (.tmp 1), none⟩,
              ⟨(some 32), .call ⟨(.value (.func 70)), #[(.tmp 30), (.tmp 31)], #[28, 3]⟩, none⟩,
              ⟨(some 1), .assign (.tmp 32), none⟩]))))))
      (.reg [⟨(some 10), .move (.tmp 5), none⟩,
         ⟨(some 11), .binOp .add 3 (.tmp 10) (.const (.int .i64 1)) 3, none⟩,
         ⟨(some 5), .assign (.tmp 11), none⟩]))))))
 (.seq (.reg [⟨(some 33), .move (.tmp 1), none⟩,
     ⟨(some 4), .assign (.tmp 33), none⟩])
  .ret)))
theorem s69 : slimF Try.f69 = some (c69, [.t 4], 34) := by kernel_rfl
theorem o69 : okF [] Try.f69 = true := by kernel_rfl
def cm69 : AV → Int
  | .agg [_, _, .sl _ _ ys] => 2 + (ys.length : Int)
  | _ => 0
theorem cm69_nn (x : AV) : 0 ≤ cm69 x := by
  unfold cm69
  split <;> omega
def gm69 : Msem := fun a => match a with
  | [.sl 1 3 xs, .int .i64 k] => ⟨(∀ x ∈ xs, ∃ ys, x = .agg [.leaf, .leaf, .sl 1 1 ys] ∧ (∀ y ∈ ys, y = .leaf)) ∧ 0 ≤ k ∧ k + (xs.map cm69).sum ≤ 1152921504606846976, .int .i64 (k + (xs.map cm69).sum)⟩
  | _ => .no
@[go_sem] theorem gm69_eq {xs : List AV} {k : Int} : gm69 [.sl 1 3 xs, .int .i64 k] = ⟨(∀ x ∈ xs, ∃ ys, x = .agg [.leaf, .leaf, .sl 1 1 ys] ∧ (∀ y ∈ ys, y = .leaf)) ∧ 0 ≤ k ∧ k + (xs.map cm69).sum ≤ 1152921504606846976, .int .i64 (k + (xs.map cm69).sum)⟩ := rfl
theorem mu69 {xs : List AV} (hx : (∀ x ∈ xs, ∃ ys, x = .agg [.leaf, .leaf, .sl 1 1 ys] ∧ (∀ y ∈ ys, y = .leaf))) : ∀ x ∈ xs, ∀ y ∈ x.cells, MuC y := fun x hx' y hy => by
      obtain ⟨ys, rfl, hys⟩ := hx x hx'
      simp only [AV.cells, List.mem_cons, List.not_mem_nil, or_false] at hy
      have hsl : MuC (.sl 1 1 ys) := muC_sl.2 fun x hx'' y hy' => by rw [hys x hx''] at hy'; simp [AV.cells] at hy'; subst hy'; exact .leaf
      first
        | (rcases hy with rfl | rfl | rfl | rfl | rfl <;> first | exact .leaf | exact hsl)
        | (rcases hy with rfl | rfl | rfl | rfl <;> first | exact .leaf | exact hsl)
        | (rcases hy with rfl | rfl | rfl <;> first | exact .leaf | exact hsl)
        | (rcases hy with rfl | rfl <;> first | exact .leaf | exact hsl)
        | (subst hy; exact hsl)
theorem pm69 : ∀ args, (gm69 args).c → MSat Try.prog 69 args (gm69 args).v := by
  intro args hc
  by_cases h : ∃ xs k, args = [.sl 1 3 xs, .int .i64 k]
  · obtain ⟨xs, k, rfl⟩ := h
    obtain ⟨hx, hk0, hk1⟩ : (∀ x ∈ xs, ∃ ys, x = .agg [.leaf, .leaf, .sl 1 1 ys] ∧ (∀ y ∈ ys, y = .leaf)) ∧ 0 ≤ k ∧ k + (xs.map cm69).sum ≤ 1152921504606846976 := hc
    have hmu := mu69 hx
    show MSat Try.prog 69 [.sl 1 3 xs, .int .i64 k] (.int .i64 (k + (xs.map cm69).sum))
    have hM : MTable Try.prog [(70, gm70)] := (.cons pm70 .nil)
    refine MSat.of_body hM Try.func69 s69 o69 (by simp) ?_
    simp (config := {contextual := true, maxSteps := 2000000, implicitDefEqProofs := false}) [c69, go_sem]
    refine MVW_for hM xs.length (fun i => ⟨[(0, .sl 1 3 xs), (1, .int .i64 (k + ((xs.map cm69).take i).sum)), (5, .int .i64 i)], []⟩) ?_ ?_
    · simp [SubI, go_sem]
    · intro i hi
      have h1 : (0 : Int) ≤ i := by omega
      by_cases hlt : i < xs.length
      · have h2 : (i : Int) < (xs.length : Int) := by omega
        have h3 : ¬ (xs.length : Int) ≤ (i : Int) := by omega
        generalize hK : k + ((xs.map cm69).take i).sum = K
        obtain ⟨ys, hn, hy⟩ := hx _ (nth_mem hlt)
        have hcm : cm69 (nth xs i) = 2 + (ys.length : Int) := by rw [hn]; rfl
        have hts := take_sum (f := cm69) hlt
        have htl := (take_sum_le (f := cm69) cm69_nn (xs := xs) (i := i + 1)).2
        have htn := (take_sum_le (f := cm69) cm69_nn (xs := xs) (i := i)).1
        have hsum : k + ((xs.map cm69).take (i + 1)).sum = K + 1 + 1 + (ys.length : Int) := by rw [← hK, hts, hcm]; omega
        have hyl : K + 1 + 1 + (ys.length : Int) ≤ 1152921504606846976 := by omega
        have hyk : 0 ≤ K + 1 + 1 := by omega
        have ehy : (∀ y ∈ ys, y = .leaf) = True := eq_true hy
        have hmy : ∀ x ∈ ys, ∀ y ∈ x.cells, MuC y := fun x hx' y hy' => by rw [hy x hx'] at hy'; simp [AV.cells] at hy'; subst hy'; exact .leaf
        have emy : (∀ x ∈ ys, ∀ y ∈ x.cells, MuC y) = True := eq_true hmy
        have hK0 : 0 ≤ K := by omega
        have emu : (∀ x ∈ xs, ∀ y ∈ x.cells, MuC y) = True := eq_true hmu
        have hK1 : K + 1 + 1 ≤ 1152921504606846976 := by omega
        have hi2 : xs.length ≤ maxLen → IntKind.i64.wrap ((i : Int) + 1) = (i : Int) + 1 := fun h => wrap_ok (by omega) (by simp only [maxLen] at h; omega)
        have w1 : IntKind.i64.wrap (K + 1) = K + 1 := wrap_ok (by omega) (by omega)
        have w2 : IntKind.i64.wrap (K + 1 + 1) = K + 1 + 1 := wrap_ok (by omega) (by omega)
        simp (config := {contextual := true, maxSteps := 2000000, implicitDefEqProofs := false}) [go_sem, hn, emu, h1, h2, h3, hi2, hsum, SubI, w1, w2, hyl, hyk, emy, ehy]
        intro _
        first | exact hlt | exact ⟨hlt, by omega⟩
      · obtain rfl : i = xs.length := by omega
        have h3 : ¬ (xs.length : Int) < (xs.length : Int) := by omega
        have htk : (xs.map cm69).take xs.length = xs.map cm69 := List.take_of_length_le (by simp)
        simp (config := {contextual := true, maxSteps := 2000000, implicitDefEqProofs := false}) [go_sem, h3, htk]
  · exfalso
    unfold gm69 at hc
    split at hc
    · exact h ⟨_, _, rfl⟩
    · exact hc
/- laws.markInt64SS -/
def c28 : SCode := (.seq (.reg [⟨(some 4), .assign (.const (.int .i64 0)), none⟩])
(.seq (.seq (.reg [⟨(some 5), .assign (.const (.int .i64 0)), none⟩])
  (.block 0 (.loop (.seq (.seq (.reg [⟨(some 6), .move (.tmp 5), none⟩,
         ⟨(some 7), .move (.tmp 0), none⟩,
         ⟨(some 8), .call ⟨(.builtin .len), #[(.tmp 7)], #[53]⟩, none⟩,
         ⟨(some 9), .binOp .lss 3 (.tmp 6) (.tmp 8) 3, none⟩])
      (.cond (.tmp 9) .skip
       (.exit 0)))
     (.seq (.block 1 (.reg [⟨(some 12), .move (.tmp 0), none⟩,
          ⟨(some 13), .move (.tmp 5), none⟩,
          ⟨(some 14), .indexAddr 53 (.tmp 12) (.tmp 13), none⟩,
          ⟨(some 15), .load 28 (.tmp 14), none⟩,
          ⟨(some 16), .move (.tmp 1), none⟩,
          ⟨(some 17), .call ⟨(.value (.func 70)), #[(.tmp 15), (.tmp 16)], #[28, 3]⟩, none⟩,
          ⟨(some 1), .assign (.tmp 17), none⟩]))
      (.reg [⟨(some 10), .move (.tmp 5), none⟩,
         ⟨(some 11), .binOp .add 3 (.tmp 10) (.const (.int .i64 1)) 3, none⟩,
         ⟨(some 5), .assign (.tmp 11), none⟩]))))))
 (.seq (.reg [⟨(some 18), .move (.tmp 1), none⟩,
     ⟨(some 4), .assign (.tmp 18), none⟩])
  .ret)))
theorem s28 : slimF Try.f28 = some (c28, [.t 4], 19) := by kernel_rfl
theorem o28 : okF [] Try.f28 = true := by kernel_rfl
def cm28 : AV → Int
  | .sl _ _ ys => (ys.length : Int)
  | _ => 0
theorem cm28_nn (x : AV) : 0 ≤ cm28 x := by
  unfold cm28
  split <;> omega
def gm28 : Msem := fun a => match a with
  | [.sl 1 1 xs, .int .i64 k] => ⟨(∀ x ∈ xs, ∃ ys, x = .sl 1 1 ys ∧ (∀ y ∈ ys, y = .leaf)) ∧ 0 ≤ k ∧ k + (xs.map cm28).sum ≤ 1152921504606846976, .int .i64 (k + (xs.map cm28).sum)⟩
  | _ => .no
@[go_sem] theorem gm28_eq {xs : List AV} {k : Int} : gm28 [.sl 1 1 xs, .int .i64 k] = ⟨(∀ x ∈ xs, ∃ ys, x = .sl 1 1 ys ∧ (∀ y ∈ ys, y = .leaf)) ∧ 0 ≤ k ∧ k + (xs.map cm28).sum ≤ 1152921504606846976, .int .i64 (k + (xs.map cm28).sum)⟩ := rfl
theorem mu28 {xs : List AV} (hx : (∀ x ∈ xs, ∃ ys, x = .sl 1 1 ys ∧ (∀ y ∈ ys, y = .leaf))) : ∀ x ∈ xs, ∀ y ∈ x.cells, MuC y := fun x hx' y hy => by
      obtain ⟨ys, rfl, hys⟩ := hx x hx'
      simp only [AV.cells, List.mem_cons, List.not_mem_nil, or_false] at hy
      have hsl : MuC (.sl 1 1 ys) := muC_sl.2 fun x hx'' y hy' => by rw [hys x hx''] at hy'; simp [AV.cells] at hy'; subst hy'; exact .leaf
      first
        | (rcases hy with rfl | rfl | rfl | rfl | rfl <;> first | exact .leaf | exact hsl)
        | (rcases hy with rfl | rfl | rfl | rfl <;> first | exact .leaf | exact hsl)
        | (rcases hy with rfl | rfl | rfl <;> first | exact .leaf | exact hsl)
        | (rcases hy with rfl | rfl <;> first | exact .leaf | exact hsl)
        | (subst hy; exact hsl)
theorem pm28 : ∀ args, (gm28 args).c → MSat Try.prog 28 args (gm28 args).v := by
  intro args hc
  by_cases h : ∃ xs k, args = [.sl 1 1 xs, .int .i64 k]
  · obtain ⟨xs, k, rfl⟩ := h
    obtain ⟨hx, hk0, hk1⟩ : (∀ x ∈ xs, ∃ ys, x = .sl 1 1 ys ∧ (∀ y ∈ ys, y = .leaf)) ∧ 0 ≤ k ∧ k + (xs.map cm28).sum ≤ 1152921504606846976 := hc
    have hmu := mu28 hx
    show MSat Try.prog 28 [.sl 1 1 xs, .int .i64 k] (.int .i64 (k + (xs.map cm28).sum))
    have hM : MTable Try.prog [(70, gm70)] := (.cons pm70 .nil)
    refine MSat.of_body hM Try.func28 s28 o28 (by simp) ?_
    simp (config := {contextual := true, maxSteps := 2000000, implicitDefEqProofs := false}) [c28, go_sem]
    refine MVW_for hM xs.length (fun i => ⟨[(0, .sl 1 1 xs), (1, .int .i64 (k + ((xs.map cm28).take i).sum)), (5, .int .i64 i)], []⟩) ?_ ?_
    · simp [SubI, go_sem]
    · intro i hi
      have h1 : (0 : Int) ≤ i := by omega
      by_cases hlt : i < xs.length
      · have h2 : (i : Int) < (xs.length : Int) := by omega
        have h3 : ¬ (xs.length : Int) ≤ (i : Int) := by omega
        generalize hK : k + ((xs.map cm28).take i).sum = K
        obtain ⟨ys, hn, hy⟩ := hx _ (nth_mem hlt)
        have hcm : cm28 (nth xs i) = (ys.length : Int) := by rw [hn]; rfl
        have hts := take_sum (f := cm28) hlt
        have htl := (take_sum_le (f := cm28) cm28_nn (xs := xs) (i := i + 1)).2
        have htn := (take_sum_le (f := cm28) cm28_nn (xs := xs) (i := i)).1
        have hsum : k + ((xs.map cm28).take (i + 1)).sum = K + (ys.length : Int) := by rw [← hK, hts, hcm]; omega
        have hyl : K + (ys.length : Int) ≤ 1152921504606846976 := by omega
        have hyk : 0 ≤ K := by omega
        have ehy : (∀ y ∈ ys, y = .leaf) = True := eq_true hy
        have hmy : ∀ x ∈ ys, ∀ y ∈ x.cells, MuC y := fun x hx' y hy' => by rw [hy x hx'] at hy'; simp [AV.cells] at hy'; subst hy'; exact .leaf
        have emy : (∀ x ∈ ys, ∀ y ∈ x.cells, MuC y) = True := eq_true hmy
        have hK0 : 0 ≤ K := by omega
        have emu : (∀ x ∈ xs, ∀ y ∈ x.cells, MuC y) = True := eq_true hmu
        have hK1 : K ≤ 1152921504606846976 := by omega
        have hi2 : xs.length ≤ maxLen → IntKind.i64.wrap ((i : Int) + 1) = (i : Int) + 1 := fun h => wrap_ok (by omega) (by simp only [maxLen] at h; omega)

        simp (config := {contextual := true, maxSteps := 2000000, implicitDefEqProofs := false}) [go_sem, hn, emu, h1, h2, h3, hi2, hsum, SubI, hyl, hyk, emy, ehy]
        intro _
        first | exact hlt | exact ⟨hlt, by omega⟩
      · obtain rfl : i = xs.length := by omega
        have h3 : ¬ (xs.length : Int) < (xs.length : Int) := by omega
        have htk : (xs.map cm28).take xs.length = xs.map cm28 := List.take_of_length_le (by simp)
        simp (config := {contextual := true, maxSteps := 2000000, implicitDefEqProofs := false}) [go_sem, h3, htk]
  · exfalso
    unfold gm28 at hc
    split at hc
    · exact h ⟨_, _, rfl⟩
    · exact hc
/- laws.markTree -/
def c27 : SCode := (.seq (.reg [⟨(some 2), .box 36 (.tmp 0), none⟩,
   ⟨(some 4), .assign (.const (.int .i64 0)), none⟩])
(.seq (.reg [⟨(some 5), .fieldAddr 36 (.tmp 2) 0, none⟩,
    ⟨(some 6), .load 33 (.tmp 5), none⟩,
    ⟨(some 7), .move (.tmp 1), none⟩,
    ⟨(some 8), .call ⟨(.value (.func 68)), #[(.tmp 6), (.tmp 7)], #[33, 3]⟩, none⟩,
    ⟨(some 1), .assign (.tmp 8), none⟩])
 (.seq (.reg [⟨(some 9), .fieldAddr 36 (.tmp 2) 1, none⟩,
     ⟨(some 10), .load 34 (.tmp 9), none⟩,
     ⟨(some 11), .move (.tmp 1), none⟩,
     ⟨(some 12), .call ⟨(.value (.func 69)), #[(.tmp 10), (.tmp 11)], #[34, 3]⟩, none⟩,
     ⟨(some 1), .assign (.tmp 12), none⟩])
  (.seq (.reg [⟨(some 13), .move (.tmp 1), none⟩,
      ⟨(some 4), .assign (.tmp 13), none⟩])
   .ret))))
theorem s27 : slimF Try.f27 = some (c27, [.t 4], 14) := by kernel_rfl
theorem o27 : okF [] Try.f27 = true := by kernel_rfl
def gm27 : Msem := fun a => match a with
  | [.agg [.sl 1 2 a0, .sl 1 3 a1], .int .i64 k] => ⟨((∀ x ∈ a0, x = .agg [.leaf, .leaf]) ∧ (∀ x ∈ a1, ∃ ys, x = .agg [.leaf, .leaf, .sl 1 1 ys] ∧ (∀ y ∈ ys, y = .leaf))) ∧ 0 ≤ k ∧ k + 2 * (a0.length : Int) + (a1.map cm69).sum ≤ 1152921504606846976, .int .i64 (k + 2 * (a0.length : Int) + (a1.map cm69).sum)⟩
  | _ => .no
@[go_sem] theorem gm27_eq {a0 a1 : List AV} {k : Int} : gm27 [.agg [.sl 1 2 a0, .sl 1 3 a1], .int .i64 k] = ⟨((∀ x ∈ a0, x = .agg [.leaf, .leaf]) ∧ (∀ x ∈ a1, ∃ ys, x = .agg [.leaf, .leaf, .sl 1 1 ys] ∧ (∀ y ∈ ys, y = .leaf))) ∧ 0 ≤ k ∧ k + 2 * (a0.length : Int) + (a1.map cm69).sum ≤ 1152921504606846976, .int .i64 (k + 2 * (a0.length : Int) + (a1.map cm69).sum)⟩ := rfl
theorem pm27 : ∀ args, (gm27 args).c → MSat Try.prog 27 args (gm27 args).v := by
  intro args hc
  by_cases h : ∃ a0 a1 k, args = [.agg [.sl 1 2 a0, .sl 1 3 a1], .int .i64 k]
  · obtain ⟨a0, a1, k, rfl⟩ := h
    obtain ⟨⟨h0, h1⟩, hk0, hk1⟩ : ((∀ x ∈ a0, x = .agg [.leaf, .leaf]) ∧ (∀ x ∈ a1, ∃ ys, x = .agg [.leaf, .leaf, .sl 1 1 ys] ∧ (∀ y ∈ ys, y = .leaf))) ∧ 0 ≤ k ∧ k + 2 * (a0.length : Int) + (a1.map cm69).sum ≤ 1152921504606846976 := hc
    have e0 : (∀ x ∈ a0, x = .agg [.leaf, .leaf]) = True := eq_true h0
    have u0 := eq_true (mu68 h0)
    have n0 : 0 ≤ 2 * (a0.length : Int) := by omega
    have e1 : (∀ x ∈ a1, ∃ ys, x = .agg [.leaf, .leaf, .sl 1 1 ys] ∧ (∀ y ∈ ys, y = .leaf)) = True := eq_true h1
    have u1 := eq_true (mu69 h1)
    have n1 : 0 ≤ (a1.map cm69).sum := by have := (take_sum_le (f := cm69) cm69_nn (xs := a1) (i := a1.length)); omega
    have p0 : 0 ≤ k + 2 * (a0.length : Int) := by omega
    have q0 : k + 2 * (a0.length : Int) ≤ 1152921504606846976 := by omega
    have p1 : 0 ≤ k + 2 * (a0.length : Int) + (a1.map cm69).sum := by omega
    have q1 : k + 2 * (a0.length : Int) + (a1.map cm69).sum ≤ 1152921504606846976 := by omega
    show MSat Try.prog 27 [.agg [.sl 1 2 a0, .sl 1 3 a1], .int .i64 k] (.int .i64 (k + 2 * (a0.length : Int) + (a1.map cm69).sum))
    have hM : MTable Try.prog [(68, gm68), (69, gm69)] := (.cons pm68 (.cons pm69 .nil))
    refine MSat.of_body hM Try.func27 s27 o27 (by simp) ?_
    simp (config := {contextual := true, maxSteps := 4000000, implicitDefEqProofs := false}) [c27, go_sem, hk0, e0, u0, e1, u1, p0, q0, p1, q1, ← Int.add_assoc] <;> omega
  · exfalso
    unfold gm27 at hc
    split at hc
    · exact h ⟨_, _, _, rfl⟩
    · exact hc
end Go.Ve
