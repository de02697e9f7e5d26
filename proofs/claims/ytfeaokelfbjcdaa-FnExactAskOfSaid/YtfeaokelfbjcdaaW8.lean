/- Contracts of the seat: marks. No condition. -/
import Derived.Test.YtfeaokelfbjcdaaV2
import Derived.Test.YtfeaokelfbjcdaaE31
namespace Go.Ve
open Go.Proofs Go.RowKit
set_option linter.unusedVariables false
set_option linter.unusedSimpArgs false
set_option maxRecDepth 10000
set_option maxHeartbeats 4000000
/- laws.markInt64S -/
def c25 : SCode := (.seq (.reg [⟨(some 4), .assign (.const (.int .i64 0)), none⟩])
(.seq (.seq (.reg [⟨(some 5), .assign (.const (.int .i64 0)), none⟩])
  (.block 0 (.loop (.seq (.seq (.reg [⟨(some 6), .move (.tmp 5), none⟩,
         ⟨(some 7), .move (.tmp 0), none⟩,
         ⟨(some 8), .call ⟨(.builtin .len), #[(.tmp 7)], #[22]⟩, none⟩,
         ⟨(some 9), .binOp .lss 3 (.tmp 6) (.tmp 8) 3, none⟩])
      (.cond (.tmp 9) .skip
       (.exit 0)))
     (.seq (.block 1 (.seq (.reg [⟨(some 12), .move (.tmp 0), none⟩,
           ⟨(some 13), .move (.tmp 5), none⟩,
           ⟨(some 14), .move (.tmp 1), none⟩,
           ⟨(some 15), .indexAddr 22 (.tmp 12) (.tmp 13), none⟩,
           ⟨none, .store 2 (.tmp 15) (.tmp 14), none⟩])
        (.reg [⟨(some 16), .move (.tmp 1), none⟩,
           ⟨(some 17), .binOp .add 3 (.tmp 16) (.const (.int .i64 1)) 3, none⟩,
           ⟨(some 1), .assign (.tmp 17), none⟩])))
      (.reg [⟨(some 10), .move (.tmp 5), none⟩,
         ⟨(some 11), .binOp .add 3 (.tmp 10) (.const (.int .i64 1)) 3, none⟩,
         ⟨(some 5), .assign (.tmp 11), none⟩]))))))
 (.seq (.reg [⟨(some 18), .move (.tmp 1), none⟩,
     ⟨(some 4), .assign (.tmp 18), none⟩])
  .ret)))
theorem s25 : slimF Try.f25 = some (c25, [.t 4], 19) := by kernel_rfl
theorem o25 : okF [] Try.f25 = true := by kernel_rfl
def gm25 : Msem := fun a => match a with
  | [.sl 1 1 xs, .int .i64 k] => ⟨(∀ x ∈ xs, x = .leaf) ∧ 0 ≤ k ∧ k + 1 * (xs.length : Int) ≤ 1152921504606846976, .int .i64 (k + 1 * (xs.length : Int))⟩
  | _ => .no
@[go_sem] theorem gm25_eq {xs : List AV} {k : Int} : gm25 [.sl 1 1 xs, .int .i64 k] = ⟨(∀ x ∈ xs, x = .leaf) ∧ 0 ≤ k ∧ k + 1 * (xs.length : Int) ≤ 1152921504606846976, .int .i64 (k + 1 * (xs.length : Int))⟩ := rfl
theorem mu25 {xs : List AV} (hx : (∀ x ∈ xs, x = .leaf)) : ∀ x ∈ xs, ∀ y ∈ x.cells, MuC y := fun x hx' y hy => by rw [hx x hx'] at hy; simp [AV.cells] at hy; subst hy; exact .leaf
theorem pm25 : ∀ args, (gm25 args).c → MSat Try.prog 25 args (gm25 args).v := by
  intro args hc
  by_cases h : ∃ xs k, args = [.sl 1 1 xs, .int .i64 k]
  · obtain ⟨xs, k, rfl⟩ := h
    obtain ⟨hx, hk0, hk1⟩ : (∀ x ∈ xs, x = .leaf) ∧ 0 ≤ k ∧ k + 1 * (xs.length : Int) ≤ 1152921504606846976 := hc
    have hmu := mu25 hx
    show MSat Try.prog 25 [.sl 1 1 xs, .int .i64 k] (.int .i64 (k + 1 * (xs.length : Int)))
    have hM : MTable Try.prog [] := .nil
    refine MSat.of_body hM Try.func25 s25 o25 (by simp) ?_
    simp (config := {contextual := true, maxSteps := 2000000, implicitDefEqProofs := false}) [c25, go_sem]
    refine MVW_for hM xs.length (fun i => ⟨[(0, .sl 1 1 xs), (1, .int .i64 (k + 1 * (i : Int))), (5, .int .i64 i)], []⟩) ?_ ?_
    · simp [SubI, go_sem]
    · intro i hi
      have h1 : (0 : Int) ≤ i := by omega
      by_cases hlt : i < xs.length
      · have h2 : (i : Int) < (xs.length : Int) := by omega
        have h3 : ¬ (xs.length : Int) ≤ (i : Int) := by omega
        generalize hK : k + 1 * (i : Int) = K
        have hn : nth xs i = .leaf := hx _ (nth_mem hlt)
        have hsum : k + 1 * ((i + 1 : Nat) : Int) = K + 1 := by rw [← hK]; omega
        have hK0 : 0 ≤ K := by omega
        have emu : (∀ x ∈ xs, ∀ y ∈ x.cells, MuC y) = True := eq_true hmu
        have hK1 : K + 1 ≤ 1152921504606846976 := by omega
        have hi2 : xs.length ≤ maxLen → IntKind.i64.wrap ((i : Int) + 1) = (i : Int) + 1 := fun h => wrap_ok (by omega) (by simp only [maxLen] at h; omega)
        have w1 : IntKind.i64.wrap (K + 1) = K + 1 := wrap_ok (by omega) (by omega)
        simp (config := {contextual := true, maxSteps := 2000000, implicitDefEqProofs := false}) [go_sem, hn, emu, h1, h2, h3, hi2, hsum, SubI, w1]
        intro _
        first | exact hlt | exact ⟨hlt, by omega⟩
      · obtain rfl : i = xs.length := by omega
        have h3 : ¬ (xs.length : Int) < (xs.length : Int) := by omega
        simp (config := {contextual := true, maxSteps := 2000000, implicitDefEqProofs := false}) [go_sem, h3]
  · exfalso
    unfold gm25 at hc
    split at hc
    · exact h ⟨_, _, rfl⟩
    · exact hc
/- laws.markIntervalS -/
def c34 : SCode := (.seq (.reg [⟨(some 4), .assign (.const (.int .i64 0)), none⟩])
(.seq (.seq (.reg [⟨(some 5), .assign (.const (.int .i64 0)), none⟩])
  (.block 0 (.loop (.seq (.seq (.reg [⟨(some 6), .move (.tmp 5), none⟩,
         ⟨(some 7), .move (.tmp 0), none⟩,
         ⟨(some 8), .call ⟨(.builtin .len), #[(.tmp 7)], #[33]⟩, none⟩,
         ⟨(some 9), .binOp .lss 3 (.tmp 6) (.tmp 8) 3, none⟩])
      (.cond (.tmp 9) .skip
       (.exit 0)))
     (.seq (.block 1 (.seq (.reg [⟨(some 12), .move (.tmp 0), none⟩,
           ⟨(some 13), .move (.tmp 5), none⟩,
           ⟨(some 14), .move (.tmp 1), none⟩,
           ⟨(some 15), .indexAddr 33 (.tmp 12) (.tmp 13), none⟩,
           ⟨(some 16), .fieldAddr 43 (.tmp 15) 0, none⟩,
           ⟨none, .store 2 (.tmp 16) (.tmp 14), none⟩])
        (.seq (.reg [⟨(some 17), .move (.tmp 1), none⟩,
            ⟨(some 18), .binOp .add 3 (.tmp 17) (.const (.int .i64 1)) 3, none⟩,
            ⟨(some 1), .assign (.tmp 18), none⟩])
         (.seq (.reg [⟨(some 19), .move (.tmp 0), none⟩,
             ⟨(some 20), .move (.tmp 5), none⟩,
             ⟨(some 21), .move (.tmp 1), none⟩,
             ⟨(some 22), .indexAddr 33 (.tmp 19) (.tmp 20), none⟩,
             ⟨(some 23), .fieldAddr 43 (.tmp 22) 1, none⟩,
             ⟨none, .store 2 (.tmp 23) (.tmp 21), none⟩])
          (.seq (.reg [⟨(some 24), .move (.tmp 1), none⟩,
              ⟨(some 25), .binOp .add 3 (.tmp 24) (.const (.int .i64 1)) 3, none⟩,
              ⟨(some 1), .assign (.tmp 25), none⟩])
           (.seq (.reg [⟨(some 26), .move (.tmp 0), none⟩,
               ⟨(some 27), .move (.tmp 5), none⟩,
               ⟨(some 28), .indexAddr 33 (.tmp 26) (.tmp 27), none⟩,
               ⟨(some 29), .fieldAddr 43 (.tmp 28) 2, none⟩,
               ⟨(some 30), .load 22 (.tmp 29), none⟩,
               ⟨(some 31), .move (.tmp 1), none⟩,
               ⟨(some 32), .call ⟨(.value (.func 25)), #[(.tmp 30), (.tmp 31)], #[22, 3]⟩, none⟩,
               ⟨(some 1), .assign (.tmp 32), none⟩])
            (.seq (.reg [⟨(some 33), .move (.tmp 0), none⟩,
                ⟨(some 34), .move (.tmp 5), none⟩,
                ⟨(some 35), .move (.tmp 1), none⟩,
                ⟨(some 36), .binOp .rem 3 (.tmp 35) (.const (.int .i64 3)) 3, none⟩,
                ⟨(some 37), .binOp .eql 3 (.tmp 36) (.const (.int .i64 0)) 3, none⟩,
                ⟨(some 38), .indexAddr 33 (.tmp 33) (.tmp 34), none⟩,
                ⟨(some 39), .fieldAddr 43 (.tmp 38) 3, none⟩,
                ⟨none, .store 4 (.tmp 39) (.tmp 37), none⟩])
             (.reg [⟨(some 40), .move (.tmp 1), none⟩,
                ⟨(some 41), .binOp .add 3 (.tmp 40) (.const (.int .i64 1)) 3, none⟩,
                ⟨(some 1), .assign (.tmp 41), none⟩]))))))))
      (.reg [⟨(some 10), .move (.tmp 5), none⟩,
         ⟨(some 11), .binOp .add 3 (.tmp 10) (.const (.int .i64 1)) 3, none⟩,
         ⟨(some 5), .assign (.tmp 11), none⟩]))))))
 (.seq (.reg [⟨(some 42), .move (.tmp 1), none⟩,
     ⟨(some 4), .assign (.tmp 42), none⟩])
  .ret)))
theorem s34 : slimF Try.f34 = some (c34, [.t 4], 43) := by kernel_rfl
theorem o34 : okF [] Try.f34 = true := by kernel_rfl
def cm34 : AV → Int
  | .agg [_, _, .sl _ _ ys, _] => 3 + (ys.length : Int)
  | _ => 0
theorem cm34_nn (x : AV) : 0 ≤ cm34 x := by
  unfold cm34
  split <;> omega
def gm34 : Msem := fun a => match a with
  | [.sl 1 4 xs, .int .i64 k] => ⟨(∀ x ∈ xs, ∃ ys, x = .agg [.leaf, .leaf, .sl 1 1 ys, .leaf] ∧ (∀ y ∈ ys, y = .leaf)) ∧ 0 ≤ k ∧ k + (xs.map cm34).sum ≤ 1152921504606846976, .int .i64 (k + (xs.map cm34).sum)⟩
  | _ => .no
@[go_sem] theorem gm34_eq {xs : List AV} {k : Int} : gm34 [.sl 1 4 xs, .int .i64 k] = ⟨(∀ x ∈ xs, ∃ ys, x = .agg [.leaf, .leaf, .sl 1 1 ys, .leaf] ∧ (∀ y ∈ ys, y = .leaf)) ∧ 0 ≤ k ∧ k + (xs.map cm34).sum ≤ 1152921504606846976, .int .i64 (k + (xs.map cm34).sum)⟩ := rfl
theorem mu34 {xs : List AV} (hx : (∀ x ∈ xs, ∃ ys, x = .agg [.leaf, .leaf, .sl 1 1 ys, .leaf] ∧ (∀ y ∈ ys, y = .leaf))) : ∀ x ∈ xs, ∀ y ∈ x.cells, MuC y := fun x hx' y hy => by
      obtain ⟨ys, rfl, hys⟩ := hx x hx'
      simp only [AV.cells, List.mem_cons, List.not_mem_nil, or_false] at hy
      have hsl : MuC (.sl 1 1 ys) := muC_sl.2 fun x hx'' y hy' => by rw [hys x hx''] at hy'; simp [AV.cells] at hy'; subst hy'; exact .leaf
      first
        | (rcases hy with rfl | rfl | rfl | rfl | rfl <;> first | exact .leaf | exact hsl)
        | (rcases hy with rfl | rfl | rfl | rfl <;> first | exact .leaf | exact hsl)
        | (rcases hy with rfl | rfl | rfl <;> first | exact .leaf | exact hsl)
        | (rcases hy with rfl | rfl <;> first | exact .leaf | exact hsl)
        | (subst hy; exact hsl)
theorem pm34 : ∀ args, (gm34 args).c → MSat Try.prog 34 args (gm34 args).v := by
  intro args hc
  by_cases h : ∃ xs k, args = [.sl 1 4 xs, .int .i64 k]
  · obtain ⟨xs, k, rfl⟩ := h
    obtain ⟨hx, hk0, hk1⟩ : (∀ x ∈ xs, ∃ ys, x = .agg [.leaf, .leaf, .sl 1 1 ys, .leaf] ∧ (∀ y ∈ ys, y = .leaf)) ∧ 0 ≤ k ∧ k + (xs.map cm34).sum ≤ 1152921504606846976 := hc
    have hmu := mu34 hx
    show MSat Try.prog 34 [.sl 1 4 xs, .int .i64 k] (.int .i64 (k + (xs.map cm34).sum))
    have hM : MTable Try.prog [(25, gm25)] := (.cons pm25 .nil)
    refine MSat.of_body hM Try.func34 s34 o34 (by simp) ?_
    simp (config := {contextual := true, maxSteps := 2000000, implicitDefEqProofs := false}) [c34, go_sem]
    refine MVW_for hM xs.length (fun i => ⟨[(0, .sl 1 4 xs), (1, .int .i64 (k + ((xs.map cm34).take i).sum)), (5, .int .i64 i)], []⟩) ?_ ?_
    · simp [SubI, go_sem]
    · intro i hi
      have h1 : (0 : Int) ≤ i := by omega
      by_cases hlt : i < xs.length
      · have h2 : (i : Int) < (xs.length : Int) := by omega
        have h3 : ¬ (xs.length : Int) ≤ (i : Int) := by omega
        generalize hK : k + ((xs.map cm34).take i).sum = K
        obtain ⟨ys, hn, hy⟩ := hx _ (nth_mem hlt)
        have hcm : cm34 (nth xs i) = 3 + (ys.length : Int) := by rw [hn]; rfl
        have hts := take_sum (f := cm34) hlt
        have htl := (take_sum_le (f := cm34) cm34_nn (xs := xs) (i := i + 1)).2
        have htn := (take_sum_le (f := cm34) cm34_nn (xs := xs) (i := i)).1
        have hsum : k + ((xs.map cm34).take (i + 1)).sum = K + 1 + 1 + (ys.length : Int) + 1 := by rw [← hK, hts, hcm]; omega
        have hyl : K + 1 + 1 + (ys.length : Int) ≤ 1152921504606846976 := by omega
        have hyk : 0 ≤ K + 1 + 1 := by omega
        have ehy : (∀ y ∈ ys, y = .leaf) = True := eq_true hy
        have hmy : ∀ x ∈ ys, ∀ y ∈ x.cells, MuC y := fun x hx' y hy' => by rw [hy x hx'] at hy'; simp [AV.cells] at hy'; subst hy'; exact .leaf
        have emy : (∀ x ∈ ys, ∀ y ∈ x.cells, MuC y) = True := eq_true hmy
        have hK0 : 0 ≤ K := by omega
        have emu : (∀ x ∈ xs, ∀ y ∈ x.cells, MuC y) = True := eq_true hmu
        have hK1 : K + 1 + 1 + 1 ≤ 1152921504606846976 := by omega
        have hi2 : xs.length ≤ maxLen → IntKind.i64.wrap ((i : Int) + 1) = (i : Int) + 1 := fun h => wrap_ok (by omega) (by simp only [maxLen] at h; omega)
        have w1 : IntKind.i64.wrap (K + 1) = K + 1 := wrap_ok (by omega) (by omega)
        have w2 : IntKind.i64.wrap (K + 1 + 1) = K + 1 + 1 := wrap_ok (by omega) (by omega)
        have w3 : IntKind.i64.wrap (K + 1 + 1 + (ys.length : Int) + 1) = K + 1 + 1 + (ys.length : Int) + 1 := wrap_ok (by omega) (by omega)
        simp (config := {contextual := true, maxSteps := 2000000, implicitDefEqProofs := false}) [go_sem, hn, emu, h1, h2, h3, hi2, hsum, SubI, w1, w2, w3, hyl, hyk, emy, ehy]
        intro _
        first | exact hlt | exact ⟨hlt, by omega⟩
      · obtain rfl : i = xs.length := by omega
        have h3 : ¬ (xs.length : Int) < (xs.length : Int) := by omega
        have htk : (xs.map cm34).take xs.length = xs.map cm34 := List.take_of_length_le (by simp)
        simp (config := {contextual := true, maxSteps := 2000000, implicitDefEqProofs := false}) [go_sem, h3, htk]
  · exfalso
    unfold gm34 at hc
    split at hc
    · exact h ⟨_, _, rfl⟩
    · exact hc
def mkI : Int → Nat → List Int
  | _, 0 => []
  | k, n + 1 => k :: mkI (k + 1) n
theorem mkI_len : ∀ {k : Int} {n : Nat}, (mkI k n).length = n
  | _, 0 => rfl
  | k, n + 1 => by simp only [mkI, List.length_cons, mkI_len (n := n)]
theorem mkI_one : ∀ {k : Int} {n : Nat}, mkI k (n + 1) = mkI k n ++ [k + (n : Int)]
  | k, 0 => by simp [mkI]
  | k, n + 1 => by
    rw [mkI, mkI_one (n := n)]
    simp only [mkI, List.cons_append, List.cons.injEq, true_and, List.append_cancel_left_eq, and_true]
    omega
def hldI : Int → List Int → Int
  | k, [] => k
  | k, x :: l => if x = k then hldI (k + 1) l else -1
theorem hldI_mkI : ∀ {k : Int} {n : Nat}, hldI k (mkI k n) = k + (n : Int)
  | k, 0 => by simp [mkI, hldI]
  | k, n + 1 => by
    simp only [mkI, hldI, if_true, hldI_mkI (n := n)]
    omega
theorem sat_25 {n : Nat} (h2 : 2 ≤ n) {k : Int} {ls : List Int} (hk0 : 0 ≤ k) (hk1 : k + (ls.length : Int) ≤ 1152921504606846976) : SatM Try.prog n 25 [.row 2 1 (ls.map (AV.int .i64))] [.osl 0 1 0 ls.length, .int .i64 k] [.row 2 1 ((mkI k ls.length).map (AV.int .i64))] (.int .i64 (k + (ls.length : Int))) := by
  have hT : Table Try.prog [] := .nil
  have hn0 : n ≠ 0 := by omega
  refine SatM.of_bodyV hT hm Try.func25 s25 o25 h2 (by simp) ?_
  simp (config := {contextual := true, maxSteps := 2000000, implicitDefEqProofs := false}) [c25, go_sem]
  refine VW_listKE [] [0] hT h2 hm ls [0] (fun pre post (u0 : Unit) => [.row 2 1 ((mkI k pre.length).map (AV.int .i64) ++ post.map (AV.int .i64))]) (fun pre post (u0 : Unit) => [(5, .int .i64 pre.length), (1, .int .i64 (k + (pre.length : Int)))]) (fun pre post (u0 : Unit) => True) () ?_ ?_ ?_ ?_
  · trivial
  · simp [SubE, SubR, go_sem, mkI]
  · intro _ _
    have hfin : (mkI k ls.length).length = ls.length := mkI_len
    simp (config := {contextual := true, maxSteps := 2000000, implicitDefEqProofs := false}) [go_sem]
    intro _
    refine ⟨_, [0], Sub.refl 1 _, ?_⟩
    simp [retM, resAV, rvV, rinOf, Root.rnp, AV.rnp, AV.rnp2, AV.rnp1, AV.rnp0, posOf, go_sem, Rz, nz_int, nz_osl, nz_tup]
  · rintro pre x post _ hl hlen _
    have hA : ((mkI k pre.length).map (AV.int .i64)).length = pre.length := by rw [List.length_map, mkI_len]
    have hone : (mkI k (pre.length + 1)).map (AV.int .i64) = (mkI k pre.length).map (AV.int .i64) ++ [.int .i64 (k + (pre.length : Int))] := by
      rw [mkI_one]; simp
    have hlen2 : (ls.length : Int) = (pre.length : Int) + ((post.length : Int) + 1) := by omega
    have hll : (mkI k pre.length).length = pre.length := mkI_len
    generalize (mkI k pre.length).map (AV.int .i64) = A at *
    have hnA : ∀ y : AV, nth (A ++ y :: List.map (AV.int .i64) post) pre.length = y := fun y => by rw [← hA]; simp [go_sem]
    have hsA : ∀ y z : AV, (A ++ y :: List.map (AV.int .i64) post).set pre.length z = A ++ z :: List.map (AV.int .i64) post := fun y z => by rw [← hA]; simp
    have hAl : ∀ y : AV, (A ++ y :: List.map (AV.int .i64) post).length = A.length + (post.length + 1) := fun y => by simp
    have w1 : IntKind.i64.wrap (k + (pre.length : Int) + 1) = k + (pre.length : Int) + 1 := wrap_ok (by omega) (by omega)
    have w3 : ls.length ≤ maxLen → IntKind.i64.wrap ((pre.length : Int) + 1) = (pre.length : Int) + 1 := fun h => wrap_ok (by omega) (by simp only [maxLen] at h; omega)
    have h3 : (0 : Int) ≤ pre.length := by omega
    have h4 : (pre.length : Int) < (ls.length : Int) := by omega
    have h5 : ¬ (ls.length : Int) ≤ (pre.length : Int) := by omega
    have h6 : pre.length < A.length + (post.length + 1) := by omega
    have h7 : (k + (((pre ++ [x]).length : Nat) : Int)) = k + (pre.length : Int) + 1 := by simp; omega
    simp (config := {contextual := true, maxSteps := 2000000, implicitDefEqProofs := false}) [go_sem, hnA, hsA, hAl, w1, w3, h3, h4, h5, h6, hone, SubE, SubR, setEl]
    intros
    omega
/- laws.heldInt64S -/
def c26 : SCode := (.seq (.reg [⟨(some 4), .assign (.const (.int .i64 0)), none⟩])
(.seq (.seq (.reg [⟨(some 5), .assign (.const (.int .i64 0)), none⟩])
  (.block 0 (.loop (.seq (.seq (.reg [⟨(some 6), .move (.tmp 5), none⟩,
         ⟨(some 7), .move (.tmp 0), none⟩,
         ⟨(some 8), .call ⟨(.builtin .len), #[(.tmp 7)], #[22]⟩, none⟩,
         ⟨(some 9), .binOp .lss 3 (.tmp 6) (.tmp 8) 3, none⟩])
      (.cond (.tmp 9) .skip
       (.exit 0)))
     (.seq (.block 1 (.seq (.seq (.reg [⟨(some 12), .move (.tmp 0), none⟩,
            ⟨(some 13), .move (.tmp 5), none⟩,
            ⟨(some 14), .indexAddr 22 (.tmp 12) (.tmp 13), none⟩,
            ⟨(some 15), .load 2 (.tmp 14), none⟩,
            ⟨(some 16), .move (.tmp 1), none⟩,
            ⟨(some 17), .binOp .neq 2 (.tmp 15) (.tmp 16) 2, none⟩])
         (.cond (.tmp 17) (.seq (.reg [⟨(some 4), .assign (.const (.int .i64 (-1))), none⟩])
           .ret)
          .skip))
        (.reg [⟨(some 18), .move (.tmp 1), none⟩,
           ⟨(some 19), .binOp .add 3 (.tmp 18) (.const (.int .i64 1)) 3, none⟩,
           ⟨(some 1), .assign (.tmp 19), none⟩])))
      (.reg [⟨(some 10), .move (.tmp 5), none⟩,
         ⟨(some 11), .binOp .add 3 (.tmp 10) (.const (.int .i64 1)) 3, none⟩,
         ⟨(some 5), .assign (.tmp 11), none⟩]))))))
 (.seq (.reg [⟨(some 20), .move (.tmp 1), none⟩,
     ⟨(some 4), .assign (.tmp 20), none⟩])
  .ret)))
theorem s26 : slimF Try.f26 = some (c26, [.t 4], 21) := by kernel_rfl
theorem o26 : okF [] Try.f26 = true := by kernel_rfl
noncomputable def g26 : Fsem := sem2 (En.int .i64).list (En.int .i64) (fun ls k => 0 ≤ k ∧ k + (ls.length : Int) ≤ 1152921504606846976) (fun n ls k => .int .i64 (hldI k ls))
@[go_sem] theorem g26_eq {n τ : Nat} {ls : List Int} {k : Int} : g26 n [.sl τ 1 (ls.map (AV.int .i64)), .int .i64 k] = ⟨0 ≤ k ∧ k + (ls.length : Int) ≤ 1152921504606846976, .int .i64 (hldI k ls)⟩ := sem2_eq (τ' := 0) (E := (En.int .i64).list) (F := (En.int .i64))
theorem p26 : Pure Try.prog 26 g26 := by
  refine sem2_pure fun τ τ' ls k n h2 hpre => ?_
  have hT : Table Try.prog [] := .nil
  have hn0 : n ≠ 0 := by omega
  refine SatP.of_body hT hm Try.func26 s26 o26 h2 (by simp) ?_
  obtain ⟨p1, p2⟩ := hpre
  generalize hr : hldI k ls = r
  simp (config := {contextual := true, maxSteps := 2000000, implicitDefEqProofs := false}) [c26, go_sem]
  refine VW_listK hT h2 hm ls [0] (fun pre post (b : Int) => [(5, .int .i64 pre.length), (1, .int .i64 b)]) (fun pre post (b : Int) => hldI b post = r ∧ b = k + (pre.length : Int)) k ?_ ?_ ?_ ?_
  · exact ⟨hr, by simp⟩
  · simp [SubI, go_sem]
  · rintro b ⟨hR, hb⟩
    simp (config := {contextual := true, maxSteps := 2000000, implicitDefEqProofs := false}) [go_sem]
    intro _
    simpa [hldI] using hR
  · rintro pre x post b hl hlen ⟨hR, hb⟩
    have hln : ls.length = pre.length + (post.length + 1) := by rw [← hl]; simp
    have hn : nth (List.map (AV.int .i64) ls) (pre.length) = (AV.int .i64) x := by rw [← hl]; simp [go_sem]
    have hw : ls.length ≤ maxLen → IntKind.i64.wrap ((pre.length : Int) + 1) = (pre.length : Int) + 1 := fun h => wrap_ok (by omega) (by simp only [maxLen] at h; omega)
    have h3 : (0 : Int) ≤ (pre.length : Int) := by omega
    have h4 : (pre.length : Int) < (ls.length : Int) := by omega
    have h5 : ¬ (ls.length : Int) ≤ (pre.length : Int) := by omega
    have w1 : IntKind.i64.wrap (b + 1) = b + 1 := wrap_ok (by omega) (by omega)
    simp only [hldI] at hR
    simp (config := {contextual := true, maxSteps := 2000000, implicitDefEqProofs := false}) [go_sem, hn, hw, h3, h4, h5, w1, SubI]
    intro _
    exact ⟨fun h => by rw [if_neg h] at hR; exact hR, fun h => ⟨by rw [if_pos h] at hR; exact hR, by omega⟩⟩
end Go.Ve
