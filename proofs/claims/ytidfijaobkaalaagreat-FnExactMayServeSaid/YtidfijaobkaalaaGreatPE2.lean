/- The texts of this claim, part PE 2: the engine that runs the code on values, the data, the contracts. No condition. -/
import Derived.Test.YtidfijaobkaalaaGreatPE1
namespace Go.Ve
open Go.Proofs Go.RowKit
set_option linter.unusedVariables false
set_option linter.unusedSimpArgs false
set_option maxRecDepth 10000
set_option maxHeartbeats 4000000
theorem and64_0 : vbits .and .u64 0 4294967295 = 0 := by decide +kernel
theorem and64_1 : vbits .and .u64 1 4294967295 = 1 := by decide +kernel
theorem and64_2 : vbits .and .u64 2 4294967295 = 2 := by decide +kernel
theorem and64_3 : vbits .and .u64 3 4294967295 = 3 := by decide +kernel
theorem and64_4 : vbits .and .u64 4 4294967295 = 4 := by decide +kernel
theorem and64_5 : vbits .and .u64 5 4294967295 = 5 := by decide +kernel
theorem and64_6 : vbits .and .u64 6 4294967295 = 6 := by decide +kernel
theorem and64_7 : vbits .and .u64 7 4294967295 = 7 := by decide +kernel
def c232 : SCode := (.seq (.reg [⟨(some 4), .assign (.const (.int .u64 0)), none⟩,
   ⟨(some 5), .assign (.const (.int .u64 0)), none⟩])
(.seq (.reg [⟨(some 14), .move (.tmp 0), none⟩,
    ⟨(some 15), .binOp .and 170 (.tmp 14) (.const (.int .u64 4294967295)) 170, none⟩,
    ⟨(some 6), .assign (.tmp 15), none⟩])
 (.seq (.reg [⟨(some 16), .move (.tmp 0), none⟩,
     ⟨(some 17), .binOp .shr 170 (.tmp 16) (.const (.int .u64 32)) 208, none⟩,
     ⟨(some 7), .assign (.tmp 17), none⟩])
  (.seq (.reg [⟨(some 18), .move (.tmp 1), none⟩,
      ⟨(some 19), .binOp .and 170 (.tmp 18) (.const (.int .u64 4294967295)) 170, none⟩,
      ⟨(some 8), .assign (.tmp 19), none⟩])
   (.seq (.reg [⟨(some 20), .move (.tmp 1), none⟩,
       ⟨(some 21), .binOp .shr 170 (.tmp 20) (.const (.int .u64 32)) 208, none⟩,
       ⟨(some 9), .assign (.tmp 21), none⟩])
    (.seq (.reg [⟨(some 22), .move (.tmp 6), none⟩,
        ⟨(some 23), .move (.tmp 8), none⟩,
        ⟨(some 24), .binOp .mul 170 (.tmp 22) (.tmp 23) 170, none⟩,
        ⟨(some 10), .assign (.tmp 24), none⟩])
     (.seq (.reg [⟨(some 25), .move (.tmp 7), none⟩,
         ⟨(some 26), .move (.tmp 8), none⟩,
         ⟨(some 27), .binOp .mul 170 (.tmp 25) (.tmp 26) 170, none⟩,
         ⟨(some 28), .move (.tmp 10), none⟩,
         ⟨(some 29), .binOp .shr 170 (.tmp 28) (.const (.int .u64 32)) 208, none⟩,
         ⟨(some 30), .binOp .add 170 (.tmp 27) (.tmp 29) 170, none⟩,
         ⟨(some 11), .assign (.tmp 30), none⟩])
      (.seq (.reg [⟨(some 31), .move (.tmp 11), none⟩,
          ⟨(some 32), .binOp .and 170 (.tmp 31) (.const (.int .u64 4294967295)) 170, none⟩,
          ⟨(some 12), .assign (.tmp 32), none⟩])
       (.seq (.reg [⟨(some 33), .move (.tmp 11), none⟩,
           ⟨(some 34), .binOp .shr 170 (.tmp 33) (.const (.int .u64 32)) 208, none⟩,
           ⟨(some 13), .assign (.tmp 34), none⟩])
        (.seq (.reg [⟨(some 35), .move (.tmp 12), none⟩,
            ⟨(some 36), .move (.tmp 6), none⟩,
            ⟨(some 37), .move (.tmp 9), none⟩,
            ⟨(some 38), .binOp .mul 170 (.tmp 36) (.tmp 37) 170, none⟩,
            ⟨(some 39), .binOp .add 170 (.tmp 35) (.tmp 38) 170, none⟩,
            ⟨(some 12), .assign (.tmp 39), none⟩])
         (.seq (.reg [⟨(some 40), .move (.tmp 7), none⟩,
             ⟨(some 41), .move (.tmp 9), none⟩,
             ⟨(some 42), .binOp .mul 170 (.tmp 40) (.tmp 41) 170, none⟩,
             ⟨(some 43), .move (.tmp 13), none⟩,
             ⟨(some 44), .binOp .add 170 (.tmp 42) (.tmp 43) 170, none⟩,
             ⟨(some 45), .move (.tmp 12), none⟩,
             ⟨(some 46), .binOp .shr 170 (.tmp 45) (.const (.int .u64 32)) 208, none⟩,
             ⟨(some 47), .binOp .add 170 (.tmp 44) (.tmp 46) 170, none⟩,
             ⟨(some 4), .assign (.tmp 47), none⟩])
          (.seq (.reg [⟨(some 48), .move (.tmp 0), none⟩,
              ⟨(some 49), .move (.tmp 1), none⟩,
              ⟨(some 50), .binOp .mul 170 (.tmp 48) (.tmp 49) 170, none⟩,
              ⟨(some 5), .assign (.tmp 50), none⟩])
           .ret))))))))))))
theorem s232 : slimF Tryz.f232 = some (c232, [.t 4, .t 5], 51) := by kernel_rfl
theorem o232 : okF [] Tryz.f232 = true := by kernel_rfl
noncomputable def g232 : Fsem := sem2 (En.int .u64) (En.int .u64) (fun x y => x = 1 ∧ 0 ≤ y ∧ y ≤ 7) (fun n x y => .tup [.int .u64 0, .int .u64 y])
@[go_sem] theorem g232_eq {n : Nat} {x : Int} {y : Int} : g232 n [.int .u64 x, .int .u64 y] = ⟨x = 1 ∧ 0 ≤ y ∧ y ≤ 7, .tup [.int .u64 0, .int .u64 y]⟩ := sem2_eq (τ := 0) (τ' := 0) (E := (En.int .u64)) (F := (En.int .u64))
theorem p232 : Pure Tryz.prog 232 g232 := by
  refine sem2_pure fun τ τ' x y n h2 hpre => ?_
  have hT : Table Tryz.prog [] := .nil
  have hn0 : n ≠ 0 := by omega
  refine SatP.of_body hT hm Tryz.func232 s232 o232 h2 (by simp) ?_
  obtain ⟨rfl, h0, h7⟩ := hpre
  have h8 : y = 0 ∨ y = 1 ∨ y = 2 ∨ y = 3 ∨ y = 4 ∨ y = 5 ∨ y = 6 ∨ y = 7 := by omega
  rcases h8 with rfl | rfl | rfl | rfl | rfl | rfl | rfl | rfl <;> (simp (config := {contextual := true, maxSteps := 2000000, implicitDefEqProofs := false}) [c232, go_sem, and64_0, and64_1, and64_2, and64_3, and64_4, and64_5, and64_6, and64_7]; decide +kernel)
def c223 : SCode := (.seq (.reg [⟨(some 4), .assign (.const (.int .u64 0)), none⟩,
   ⟨(some 5), .assign (.const (.int .u64 0)), none⟩])
(.seq (.cond (.const (.bool false)) (.seq (.reg [⟨(some 11), .move (.tmp 0), none⟩,
      ⟨(some 12), .convert 208 219 (.tmp 11), none⟩,
      ⟨(some 13), .move (.tmp 1), none⟩,
      ⟨(some 14), .convert 208 219 (.tmp 13), none⟩,
      ⟨(some 15), .call ⟨(.value (.func 231)), #[(.tmp 12), (.tmp 14)], #[219, 219]⟩, none⟩,
      ⟨(some 10), .move (.tmp 15), none⟩,
      ⟨(some 16), .extract (.tmp 10) 0, none⟩,
      ⟨(some 17), .extract (.tmp 10) 1, none⟩,
      ⟨(some 6), .assign (.tmp 16), none⟩,
      ⟨(some 7), .assign (.tmp 17), none⟩])
   (.seq (.reg [⟨(some 18), .move (.tmp 6), none⟩,
       ⟨(some 19), .convert 219 208 (.tmp 18), none⟩,
       ⟨(some 20), .move (.tmp 7), none⟩,
       ⟨(some 21), .convert 219 208 (.tmp 20), none⟩,
       ⟨(some 4), .assign (.tmp 19), none⟩,
       ⟨(some 5), .assign (.tmp 21), none⟩])
    .ret))
  .skip)
 (.seq (.reg [⟨(some 23), .move (.tmp 0), none⟩,
     ⟨(some 24), .move (.tmp 1), none⟩,
     ⟨(some 25), .call ⟨(.value (.func 232)), #[(.tmp 23), (.tmp 24)], #[170, 170]⟩, none⟩,
     ⟨(some 22), .move (.tmp 25), none⟩,
     ⟨(some 26), .extract (.tmp 22) 0, none⟩,
     ⟨(some 27), .extract (.tmp 22) 1, none⟩,
     ⟨(some 8), .assign (.tmp 26), none⟩,
     ⟨(some 9), .assign (.tmp 27), none⟩])
  (.seq (.reg [⟨(some 28), .move (.tmp 8), none⟩,
      ⟨(some 29), .move (.tmp 9), none⟩,
      ⟨(some 4), .assign (.tmp 28), none⟩,
      ⟨(some 5), .assign (.tmp 29), none⟩])
   .ret))))
theorem s223 : slimF Tryz.f223 = some (c223, [.t 4, .t 5], 30) := by kernel_rfl
theorem o223 : okF [(232, g232)] Tryz.f223 = true := by kernel_rfl
noncomputable def g223 : Fsem := sem2 (En.int .u64) (En.int .u64) (fun x y => x = 1 ∧ 0 ≤ y ∧ y ≤ 7) (fun n x y => .tup [.int .u64 0, .int .u64 y])
@[go_sem] theorem g223_eq {n : Nat} {x : Int} {y : Int} : g223 n [.int .u64 x, .int .u64 y] = ⟨x = 1 ∧ 0 ≤ y ∧ y ≤ 7, .tup [.int .u64 0, .int .u64 y]⟩ := sem2_eq (τ := 0) (τ' := 0) (E := (En.int .u64)) (F := (En.int .u64))
theorem p223 : Pure Tryz.prog 223 g223 := by
  refine sem2_pure fun τ τ' x y n h2 hpre => ?_
  have hT : Table Tryz.prog [(232, g232)] := (.cons p232 .nil)
  have hn0 : n ≠ 0 := by omega
  refine SatP.of_body hT hm Tryz.func223 s223 o223 h2 (by simp) ?_
  obtain ⟨rfl, h0, h7⟩ := hpre
  simp (config := {contextual := true, maxSteps := 2000000, implicitDefEqProofs := false}) [c223, go_sem, h0, h7]
def rp (M b : Nat) : List AV := List.replicate b (.int .i64 (-1)) ++ List.replicate (M - b) (.int .i64 0)
@[go_sem] theorem rp_len {M b : Nat} (h : b ≤ M) : (rp M b).length = M := by simp [rp]; omega
theorem rp_fin {M : Nat} : rp M M = List.replicate M (.int .i64 (-1)) := by simp [rp]
theorem rp_take {M b : Nat} : (rp M b).take b = List.replicate b (.int .i64 (-1)) := by simp [rp]
theorem rp_step {M b c : Nat} (hc : c ≤ b) : (rp M b).take b ++ (((rp M b).take b).take c ++ (rp M b).drop (b + c)) = rp M (b + c) := by
  rw [rp_take, List.take_replicate, Nat.min_eq_left hc]
  simp [rp, List.drop_append, ← List.append_assoc, List.replicate_append_replicate, Nat.sub_sub]
def c206 : SCode := (.seq (.reg [⟨(some 4), .assign (.const (.slice none 0 0)), none⟩])
(.seq (.seq (.reg [⟨(some 9), .move (.tmp 1), none⟩,
     ⟨(some 10), .binOp .lss 3 (.tmp 9) (.const (.int .i64 0)) 3, none⟩])
  (.cond (.tmp 10) (.reg [⟨(some 11), .makeInterface 9 (.const (.string ⟨#[99, 97, 110, 110, 111, 116, 32, 98, 101, 32, 110, 101, 103, 97, 116, 105, 118, 101]⟩)), none⟩,
      ⟨none, .panic (.tmp 11), none⟩])
   .skip))
 (.seq (.reg [⟨(some 13), .move (.tmp 0), none⟩,
     ⟨(some 14), .call ⟨(.builtin .len), #[(.tmp 13)], #[28]⟩, none⟩,
     ⟨(some 15), .convert 3 208 (.tmp 14), none⟩,
     ⟨(some 16), .move (.tmp 1), none⟩,
     ⟨(some 17), .convert 3 208 (.tmp 16), none⟩,
     ⟨(some 18), .call ⟨(.value (.func 223)), #[(.tmp 15), (.tmp 17)], #[208, 208]⟩, none⟩,
     ⟨(some 12), .move (.tmp 18), none⟩,
     ⟨(some 19), .extract (.tmp 12) 0, none⟩,
     ⟨(some 20), .extract (.tmp 12) 1, none⟩,
     ⟨(some 5), .assign (.tmp 19), none⟩,
     ⟨(some 6), .assign (.tmp 20), none⟩])
  (.seq (.seq (.reg [⟨(some 21), .move (.tmp 5), none⟩,
       ⟨(some 22), .binOp .gtr 208 (.tmp 21) (.const (.int .u64 0)) 208, none⟩,
       ⟨(some 23), .move (.tmp 22), none⟩,
       ⟨(some 24), .move (.tmp 6), (some (23, false))⟩,
       ⟨(some 25), .binOp .gtr 208 (.tmp 24) (.const (.int .u64 9223372036854775807)) 208, (some (23, false))⟩,
       ⟨(some 26), .pick (.tmp 23) (.const (.bool true)) (.tmp 25), none⟩])
    (.cond (.tmp 26) (.reg [⟨(some 27), .makeInterface 9 (.const (.string ⟨#[116, 104, 101, 32, 114, 101, 115, 117, 108, 116, 32, 111, 102, 32, 40, 108, 101, 110, 40, 120, 41, 32, 42, 32, 99, 111, 117, 110, 116, 41, 32, 111, 118, 101, 114, 102, 108, 111, 119, 115]⟩)), none⟩,
        ⟨none, .panic (.tmp 27), none⟩])
     .skip))
   (.seq (.reg [⟨(some 28), .move (.tmp 6), none⟩,
       ⟨(some 29), .convert 208 3 (.tmp 28), none⟩,
       ⟨(some 30), .makeSlice 28 (.tmp 29) (.tmp 29), none⟩,
       ⟨(some 7), .assign (.tmp 30), none⟩])
    (.seq (.reg [⟨(some 31), .move (.tmp 7), none⟩,
        ⟨(some 32), .move (.tmp 0), none⟩,
        ⟨(some 33), .call ⟨(.builtin .copy), #[(.tmp 31), (.tmp 32)], #[28, 28]⟩, none⟩,
        ⟨(some 8), .assign (.tmp 33), none⟩])
     (.seq (.block 0 (.loop (.seq (.seq (.reg [⟨(some 34), .move (.tmp 8), none⟩,
             ⟨(some 35), .move (.tmp 7), none⟩,
             ⟨(some 36), .call ⟨(.builtin .len), #[(.tmp 35)], #[28]⟩, none⟩,
             ⟨(some 37), .binOp .lss 3 (.tmp 34) (.tmp 36) 3, none⟩])
          (.cond (.tmp 37) .skip
           (.exit 0)))
         (.block 1 (.draw [⟨(some 38), .move (.tmp 8), none⟩,
             ⟨(some 39), .move (.tmp 7), none⟩,
             ⟨(some 40), .move (.tmp 8), none⟩,
             ⟨(some 41), .slice 28 (.tmp 39) (some (.tmp 40)) none none, none⟩,
             ⟨(some 42), .move (.tmp 7), none⟩,
             ⟨(some 43), .move (.tmp 8), none⟩,
             ⟨(some 44), .slice 28 (.tmp 42) none (some (.tmp 43)) none, none⟩,
             ⟨(some 45), .call ⟨(.builtin .copy), #[(.tmp 41), (.tmp 44)], #[28, 28]⟩, none⟩,
             ⟨(some 46), .binOp .add 3 (.tmp 38) (.tmp 45) 3, none⟩,
             ⟨(some 8), .assign (.tmp 46), none⟩] [[], [], [], [1, 2], [], [], [4, 5], [1, 2, 3, 4, 5, 6], [0, 1, 2, 3, 4, 5, 6, 7], [0, 1, 2, 3, 4, 5, 6, 7, 8]])))))
      (.seq (.reg [⟨(some 47), .move (.tmp 7), none⟩,
          ⟨(some 4), .assign (.tmp 47), none⟩])
       .ret))))))))
theorem s206 : slimF Tryz.f206 = some (c206, [.t 4], 48) := by kernel_rfl
theorem o206 : okF [(223, g223)] Tryz.f206 = true := by kernel_rfl
theorem sat_206 {n : Nat} (h2 : 2 ≤ n) {τ : Nat} {N : Int} (hN1 : 1 ≤ N) (hN7 : N ≤ 7) : SatM Tryz.prog n 206 [] [.sl τ 1 [.int .i64 (-1)], .int .i64 N] [.row 2 1 ((List.replicate N.toNat (-1 : Int)).map (AV.int .i64))] (.osl 0 1 0 N.toNat) := by
  have hT : Table Tryz.prog [(223, g223)] := (.cons p223 .nil)
  have hn0 : n ≠ 0 := by omega
  refine SatM.of_bodyV hT hm Tryz.func206 s206 o206 h2 (by simp) ?_
  obtain ⟨M, rfl⟩ : ∃ M : Nat, N = M := ⟨N.toNat, by omega⟩
  have w1 : IntKind.u64.wrap (M : Int) = M := by
    have h8 : M = 1 ∨ M = 2 ∨ M = 3 ∨ M = 4 ∨ M = 5 ∨ M = 6 ∨ M = 7 := by omega
    rcases h8 with rfl | rfl | rfl | rfl | rfl | rfl | rfl <;> decide
  have w2 : IntKind.i64.wrap (M : Int) = M := wrap_ok (by omega) (by omega)
  have hM7 : (M : Int) ≤ 7 := hN7
  have hM0 : ¬ (M : Int) < 0 := by omega
  have hM1 : (0 : Int) ≤ M := by omega
  have hM2 : M ≤ maxLen := by simp only [maxLen]; omega
  have uw1 : IntKind.u64.wrap 1 = 1 := by decide
  have hmin : min 1 M = 1 := by omega
  have hM3 : ¬ (9223372036854775807 : Int) < M := by omega
  simp (config := {contextual := true, maxSteps := 2000000, implicitDefEqProofs := false}) [c206, go_sem, w1, w2, hM7, hM0, hM1, hM2, hM3, hmin, uw1]
  refine fun _ => ⟨⟨by omega, by omega⟩, ?_⟩
  refine VW_listKE [] [7] hT h2 hm (List.replicate 3 ()) [7] (fun pre post (b : Nat) => [.row 2 1 (rp M b)]) (fun pre post (b : Nat) => [(8, .int .i64 (b : Int))]) (fun pre post (b : Nat) => b = min (2 ^ pre.length) M) 1 ?_ ?_ ?_ ?_
  · simp
    omega
  · simp only [subE_go, subR_go, anOf_nil, anOf_cons, tmOk_nil, tmOk_cons]
    simp [go_sem, subE_go, subR_go, anOf_nil, anOf_cons, tmOk_nil, tmOk_cons, rp]
  · rintro b hR
    have hb : b = M := by simp at hR; omega
    subst hb
    simp (config := {contextual := true, maxSteps := 2000000, implicitDefEqProofs := false}) [go_sem]
    intro _
    rw [rp_fin]
    refine ⟨_, [0], Sub.refl 0 _, ?_⟩
    simp [retM, resAV, rvV, rinOf, Root.rnp, AV.rnp, AV.rnp2, AV.rnp1, AV.rnp0, posOf, go_sem, Rz, nz_int, nz_osl, nz_tup]
  · rintro pre u post b hl hlen hR
    simp (config := {contextual := true, maxSteps := 2000000, implicitDefEqProofs := false}) [go_sem]
    intro _
    have hbM : b ≤ M := by omega
    have hrl := rp_len hbM
    have hb1 : 1 ≤ b := by have := Nat.one_le_two_pow (n := pre.length); omega
    refine ⟨fun hb => ⟨hbM, ⟨by omega, by omega⟩, ?_⟩, fun hb => ?_⟩
    · have h1 : min b (min (rp M b).length (M - b)) = min b (M - b) := by omega
      have h2' : min (2 ^ (pre.length + 1)) M = b + min b (M - b) := by rw [Nat.pow_succ]; omega
      have h3 : IntKind.i64.wrap ((b : Int) + ((min b (M - b) : Nat) : Int)) = ((b + min b (M - b) : Nat) : Int) := by
        rw [← Int.natCast_add]
        exact wrap_ok (by omega) (by omega)
      have h4 := rp_step (M := M) (b := b) (c := min b (M - b)) (by omega)
      rw [h1, h2', h3, h4]
      simp only [subE_go, subR_go, anOf_nil, anOf_cons, tmOk_nil, tmOk_cons]
      simp (config := {contextual := true, maxSteps := 2000000, implicitDefEqProofs := false}) [go_sem, subE_go, subR_go, anOf_nil, anOf_cons, tmOk_nil, tmOk_cons]
    · have hb2 : b = M := by omega
      clear hR
      subst hb2
      rw [rp_fin]
      refine ⟨_, [0], Sub.refl 0 _, ?_⟩
      simp [retM, resAV, rvV, rinOf, Root.rnp, AV.rnp, AV.rnp2, AV.rnp1, AV.rnp0, posOf, go_sem, Rz, nz_int, nz_osl, nz_tup]
end Go.Ve
namespace Go.Ve
open Go.Proofs Go.RowKit
set_option linter.unusedVariables false
set_option linter.unusedSimpArgs false
set_option maxRecDepth 10000
set_option maxHeartbeats 4000000
def c181 : SCode := (.seq (.reg [⟨(some 2), .assign (.const (.slice none 0 0)), none⟩])
(.seq (.reg [⟨(some 3), .buildSlice 28 1 #[(0, (.const (.int .i64 (-1))))], none⟩,
    ⟨(some 4), .move (.tmp 0), none⟩,
    ⟨(some 5), .call ⟨(.value (.func 206)), #[(.tmp 3), (.tmp 4)], #[28, 3]⟩, none⟩,
    ⟨(some 2), .assign (.tmp 5), none⟩])
 .ret))
theorem s181 : slimF Tryz.f181 = some (c181, [.t 2], 6) := by kernel_rfl
theorem o181 : okF [] Tryz.f181 = true := by kernel_rfl
theorem sat_181 {n : Nat} (h2 : 2 ≤ n) {N : Int} (hN1 : 1 ≤ N) (hN7 : N ≤ 7) : SatM Tryz.prog n 181 [] [.int .i64 N] [.row 2 1 ((List.replicate N.toNat (-1 : Int)).map (AV.int .i64))] (.osl 0 1 0 N.toNat) := by
  have hT : Table Tryz.prog [] := .nil
  have hn0 : n ≠ 0 := by omega
  refine SatM.of_bodyV hT hm Tryz.func181 s181 o181 h2 (by simp) ?_
  simp (config := {contextual := true, maxSteps := 2000000, implicitDefEqProofs := false}) [c181, go_sem]
  refine ⟨206, [], rfl, [], n, [.row 2 1 ((List.replicate N.toNat (-1 : Int)).map (AV.int .i64))], .osl 0 1 0 N.toNat, Nat.le_refl _, by simp, by simp, by simp [go_sem, posOf], by simpa [go_sem, rinOf, posOf] using sat_206 h2 (τ := 0) hN1 hN7, ?_⟩
  simp (config := {contextual := true, maxSteps := 2000000, implicitDefEqProofs := false}) [go_sem, stOf, putAll, gmap, Root.ren, AV.ren, AV.ren2, AV.ren1, AV.ren0]
  refine ⟨_, [1], Sub.refl 0 _, ?_⟩
  simp [retM, resAV, rvV, rinOf, Root.rnp, AV.rnp, AV.rnp2, AV.rnp1, AV.rnp0, posOf, go_sem, Rz, nz_int, nz_osl, nz_tup]
theorem g180_nil {n τ τ3 : Nat} {t : Tree} {r : Rule} {seed a : Int} {places : List Int} : g180 n [.agg [.sl τ 2 (t.devices.map (enDev.av τ)), .sl τ 3 (t.buckets.map (enBkt.av τ))], .agg [.int .i64 r.id, .int .i64 r.root, .int .i64 r.kind, .bool r.indep], .int .i64 seed, .sl τ3 1 (places.map (AV.int .i64)), .int .i64 a, .sl 0 1 []] = ⟨τ ≠ 0 ∧ treeOk t = true ∧ ruleOk t r = true ∧ (∀ o ∈ places, 0 ≤ o → 0 ≤ devI t o) ∧ 0 ≤ a ∧ a ≤ 7, .int .i64 (findP t r seed places a [])⟩ := g180_eq (out := [])
def c179 : SCode := (.seq (.reg [⟨(some 4), .box 39 (.tmp 0), none⟩,
   ⟨(some 5), .box 41 (.tmp 1), none⟩,
   ⟨(some 8), .assign (.const (.slice none 0 0)), none⟩])
(.seq (.reg [⟨(some 11), .move (.tmp 3), none⟩,
    ⟨(some 12), .call ⟨(.value (.func 181)), #[(.tmp 11)], #[2]⟩, none⟩,
    ⟨(some 9), .assign (.tmp 12), none⟩])
 (.seq (.seq (.reg [⟨(some 13), .move (.tmp 3), none⟩,
      ⟨(some 14), .move (.const (.int .i64 0)), none⟩])
   (.block 0 (.loop (.seq (.reg [⟨(some 15), .binOp .lss 2 (.tmp 14) (.tmp 13) 2, none⟩])
      (.seq (.cond (.tmp 15) .skip
        (.exit 0))
       (.seq (.block 1 (.seq (.reg [⟨(some 16), .move (.tmp 14), none⟩,
             ⟨(some 10), .assign (.tmp 16), none⟩])
          (.reg [⟨(some 17), .move (.tmp 9), none⟩,
             ⟨(some 18), .move (.tmp 10), none⟩,
             ⟨(some 19), .load 39 (.tmp 4), none⟩,
             ⟨(some 20), .load 41 (.tmp 5), none⟩,
             ⟨(some 21), .move (.tmp 2), none⟩,
             ⟨(some 22), .move (.tmp 9), none⟩,
             ⟨(some 23), .move (.tmp 10), none⟩,
             ⟨(some 24), .call ⟨(.value (.func 180)), #[(.tmp 19), (.tmp 20), (.tmp 21), (.tmp 22), (.tmp 23), (.const (.slice none 0 0))], #[39, 41, 2, 28, 2, 28]⟩, none⟩,
             ⟨(some 25), .indexAddr 28 (.tmp 17) (.tmp 18), none⟩,
             ⟨none, .store 2 (.tmp 25) (.tmp 24), none⟩])))
        (.reg [⟨(some 26), .binOp .add 2 (.tmp 14) (.const (.int .i64 1)) 2, none⟩,
           ⟨(some 14), .move (.tmp 26), none⟩])))))))
  (.seq (.reg [⟨(some 27), .move (.tmp 9), none⟩,
      ⟨(some 8), .assign (.tmp 27), none⟩])
   .ret))))
theorem s179 : slimF Tryz.f179 = some (c179, [.t 8], 28) := by kernel_rfl
theorem o179 : okF [(180, (nilw [.k, .k, .k, .k, .k, .c 1] g180))] Tryz.f179 = true := by kernel_rfl
theorem sat_179 {n : Nat} (h2 : 2 ≤ n) {τ : Nat} {t : Tree} {r : Rule} {seed N : Int} (hp : τ ≠ 0) (ht : treeOk t = true) (hr : ruleOk t r = true) (hN1 : 1 ≤ N) (hN7 : N ≤ 7) : SatM Tryz.prog n 179 [] [.agg [.sl τ 2 (t.devices.map (enDev.av τ)), .sl τ 3 (t.buckets.map (enBkt.av τ))], .agg [.int .i64 r.id, .int .i64 r.root, .int .i64 r.kind, .bool r.indep], .int .i64 seed, .int .i64 N] [.row 2 1 ((wholeR t r seed N).map (AV.int .i64))] (.osl 0 1 0 (wholeR t r seed N).length) := by
  have hT : Table Tryz.prog [(180, (nilw [.k, .k, .k, .k, .k, .c 1] g180))] := (.cons (nilw_pure _ p180) .nil)
  have hn0 : n ≠ 0 := by omega
  refine SatM.of_bodyV hT hm Tryz.func179 s179 o179 h2 (by simp) ?_
  obtain ⟨M, rfl⟩ : ∃ M : Nat, N = M := ⟨N.toNat, by omega⟩
  have hW : wholeR t r seed M = wP t r seed M M := by rw [wP_fin]; rfl
  have hWl : (wholeR t r seed M).length = M := wholeR_len
  simp (config := {contextual := true, maxSteps := 2000000, implicitDefEqProofs := false}) [c179, go_sem]
  refine ⟨181, [], rfl, [], n, [.row 2 1 ((List.replicate (M : Int).toNat (-1 : Int)).map (AV.int .i64))], .osl 0 1 0 (M : Int).toNat, Nat.le_refl _, by simp, by simp, by simp [go_sem, posOf], by simpa [go_sem, rinOf, posOf] using sat_181 h2 hN1 hN7, ?_⟩
  simp (config := {contextual := true, maxSteps := 2000000, implicitDefEqProofs := false}) [go_sem, stOf, putAll, gmap, Root.ren, AV.ren, AV.ren2, AV.ren1, AV.ren0]
  refine VW_listKE [] [4, 5, 9] hT h2 hm (List.replicate M ()) [2, 4, 5, 9, 13] (fun pre post (u0 : Unit) => [.box 39 [.sl τ 2 (t.devices.map (enDev.av τ)), .sl τ 3 (t.buckets.map (enBkt.av τ))], .box 41 [.int .i64 r.id, .int .i64 r.root, .int .i64 r.kind, .bool r.indep], .row 2 1 ((wP t r seed M pre.length).map (AV.int .i64))]) (fun pre post (u0 : Unit) => [(14, .int .i64 pre.length)]) (fun pre post (u0 : Unit) => True) () ?_ ?_ ?_ ?_
  · trivial
  · simp only [subE_go, subR_go, anOf_nil, anOf_cons, tmOk_nil, tmOk_cons]
    simp [go_sem, subE_go, subR_go, anOf_nil, anOf_cons, tmOk_nil, tmOk_cons, wP]
  · rintro u0 hR
    simp (config := {contextual := true, maxSteps := 2000000, implicitDefEqProofs := false}) [go_sem]
    rw [hW]
    have hWl' : (wP t r seed M M).length = M := wP_len
    generalize wP t r seed M M = q at *
    refine ⟨_, [2], Sub.refl 0 _, ?_⟩
    simp [retM, resAV, rvV, rinOf, Root.rnp, AV.rnp, AV.rnp2, AV.rnp1, AV.rnp0, posOf, go_sem, Rz, nz_int, nz_osl, nz_tup, hWl']
  · rintro pre u post _ hl hlen _
    have hln : M = pre.length + (post.length + 1) := by have := congrArg List.length hl; simp at this; omega
    have hw : IntKind.i64.wrap ((pre.length : Int) + 1) = (pre.length : Int) + 1 := wrap_ok (by omega) (by omega)
    have h3 : (0 : Int) ≤ pre.length := by omega
    have h4 : (pre.length : Int) < (M : Int) := by omega
    have h5 : pre.length < M := by omega
    have h7 : (pre.length : Int) ≤ 7 := by omega
    have hwl : (wP t r seed M pre.length).length = M := wP_len
    have hd : ∀ o ∈ wP t r seed M pre.length, 0 ≤ o → 0 ≤ devI t o := fun o ho h0 => by
      rcases wP_in ht hr (show pre.length ≤ M by omega) o ho with rfl | h
      · omega
      · exact h
    have htk : List.take M ((wP t r seed M pre.length).map (AV.int .i64)) = (wP t r seed M pre.length).map (AV.int .i64) := List.take_of_length_le (by simp [hwl])
    have hn := nth_get (l := wP t r seed M pre.length) (i := pre.length) (by omega)
    have hset : ((wP t r seed M pre.length).map (AV.int .i64)).set pre.length (.int .i64 (findP t r seed (wP t r seed M pre.length) pre.length [])) = (wP t r seed M (pre.length + 1)).map (AV.int .i64) := by rw [wP, List.map_set]
    simp (config := {contextual := true, maxSteps := 2000000, implicitDefEqProofs := false}) [go_sem, hw, h3, h4, h5, h7, htk, hwl, hp, ht, hr, g180_nil, hn, setEl, hset]
    refine ⟨hd, ?_⟩
    generalize wP t r seed M (pre.length + 1) = q' at *
    generalize wP t r seed M pre.length = q at *
    simp only [subE_go, subR_go, anOf_nil, anOf_cons, tmOk_nil, tmOk_cons]
    simp (config := {contextual := true, maxSteps := 2000000, implicitDefEqProofs := false}) [go_sem, subE_go, subR_go, anOf_nil, anOf_cons, tmOk_nil, tmOk_cons]
end Go.Ve
namespace Go.Ve
open Go.Proofs Go.RowKit
set_option linter.unusedVariables false
set_option linter.unusedSimpArgs false
set_option maxRecDepth 10000
set_option maxHeartbeats 4000000
def c132 : SCode := (.seq (.reg [⟨(some 5), .box 39 (.tmp 0), none⟩,
   ⟨(some 6), .box 41 (.tmp 1), none⟩,
   ⟨(some 10), .assign (.const (.slice none 0 0)), none⟩])
(.seq (.reg [⟨(some 14), .load 39 (.tmp 5), none⟩,
    ⟨(some 15), .load 41 (.tmp 6), none⟩,
    ⟨(some 16), .move (.tmp 2), none⟩,
    ⟨(some 17), .move (.tmp 3), none⟩,
    ⟨(some 18), .call ⟨(.value (.func 179)), #[(.tmp 14), (.tmp 15), (.tmp 16), (.tmp 17)], #[39, 41, 2, 2]⟩, none⟩,
    ⟨(some 11), .assign (.tmp 18), none⟩])
 (.seq (.seq (.reg [⟨(some 19), .move (.tmp 3), none⟩,
      ⟨(some 20), .move (.const (.int .i64 0)), none⟩])
   (.block 0 (.loop (.seq (.reg [⟨(some 21), .binOp .lss 2 (.tmp 20) (.tmp 19) 2, none⟩])
      (.seq (.cond (.tmp 21) .skip
        (.exit 0))
       (.seq (.block 1 (.seq (.reg [⟨(some 22), .move (.tmp 20), none⟩,
             ⟨(some 12), .assign (.tmp 22), none⟩])
          (.seq (.reg [⟨(some 23), .move (.tmp 4), none⟩,
              ⟨(some 24), .move (.tmp 11), none⟩,
              ⟨(some 25), .move (.tmp 12), none⟩,
              ⟨(some 26), .indexAddr 28 (.tmp 24) (.tmp 25), none⟩,
              ⟨(some 27), .load 2 (.tmp 26), none⟩,
              ⟨(some 28), .call ⟨(.value (.func 83)), #[(.tmp 23), (.tmp 27)], #[28, 2]⟩, none⟩])
           (.cond (.tmp 28) (.reg [⟨(some 29), .move (.tmp 11), none⟩,
               ⟨(some 30), .move (.tmp 12), none⟩,
               ⟨(some 31), .load 39 (.tmp 5), none⟩,
               ⟨(some 32), .load 41 (.tmp 6), none⟩,
               ⟨(some 33), .move (.tmp 2), none⟩,
               ⟨(some 34), .move (.tmp 11), none⟩,
               ⟨(some 35), .move (.tmp 12), none⟩,
               ⟨(some 36), .move (.tmp 4), none⟩,
               ⟨(some 37), .call ⟨(.value (.func 180)), #[(.tmp 31), (.tmp 32), (.tmp 33), (.tmp 34), (.tmp 35), (.tmp 36)], #[39, 41, 2, 28, 2, 28]⟩, none⟩,
               ⟨(some 38), .indexAddr 28 (.tmp 29) (.tmp 30), none⟩,
               ⟨none, .store 2 (.tmp 38) (.tmp 37), none⟩])
            .skip))))
        (.reg [⟨(some 39), .binOp .add 2 (.tmp 20) (.const (.int .i64 1)) 2, none⟩,
           ⟨(some 20), .move (.tmp 39), none⟩])))))))
  (.seq (.seq (.reg [⟨(some 40), .fieldAddr 41 (.tmp 6) 3, none⟩,
       ⟨(some 41), .load 4 (.tmp 40), none⟩])
    (.cond (.tmp 41) (.seq (.reg [⟨(some 42), .move (.tmp 11), none⟩,
         ⟨(some 10), .assign (.tmp 42), none⟩])
      .ret)
     .skip))
   (.seq (.reg [⟨(some 43), .move (.tmp 3), none⟩,
       ⟨(some 44), .call ⟨(.value (.func 181)), #[(.tmp 43)], #[2]⟩, none⟩,
       ⟨(some 13), .assign (.tmp 44), none⟩])
    (.seq (.reg [⟨(some 45), .move (.tmp 13), none⟩,
        ⟨(some 46), .move (.tmp 11), none⟩,
        ⟨(some 47), .call ⟨(.value (.func 182)), #[(.tmp 46), (.func 183)], #[28, 178]⟩, none⟩,
        ⟨(some 48), .call ⟨(.builtin .copy), #[(.tmp 45), (.tmp 47)], #[28, 28]⟩, none⟩])
     (.seq (.reg [⟨(some 49), .move (.tmp 13), none⟩,
         ⟨(some 10), .assign (.tmp 49), none⟩])
      .ret)))))))
theorem s132 : slimF Tryz.f132 = some (c132, [.t 10], 50) := by kernel_rfl
theorem o132 : okF [(83, g83), (180, g180), (183, g183)] Tryz.f132 = true := by kernel_rfl
theorem sat_132 {n : Nat} (h2 : 2 ≤ n) {τ τ' : Nat} {t : Tree} {r : Rule} {seed N : Int} {out : List Int} (hp : τ ≠ 0) (ht : treeOk t = true) (hr : ruleOk t r = true) (hN1 : 1 ≤ N) (hN7 : N ≤ 7) (ho : ∀ x ∈ out, 0 ≤ x) : SatM Tryz.prog n 132 [] [.agg [.sl τ 2 (t.devices.map (enDev.av τ)), .sl τ 3 (t.buckets.map (enBkt.av τ))], .agg [.int .i64 r.id, .int .i64 r.root, .int .i64 r.kind, .bool r.indep], .int .i64 seed, .int .i64 N, .sl τ' 1 (out.map (AV.int .i64))] [.row 2 1 ((placeR t r seed N out).map (AV.int .i64))] (.osl 0 1 0 (placeR t r seed N out).length) := by
  have hT : Table Tryz.prog [(83, g83), (180, g180), (183, g183)] := (.cons p83 (.cons p180 (.cons p183 .nil)))
  have hn0 : n ≠ 0 := by omega
  refine SatM.of_bodyV hT hm Tryz.func132 s132 o132 h2 (by simp) ?_
  obtain ⟨M, rfl⟩ : ∃ M : Nat, N = M := ⟨N.toNat, by omega⟩
  have hWl : (wholeR t r seed (M : Int)).length = M := wholeR_len
  have hI : iP t r seed out (wholeR t r seed (M : Int)) M = insR t r seed (M : Int) out := rfl
  have hIl : (insR t r seed (M : Int) out).length = M := insR_len
  simp (config := {contextual := true, maxSteps := 2000000, implicitDefEqProofs := false}) [c132, go_sem]
  refine ⟨179, [], rfl, [], n, [.row 2 1 ((wholeR t r seed (M : Int)).map (AV.int .i64))], .osl 0 1 0 (wholeR t r seed (M : Int)).length, Nat.le_refl _, by simp, by simp, by simp [go_sem, posOf], by simpa [go_sem, rinOf, posOf] using sat_179 h2 hp ht hr hN1 hN7, ?_⟩
  simp (config := {contextual := true, maxSteps := 2000000, implicitDefEqProofs := false}) [go_sem, stOf, putAll, gmap, Root.ren, AV.ren, AV.ren2, AV.ren1, AV.ren0, hWl]
  refine VW_listKE [] [5, 6, 11] hT h2 hm (List.replicate M ()) [2, 3, 4, 5, 6, 11, 19] (fun pre post (u0 : Unit) => [.box 39 [.sl τ 2 (t.devices.map (enDev.av τ)), .sl τ 3 (t.buckets.map (enBkt.av τ))], .box 41 [.int .i64 r.id, .int .i64 r.root, .int .i64 r.kind, .bool r.indep], .row 2 1 ((iP t r seed out (wholeR t r seed (M : Int)) pre.length).map (AV.int .i64))]) (fun pre post (u0 : Unit) => [(20, .int .i64 pre.length)]) (fun pre post (u0 : Unit) => True) () ?_ ?_ ?_ ?_
  · trivial
  · simp only [subE_go, subR_go, anOf_nil, anOf_cons, tmOk_nil, tmOk_cons]
    simp [go_sem, subE_go, subR_go, anOf_nil, anOf_cons, tmOk_nil, tmOk_cons, iP]
  · rintro u0 hR
    cases hind : r.indep with
    | true =>
      have hPl : placeR t r seed (M : Int) out = insR t r seed (M : Int) out := if_pos hind
      simp (config := {contextual := true, maxSteps := 2000000, implicitDefEqProofs := false}) [go_sem, hind, hI, hPl, hIl]
      generalize insR t r seed (M : Int) out = q at *
      refine ⟨_, [2], Sub.refl 0 _, ?_⟩
      simp [retM, resAV, rvV, rinOf, Root.rnp, AV.rnp, AV.rnp2, AV.rnp1, AV.rnp0, posOf, go_sem, Rz, nz_int, nz_osl, nz_tup, hIl]
    | false =>
      have hPl : placeR t r seed (M : Int) out = frontF (insR t r seed (M : Int) out) := if_neg (by simp [hind])
      simp (config := {contextual := true, maxSteps := 2000000, implicitDefEqProofs := false}) [go_sem, hind, hI]
      refine ⟨181, [], rfl, [], n, [.row 2 1 ((List.replicate (M : Int).toNat (-1 : Int)).map (AV.int .i64))], .osl 0 1 0 (M : Int).toNat, Nat.le_refl _, by simp, by simp, by simp [go_sem, posOf], by simpa [go_sem, rinOf, posOf] using sat_181 h2 hN1 hN7, ?_⟩
      simp (config := {contextual := true, maxSteps := 2000000, implicitDefEqProofs := false}) [go_sem, stOf, putAll, gmap, Root.ren, AV.ren, AV.ren2, AV.ren1, AV.ren0]
      rw [hPl]
      have hFl := frontF_len (l := insR t r seed (M : Int) out)
      generalize insR t r seed (M : Int) out = q at *
      subst hIl
      refine ⟨182, [], rfl, [2], n, [.row 2 1 ((q.filter fun x => !decide (x < 0)).map (AV.int .i64))], .osl 0 1 0 (q.filter fun x => !decide (x < 0)).length, Nat.le_refl _, by simp, by simp, by simp [go_sem, posOf], by simpa [go_sem, rinOf, posOf] using sat_delp (n := n) (l := q) (by omega), ?_⟩
      simp (config := {contextual := true, maxSteps := 2000000, implicitDefEqProofs := false}) [go_sem, stOf, putAll, gmap, Root.ren, AV.ren, AV.ren2, AV.ren1, AV.ren0]
      have hF := List.length_filter_le (fun x : Int => !decide (x < 0)) q
      have hm1 : min (q.filter fun x => !decide (x < 0)).length q.length = (q.filter fun x => !decide (x < 0)).length := by omega
      have hrow : List.take (q.filter fun x => !decide (x < 0)).length ((q.filter fun x => !decide (x < 0)).map (AV.int .i64)) ++ List.replicate (q.length - (q.filter fun x => !decide (x < 0)).length) (AV.int .i64 (-1)) = (frontF q).map (AV.int .i64) := by
        rw [List.take_of_length_le (by simp)]
        simp [frontF]
      rw [hm1, hrow]
      generalize frontF q = q' at *
      refine ⟨_, [3], Sub.refl 0 _, ?_⟩
      simp [retM, resAV, rvV, rinOf, Root.rnp, AV.rnp, AV.rnp2, AV.rnp1, AV.rnp0, posOf, go_sem, Rz, nz_int, nz_osl, nz_tup, hFl]
  · rintro pre u post _ hl hlen _
    have hln : M = pre.length + (post.length + 1) := by have := congrArg List.length hl; simp at this; omega
    have hw : IntKind.i64.wrap ((pre.length : Int) + 1) = (pre.length : Int) + 1 := wrap_ok (by omega) (by omega)
    have h3 : (0 : Int) ≤ pre.length := by omega
    have h4 : (pre.length : Int) < (M : Int) := by omega
    have h5 : pre.length < M := by omega
    have h7 : (pre.length : Int) ≤ 7 := by omega
    have hil : (iP t r seed out (wholeR t r seed (M : Int)) pre.length).length = M := by rw [iP_len]; exact hWl
    have hd : ∀ o ∈ iP t r seed out (wholeR t r seed (M : Int)) pre.length, 0 ≤ o → 0 ≤ devI t o := fun o ho' h0 => by
      rcases iP_in ht hr (wholeR_in ht hr) o ho' with rfl | h
      · omega
      · exact h
    have htk : List.take M ((iP t r seed out (wholeR t r seed (M : Int)) pre.length).map (AV.int .i64)) = (iP t r seed out (wholeR t r seed (M : Int)) pre.length).map (AV.int .i64) := List.take_of_length_le (by simp [hil])
    have hn := nth_get (l := iP t r seed out (wholeR t r seed (M : Int)) pre.length) (i := pre.length) (by omega)
    have hstep : iP t r seed out (wholeR t r seed (M : Int)) (pre.length + 1) = _ := iP.eq_2 ..
    generalize hxe : (iP t r seed out (wholeR t r seed (M : Int)) pre.length).getD pre.length (-1) = x at *
    cases hx : has out x with
    | false =>
      rw [if_neg (by simp [hx])] at hstep
      simp (config := {contextual := true, maxSteps := 2000000, implicitDefEqProofs := false}) [go_sem, hw, h3, h4, h5, h7, hil, hn, hx, hstep]
      generalize iP t r seed out (wholeR t r seed (M : Int)) pre.length = q at *
      simp only [subE_go, subR_go, anOf_nil, anOf_cons, tmOk_nil, tmOk_cons]
      simp (config := {contextual := true, maxSteps := 2000000, implicitDefEqProofs := false}) [go_sem, subE_go, subR_go, anOf_nil, anOf_cons, tmOk_nil, tmOk_cons]
    | true =>
      have hx0 := ho x (has_iff.1 hx)
      rw [if_pos ⟨hx0, hx⟩] at hstep
      have hset : ((iP t r seed out (wholeR t r seed (M : Int)) pre.length).map (AV.int .i64)).set pre.length (.int .i64 (findP t r seed (iP t r seed out (wholeR t r seed (M : Int)) pre.length) pre.length out)) = (iP t r seed out (wholeR t r seed (M : Int)) (pre.length + 1)).map (AV.int .i64) := by rw [hstep, List.map_set]
      clear hstep
      simp (config := {contextual := true, maxSteps := 2000000, implicitDefEqProofs := false}) [go_sem, hw, h3, h4, h5, h7, hil, hn, hx, htk, hp, ht, hr, setEl, hset]
      refine ⟨hd, ?_⟩
      generalize iP t r seed out (wholeR t r seed (M : Int)) (pre.length + 1) = q' at *
      generalize iP t r seed out (wholeR t r seed (M : Int)) pre.length = q at *
      simp only [subE_go, subR_go, anOf_nil, anOf_cons, tmOk_nil, tmOk_cons]
      simp (config := {contextual := true, maxSteps := 2000000, implicitDefEqProofs := false}) [go_sem, subE_go, subR_go, anOf_nil, anOf_cons, tmOk_nil, tmOk_cons]
end Go.Ve
namespace Go.Ve
open Go.Proofs Go.RowKit
set_option linter.unusedVariables false
set_option linter.unusedSimpArgs false
set_option maxRecDepth 10000
set_option maxHeartbeats 4000000
theorem g220_nil {n τ τ3 : Nat} {t : Tree} {r : Rule} {seed a : Int} {places : List Int} : g220 n [.agg [.sl τ 2 (t.devices.map (enDev.av τ)), .sl τ 3 (t.buckets.map (enBkt.av τ))], .agg [.int .i64 r.id, .int .i64 r.root, .int .i64 r.kind, .bool r.indep], .int .i64 seed, .sl τ3 1 (places.map (AV.int .i64)), .int .i64 a, .sl 0 1 []] = ⟨τ ≠ 0 ∧ treeOk t = true ∧ ruleOk t r = true ∧ (∀ o ∈ places, 0 ≤ o → 0 ≤ devI t o) ∧ 0 ≤ a ∧ a ≤ 7, .int .i64 (findP t r seed places a [])⟩ := g220_eq (out := [])
def c201 : SCode := (.seq (.reg [⟨(some 4), .box 39 (.tmp 0), none⟩,
   ⟨(some 5), .box 41 (.tmp 1), none⟩,
   ⟨(some 8), .assign (.const (.slice none 0 0)), none⟩])
(.seq (.reg [⟨(some 11), .buildSlice 28 0 #[], none⟩,
    ⟨(some 9), .assign (.tmp 11), none⟩])
 (.seq (.seq (.reg [⟨(some 10), .assign (.const (.int .i64 0)), none⟩])
   (.block 0 (.loop (.seq (.seq (.reg [⟨(some 12), .move (.tmp 10), none⟩,
          ⟨(some 13), .move (.tmp 3), none⟩,
          ⟨(some 14), .binOp .lss 2 (.tmp 12) (.tmp 13) 2, none⟩])
       (.cond (.tmp 14) .skip
        (.exit 0)))
      (.seq (.block 1 (.reg [⟨(some 17), .move (.tmp 9), none⟩,
           ⟨(some 18), .load 39 (.tmp 4), none⟩,
           ⟨(some 19), .load 41 (.tmp 5), none⟩,
           ⟨(some 20), .move (.tmp 2), none⟩,
           ⟨(some 21), .move (.tmp 9), none⟩,
           ⟨(some 22), .move (.tmp 10), none⟩,
           ⟨(some 23), .call ⟨(.value (.func 220)), #[(.tmp 18), (.tmp 19), (.tmp 20), (.tmp 21), (.tmp 22), (.const (.slice none 0 0))], #[39, 41, 2, 28, 3, 28]⟩, none⟩,
           ⟨(some 24), .buildSlice 28 1 #[(0, (.tmp 23))], none⟩,
           ⟨(some 25), .call ⟨(.builtin .append), #[(.tmp 17), (.tmp 24)], #[28, 28]⟩, none⟩,
           ⟨(some 9), .assign (.tmp 25), none⟩]))
       (.reg [⟨(some 15), .move (.tmp 10), none⟩,
          ⟨(some 16), .binOp .add 2 (.tmp 15) (.const (.int .i64 1)) 2, none⟩,
          ⟨(some 10), .assign (.tmp 16), none⟩]))))))
  (.seq (.reg [⟨(some 26), .move (.tmp 9), none⟩,
      ⟨(some 8), .assign (.tmp 26), none⟩])
   .ret))))
theorem s201 : slimF Tryz.f201 = some (c201, [.t 8], 27) := by kernel_rfl
theorem o201 : okF [(220, (nilw [.k, .k, .k, .k, .k, .c 1] g220))] Tryz.f201 = true := by kernel_rfl
noncomputable def g201 : Fsem := semT4 enTree enRule (En.int .i64) (En.int .i64) (fun τ t r seed N => τ ≠ 0 ∧ treeOk t = true ∧ ruleOk t r = true ∧ 0 ≤ N ∧ N ≤ 7) (fun n τ t r seed N => .sl n 1 ((wholeR t r seed N).map (AV.int .i64)))
@[go_sem] theorem g201_eq {n τ : Nat} {t : Tree} {r : Rule} {seed : Int} {N : Int} : g201 n [.agg [.sl τ 2 (t.devices.map (enDev.av τ)), .sl τ 3 (t.buckets.map (enBkt.av τ))], .agg [.int .i64 r.id, .int .i64 r.root, .int .i64 r.kind, .bool r.indep], .int .i64 seed, .int .i64 N] = ⟨τ ≠ 0 ∧ treeOk t = true ∧ ruleOk t r = true ∧ 0 ≤ N ∧ N ≤ 7, .sl n 1 ((wholeR t r seed N).map (AV.int .i64))⟩ := semT4_eq (τ' := 0) (τ'' := 0) (τ3 := 0) (E := enTree) (F := enRule) (G := (En.int .i64)) (H := (En.int .i64)) (seen_Tree)
theorem p201 : Pure Tryz.prog 201 g201 := by
  refine semT4_pure fun τ τ' τ'' τ3 t r seed N n h2 hpre => ?_
  have hT : Table Tryz.prog [(220, (nilw [.k, .k, .k, .k, .k, .c 1] g220))] := (.cons (nilw_pure _ p220) .nil)
  have hn0 : n ≠ 0 := by omega
  refine SatP.of_body hT hm Tryz.func201 s201 o201 h2 (by simp) ?_
  obtain ⟨hp, ht, hr, hN0, hN7⟩ := hpre
  obtain ⟨M, rfl⟩ : ∃ M : Nat, N = M := ⟨N.toNat, by omega⟩
  have hW : wholeR t r seed (M : Int) = wholeF t r seed M [] := rfl
  have hWl : (wholeF t r seed M []).length = M := by rw [wholeF_len]; simp
  simp (config := {contextual := true, maxSteps := 2000000, implicitDefEqProofs := false}) [c201, go_sem]
  refine VW_listKE [] [4, 5, 9] hT h2 hm (List.replicate M ()) [2, 3, 4, 5] (fun pre post (u0 : Unit) => [.box 39 [.sl τ 2 (t.devices.map (enDev.av τ)), .sl τ 3 (t.buckets.map (enBkt.av τ))], .box 41 [.int .i64 r.id, .int .i64 r.root, .int .i64 r.kind, .bool r.indep], .row 2 1 ((wholeF t r seed pre.length []).map (AV.int .i64))]) (fun pre post (u0 : Unit) => [(10, .int .i64 pre.length), (9, .osl 2 1 0 pre.length)]) (fun pre post (u0 : Unit) => True) () ?_ ?_ ?_ ?_
  · trivial
  · simp only [subE_go, subR_go, anOf_nil, anOf_cons, tmOk_nil, tmOk_cons]
    simp [go_sem, subE_go, subR_go, anOf_nil, anOf_cons, tmOk_nil, tmOk_cons, wholeF]
  · rintro u0 hR
    rw [hW]
    simp only [List.length_replicate]
    generalize wholeF t r seed M [] = q at *
    subst hWl
    simp (config := {contextual := true, maxSteps := 2000000, implicitDefEqProofs := false}) [go_sem, hn0]
  · rintro pre u post _ hl hlen _
    have hln : M = pre.length + (post.length + 1) := by have := congrArg List.length hl; simp at this; omega
    have hw : IntKind.i64.wrap ((pre.length : Int) + 1) = (pre.length : Int) + 1 := wrap_ok (by omega) (by omega)
    have h3 : (0 : Int) ≤ pre.length := by omega
    have h4 : (pre.length : Int) < (M : Int) := by omega
    have h7 : (pre.length : Int) ≤ 7 := by omega
    have hwl : (wholeF t r seed pre.length []).length = pre.length := by rw [wholeF_len]; simp
    have hd : ∀ o ∈ wholeF t r seed pre.length [], 0 ≤ o → 0 ≤ devI t o := fun o ho h0 => by
      rcases wholeF_in ht hr _ _ (fun x hx => by cases hx) o ho with rfl | h
      · omega
      · exact h
    have htk : List.take pre.length ((wholeF t r seed pre.length []).map (AV.int .i64)) = (wholeF t r seed pre.length []).map (AV.int .i64) := List.take_of_length_le (by simp [hwl])
    have hsucc : wholeF t r seed (pre.length + 1) [] = wholeF t r seed pre.length [] ++ [findP t r seed (wholeF t r seed pre.length []) pre.length []] := by rw [wholeF_succ, hwl]
    simp (config := {contextual := true, maxSteps := 2000000, implicitDefEqProofs := false}) [go_sem, hw, h3, h4, h7, htk, hwl, hp, ht, hr, g220_nil, hsucc]
    refine ⟨hd, by omega, ?_⟩
    generalize wholeF t r seed pre.length [] = q at *
    simp only [subE_go, subR_go, anOf_nil, anOf_cons, tmOk_nil, tmOk_cons]
    simp (config := {contextual := true, maxSteps := 2000000, implicitDefEqProofs := false}) [go_sem, subE_go, subR_go, anOf_nil, anOf_cons, tmOk_nil, tmOk_cons]
def c200 : SCode := (.seq (.reg [⟨(some 5), .box 39 (.tmp 0), none⟩,
   ⟨(some 6), .box 41 (.tmp 1), none⟩,
   ⟨(some 10), .assign (.const (.slice none 0 0)), none⟩])
(.seq (.reg [⟨(some 12), .move (.tmp 3), none⟩,
    ⟨(some 13), .call ⟨(.value (.func 100)), #[(.tmp 12)], #[28]⟩, none⟩,
    ⟨(some 3), .assign (.tmp 13), none⟩])
 (.seq (.seq (.reg [⟨(some 11), .assign (.const (.int .i64 0)), none⟩])
   (.block 0 (.loop (.seq (.seq (.reg [⟨(some 14), .move (.tmp 11), none⟩,
          ⟨(some 15), .move (.tmp 3), none⟩,
          ⟨(some 16), .call ⟨(.builtin .len), #[(.tmp 15)], #[28]⟩, none⟩,
          ⟨(some 17), .binOp .lss 3 (.tmp 14) (.tmp 16) 3, none⟩])
       (.cond (.tmp 17) .skip
        (.exit 0)))
      (.seq (.block 1 (.seq (.reg [⟨(some 20), .move (.tmp 3), none⟩,
            ⟨(some 21), .move (.tmp 11), none⟩,
            ⟨(some 22), .indexAddr 28 (.tmp 20) (.tmp 21), none⟩,
            ⟨(some 23), .load 2 (.tmp 22), none⟩,
            ⟨(some 24), .binOp .geq 2 (.tmp 23) (.const (.int .i64 0)) 2, none⟩,
            ⟨(some 25), .move (.tmp 24), none⟩,
            ⟨(some 26), .move (.tmp 4), (some (25, true))⟩,
            ⟨(some 27), .move (.tmp 3), (some (25, true))⟩,
            ⟨(some 28), .move (.tmp 11), (some (25, true))⟩,
            ⟨(some 29), .indexAddr 28 (.tmp 27) (.tmp 28), (some (25, true))⟩,
            ⟨(some 30), .load 2 (.tmp 29), (some (25, true))⟩,
            ⟨(some 31), .call ⟨(.value (.func 126)), #[(.tmp 26), (.tmp 30)], #[28, 2]⟩, (some (25, true))⟩,
            ⟨(some 32), .pick (.tmp 25) (.tmp 31) (.const (.bool false)), none⟩])
         (.cond (.tmp 32) (.reg [⟨(some 33), .move (.tmp 3), none⟩,
             ⟨(some 34), .move (.tmp 11), none⟩,
             ⟨(some 35), .load 39 (.tmp 5), none⟩,
             ⟨(some 36), .load 41 (.tmp 6), none⟩,
             ⟨(some 37), .move (.tmp 2), none⟩,
             ⟨(some 38), .move (.tmp 3), none⟩,
             ⟨(some 39), .move (.tmp 11), none⟩,
             ⟨(some 40), .move (.tmp 4), none⟩,
             ⟨(some 41), .call ⟨(.value (.func 220)), #[(.tmp 35), (.tmp 36), (.tmp 37), (.tmp 38), (.tmp 39), (.tmp 40)], #[39, 41, 2, 28, 3, 28]⟩, none⟩,
             ⟨(some 42), .indexAddr 28 (.tmp 33) (.tmp 34), none⟩,
             ⟨none, .store 2 (.tmp 42) (.tmp 41), none⟩])
          .skip)))
       (.reg [⟨(some 18), .move (.tmp 11), none⟩,
          ⟨(some 19), .binOp .add 3 (.tmp 18) (.const (.int .i64 1)) 3, none⟩,
          ⟨(some 11), .assign (.tmp 19), none⟩]))))))
  (.seq (.reg [⟨(some 43), .move (.tmp 3), none⟩,
      ⟨(some 10), .assign (.tmp 43), none⟩])
   .ret))))
theorem s200 : slimF Tryz.f200 = some (c200, [.t 10], 44) := by kernel_rfl
theorem o200 : okF [(126, g126), (220, g220)] Tryz.f200 = true := by kernel_rfl
noncomputable def g200 : Fsem := semT5 enTree enRule (En.int .i64) (En.int .i64).list (En.int .i64).list (fun τ t r seed w out => τ ≠ 0 ∧ treeOk t = true ∧ ruleOk t r = true ∧ w.length ≤ 7 ∧ (∀ x ∈ w, okN t x)) (fun n τ t r seed w out => .sl n 1 ((iP t r seed out w w.length).map (AV.int .i64)))
@[go_sem] theorem g200_eq {n τ τ3 τ4 : Nat} {t : Tree} {r : Rule} {seed : Int} {w : List Int} {out : List Int} : g200 n [.agg [.sl τ 2 (t.devices.map (enDev.av τ)), .sl τ 3 (t.buckets.map (enBkt.av τ))], .agg [.int .i64 r.id, .int .i64 r.root, .int .i64 r.kind, .bool r.indep], .int .i64 seed, .sl τ3 1 (w.map (AV.int .i64)), .sl τ4 1 (out.map (AV.int .i64))] = ⟨τ ≠ 0 ∧ treeOk t = true ∧ ruleOk t r = true ∧ w.length ≤ 7 ∧ (∀ x ∈ w, okN t x), .sl n 1 ((iP t r seed out w w.length).map (AV.int .i64))⟩ := semT5_eq (τ' := 0) (τ'' := 0) (E := enTree) (F := enRule) (G := (En.int .i64)) (H := (En.int .i64).list) (J := (En.int .i64).list) (seen_Tree)
theorem p200 : Pure Tryz.prog 200 g200 := by
  refine semT5_pure fun τ τ' τ'' τ3 τ4 t r seed w out n h2 hpre => ?_
  have hT : Table Tryz.prog [(126, g126), (220, g220)] := (.cons p126 (.cons p220 .nil))
  have hn0 : n ≠ 0 := by omega
  refine SatP.of_body hT hm Tryz.func200 s200 o200 h2 (by simp) ?_
  obtain ⟨hp, ht, hr, hw7, hwn⟩ := hpre
  simp (config := {contextual := true, maxSteps := 2000000, implicitDefEqProofs := false}) [c200, go_sem]
  refine ⟨100, [], rfl, [], n, [.row 2 1 ((w).map (AV.int .i64))], .osl 0 1 0 w.length, Nat.le_refl _, by simp, by simp, by simp [go_sem, posOf], by simpa [go_sem, rinOf, posOf] using sat_100 h2 (τ := τ3) (l := w) (by omega), ?_⟩
  simp (config := {contextual := true, maxSteps := 2000000, implicitDefEqProofs := false}) [go_sem, stOf, putAll, gmap, Root.ren, AV.ren, AV.ren2, AV.ren1, AV.ren0]
  refine VW_listKE [] [5, 6, 3] hT h2 hm (List.replicate w.length ()) [2, 3, 4, 5, 6] (fun pre post (u0 : Unit) => [.box 39 [.sl τ 2 (t.devices.map (enDev.av τ)), .sl τ 3 (t.buckets.map (enBkt.av τ))], .box 41 [.int .i64 r.id, .int .i64 r.root, .int .i64 r.kind, .bool r.indep], .row 2 1 ((iP t r seed out w pre.length).map (AV.int .i64))]) (fun pre post (u0 : Unit) => [(11, .int .i64 pre.length)]) (fun pre post (u0 : Unit) => True) () ?_ ?_ ?_ ?_
  · trivial
  · simp only [subE_go, subR_go, anOf_nil, anOf_cons, tmOk_nil, tmOk_cons]
    simp [go_sem, subE_go, subR_go, anOf_nil, anOf_cons, tmOk_nil, tmOk_cons, iP]
  · rintro u0 hR
    simp only [List.length_replicate]
    have hil : (iP t r seed out w w.length).length = w.length := iP_len
    generalize iP t r seed out w w.length = q at *
    rw [← hil]
    simp (config := {contextual := true, maxSteps := 2000000, implicitDefEqProofs := false}) [go_sem, hn0]
  · rintro pre u post _ hl hlen _
    have hln : w.length = pre.length + (post.length + 1) := by have := congrArg List.length hl; simp at this; omega
    have hw : IntKind.i64.wrap ((pre.length : Int) + 1) = (pre.length : Int) + 1 := wrap_ok (by omega) (by omega)
    have h3 : (0 : Int) ≤ pre.length := by omega
    have h4 : (pre.length : Int) < (w.length : Int) := by omega
    have h5 : pre.length < w.length := by omega
    have h7 : (pre.length : Int) ≤ 7 := by omega
    have hil : (iP t r seed out w pre.length).length = w.length := iP_len
    have hd : ∀ o ∈ iP t r seed out w pre.length, 0 ≤ o → 0 ≤ devI t o := fun o ho' h0 => by
      rcases iP_in ht hr hwn o ho' with rfl | h
      · omega
      · exact h
    have htk : List.take w.length ((iP t r seed out w pre.length).map (AV.int .i64)) = (iP t r seed out w pre.length).map (AV.int .i64) := List.take_of_length_le (by simp [hil])
    have hn := nth_get (l := iP t r seed out w pre.length) (i := pre.length) (by omega)
    have hstep : iP t r seed out w (pre.length + 1) = _ := iP.eq_2 ..
    generalize hxe : (iP t r seed out w pre.length).getD pre.length (-1) = x at *
    by_cases hc : 0 ≤ x ∧ has out x = true
    · rw [if_pos hc] at hstep
      obtain ⟨hx0, hx⟩ := hc
      have hset : ((iP t r seed out w pre.length).map (AV.int .i64)).set pre.length (.int .i64 (findP t r seed (iP t r seed out w pre.length) pre.length out)) = (iP t r seed out w (pre.length + 1)).map (AV.int .i64) := by rw [hstep, List.map_set]
      clear hstep
      simp (config := {contextual := true, maxSteps := 2000000, implicitDefEqProofs := false}) [go_sem, hw, h3, h4, h5, h7, hil, hn, hx0, hx, htk, hp, ht, hr, setEl, hset]

      intro _
      refine ⟨hd, ?_⟩
      generalize iP t r seed out w (pre.length + 1) = q' at *
      generalize iP t r seed out w pre.length = q at *
      simp only [subE_go, subR_go, anOf_nil, anOf_cons, tmOk_nil, tmOk_cons]
      simp (config := {contextual := true, maxSteps := 2000000, implicitDefEqProofs := false}) [go_sem, subE_go, subR_go, anOf_nil, anOf_cons, tmOk_nil, tmOk_cons]
    · rw [if_neg hc] at hstep
      by_cases hx0 : 0 ≤ x
      · have hx : has out x = false := by cases h : has out x; rfl; exact absurd ⟨hx0, h⟩ hc
        simp (config := {contextual := true, maxSteps := 2000000, implicitDefEqProofs := false}) [go_sem, hw, h3, h4, h5, h7, hil, hn, hx0, hx, hstep]
        intro _
        generalize iP t r seed out w pre.length = q at *
        simp only [subE_go, subR_go, anOf_nil, anOf_cons, tmOk_nil, tmOk_cons]
        simp (config := {contextual := true, maxSteps := 2000000, implicitDefEqProofs := false}) [go_sem, subE_go, subR_go, anOf_nil, anOf_cons, tmOk_nil, tmOk_cons]
      · simp (config := {contextual := true, maxSteps := 2000000, implicitDefEqProofs := false}) [go_sem, hw, h3, h4, h5, h7, hil, hn, hx0, hstep]
        intro _
        generalize iP t r seed out w pre.length = q at *
        simp only [subE_go, subR_go, anOf_nil, anOf_cons, tmOk_nil, tmOk_cons]
        simp (config := {contextual := true, maxSteps := 2000000, implicitDefEqProofs := false}) [go_sem, subE_go, subR_go, anOf_nil, anOf_cons, tmOk_nil, tmOk_cons]
end Go.Ve
namespace Go.Ve
open Go.Proofs Go.RowKit
set_option linter.unusedVariables false
set_option linter.unusedSimpArgs false
set_option maxRecDepth 10000
set_option maxHeartbeats 4000000
def c202 : SCode := (.seq (.reg [⟨(some 2), .assign (.const (.slice none 0 0)), none⟩])
(.seq (.reg [⟨(some 5), .buildSlice 28 0 #[], none⟩,
    ⟨(some 3), .assign (.tmp 5), none⟩])
 (.seq (.seq (.reg [⟨(some 4), .assign (.const (.int .i64 0)), none⟩])
   (.block 0 (.loop (.seq (.seq (.reg [⟨(some 6), .move (.tmp 4), none⟩,
          ⟨(some 7), .move (.tmp 0), none⟩,
          ⟨(some 8), .call ⟨(.builtin .len), #[(.tmp 7)], #[28]⟩, none⟩,
          ⟨(some 9), .binOp .lss 3 (.tmp 6) (.tmp 8) 3, none⟩])
       (.cond (.tmp 9) .skip
        (.exit 0)))
      (.seq (.block 1 (.seq (.reg [⟨(some 12), .move (.tmp 0), none⟩,
            ⟨(some 13), .move (.tmp 4), none⟩,
            ⟨(some 14), .indexAddr 28 (.tmp 12) (.tmp 13), none⟩,
            ⟨(some 15), .load 2 (.tmp 14), none⟩,
            ⟨(some 16), .binOp .geq 2 (.tmp 15) (.const (.int .i64 0)) 2, none⟩])
         (.cond (.tmp 16) (.reg [⟨(some 17), .move (.tmp 3), none⟩,
             ⟨(some 18), .move (.tmp 0), none⟩,
             ⟨(some 19), .move (.tmp 4), none⟩,
             ⟨(some 20), .indexAddr 28 (.tmp 18) (.tmp 19), none⟩,
             ⟨(some 21), .load 2 (.tmp 20), none⟩,
             ⟨(some 22), .buildSlice 28 1 #[(0, (.tmp 21))], none⟩,
             ⟨(some 23), .call ⟨(.builtin .append), #[(.tmp 17), (.tmp 22)], #[28, 28]⟩, none⟩,
             ⟨(some 3), .assign (.tmp 23), none⟩])
          .skip)))
       (.reg [⟨(some 10), .move (.tmp 4), none⟩,
          ⟨(some 11), .binOp .add 3 (.tmp 10) (.const (.int .i64 1)) 3, none⟩,
          ⟨(some 4), .assign (.tmp 11), none⟩]))))))
  (.seq (.block 2 (.loop (.seq (.seq (.reg [⟨(some 24), .move (.tmp 3), none⟩,
          ⟨(some 25), .call ⟨(.builtin .len), #[(.tmp 24)], #[28]⟩, none⟩,
          ⟨(some 26), .move (.tmp 0), none⟩,
          ⟨(some 27), .call ⟨(.builtin .len), #[(.tmp 26)], #[28]⟩, none⟩,
          ⟨(some 28), .binOp .lss 3 (.tmp 25) (.tmp 27) 3, none⟩])
       (.cond (.tmp 28) .skip
        (.exit 2)))
      (.block 3 (.reg [⟨(some 29), .move (.tmp 3), none⟩,
          ⟨(some 30), .buildSlice 28 1 #[(0, (.const (.int .i64 (-1))))], none⟩,
          ⟨(some 31), .call ⟨(.builtin .append), #[(.tmp 29), (.tmp 30)], #[28, 28]⟩, none⟩,
          ⟨(some 3), .assign (.tmp 31), none⟩])))))
   (.seq (.reg [⟨(some 32), .move (.tmp 3), none⟩,
       ⟨(some 2), .assign (.tmp 32), none⟩])
    .ret)))))
theorem s202 : slimF Tryz.f202 = some (c202, [.t 2], 33) := by kernel_rfl
theorem o202 : okF [] Tryz.f202 = true := by kernel_rfl
noncomputable def g202 : Fsem := sem1 (En.int .i64).list (fun l => l.length ≤ 1000) (fun n l => .sl n 1 ((frontF l).map (AV.int .i64)))
@[go_sem] theorem g202_eq {n τ : Nat} {l : List Int} : g202 n [.sl τ 1 (l.map (AV.int .i64))] = ⟨l.length ≤ 1000, .sl n 1 ((frontF l).map (AV.int .i64))⟩ := sem1_eq  (E := (En.int .i64).list)
theorem p202 : Pure Tryz.prog 202 g202 := by
  refine sem1_pure fun τ l n h2 hpre => ?_
  have hT : Table Tryz.prog [] := .nil
  have hn0 : n ≠ 0 := by omega
  refine SatP.of_body hT hm Tryz.func202 s202 o202 h2 (by simp) ?_
  have hl20 : l.length ≤ 1000 := hpre
  have hL : ((l.filter fun x => !decide (x < 0))).length ≤ l.length := List.length_filter_le _ _
  have hfl := frontF_len (l := l)
  simp (config := {contextual := true, maxSteps := 2000000, implicitDefEqProofs := false}) [c202, go_sem]
  refine VW_listKE [] [3] hT h2 hm l [0] (fun pre post (u0 : Unit) => [.row 2 1 (((pre.filter fun x => !decide (x < 0))).map (AV.int .i64))]) (fun pre post (u0 : Unit) => [(4, .int .i64 pre.length), (3, .osl 0 1 0 ((pre.filter fun x => !decide (x < 0))).length)]) (fun pre post (u0 : Unit) => ((pre.filter fun x => !decide (x < 0))).length ≤ pre.length) () ?_ ?_ ?_ ?_
  · simp
  · simp only [subE_go, subR_go, anOf_nil, anOf_cons, tmOk_nil, tmOk_cons]
    simp [go_sem, subE_go, subR_go, anOf_nil, anOf_cons, tmOk_nil, tmOk_cons]
  · rintro u0 hR
    simp (config := {contextual := true, maxSteps := 2000000, implicitDefEqProofs := false}) [go_sem]
    intro _
    refine VW_listKE [] [3] hT h2 hm (List.replicate (l.length - ((l.filter fun x => !decide (x < 0))).length) ()) [0] (fun pre post (u0 : Unit) => [.row 2 1 (((l.filter fun x => !decide (x < 0)) ++ List.replicate pre.length (-1)).map (AV.int .i64))]) (fun pre post (u0 : Unit) => [(3, .osl 0 1 0 (((l.filter fun x => !decide (x < 0))).length + pre.length))]) (fun pre post (u0 : Unit) => True) () ?_ ?_ ?_ ?_
    · trivial
    · simp only [subE_go, subR_go, anOf_nil, anOf_cons, tmOk_nil, tmOk_cons]
      simp [go_sem, subE_go, subR_go, anOf_nil, anOf_cons, tmOk_nil, tmOk_cons]
    · rintro u1 _
      simp only [List.length_replicate]
      have h1 : ((l.filter fun x => !decide (x < 0))).length + (l.length - ((l.filter fun x => !decide (x < 0))).length) = l.length := by omega
      rw [h1]
      have h2 : (l.filter fun x => !decide (x < 0)) ++ List.replicate (l.length - ((l.filter fun x => !decide (x < 0))).length) (-1) = frontF l := rfl
      rw [h2]
      generalize frontF l = q at *
      rw [← hfl]
      simp (config := {contextual := true, maxSteps := 2000000, implicitDefEqProofs := false}) [go_sem, hn0]
      intros
      omega
    · rintro pre u post _ hl hlen _
      have hln : l.length - ((l.filter fun x => !decide (x < 0))).length = pre.length + (post.length + 1) := by have := congrArg List.length hl; simp at this; omega
      have h3 : ((l.filter fun x => !decide (x < 0))).length + pre.length < l.length := by omega
      have hrep : List.replicate (pre.length + 1) (-1 : Int) = List.replicate pre.length (-1) ++ [-1] := by rw [List.replicate_succ']
      generalize (l.filter fun x => !decide (x < 0)) = q at *
      have h3i : (q.length : Int) + (pre.length : Int) < (l.length : Int) := by omega
      have h3n : ¬ (l.length : Int) ≤ (q.length : Int) + (pre.length : Int) := by omega
      simp (config := {contextual := true, maxSteps := 2000000, implicitDefEqProofs := false}) [go_sem, h3i, h3n, hrep]
      intro _ _
      refine ⟨by omega, ?_⟩
      simp only [subE_go, subR_go, anOf_nil, anOf_cons, tmOk_nil, tmOk_cons]
      simp (config := {contextual := true, maxSteps := 2000000, implicitDefEqProofs := false}) [go_sem, subE_go, subR_go, anOf_nil, anOf_cons, tmOk_nil, tmOk_cons, Nat.add_assoc]
  · rintro pre x post _ hl hlen hR
    have hln : l.length = pre.length + (post.length + 1) := by rw [← hl]; simp
    have hn : nth (List.map (AV.int .i64) l) (pre.length) = (AV.int .i64) x := by rw [← hl]; simp [go_sem]
    have hw : l.length ≤ maxLen → IntKind.i64.wrap ((pre.length : Int) + 1) = (pre.length : Int) + 1 := fun h => wrap_ok (by omega) (by simp only [maxLen] at h; omega)
    have h3 : (0 : Int) ≤ (pre.length : Int) := by omega
    have h4 : (pre.length : Int) < (l.length : Int) := by omega
    have h5 : ¬ (l.length : Int) ≤ (pre.length : Int) := by omega
    by_cases hx : 0 ≤ x
    · have hxn : ¬ x < 0 := by omega
      have hf : ((pre ++ [x]).filter fun x => !decide (x < 0)) = (pre.filter fun x => !decide (x < 0)) ++ [x] := by rw [List.filter_append]; simp [hxn]
      simp (config := {contextual := true, maxSteps := 2000000, implicitDefEqProofs := false}) [go_sem, hn, hw, h3, h4, h5, hx, hxn]
      clear hf
      generalize (pre.filter fun x => !decide (x < 0)) = q at *
      intro _
      refine ⟨by omega, ?_⟩
      simp only [subE_go, subR_go, anOf_nil, anOf_cons, tmOk_nil, tmOk_cons]
      simp (config := {contextual := true, maxSteps := 2000000, implicitDefEqProofs := false}) [go_sem, subE_go, subR_go, anOf_nil, anOf_cons, tmOk_nil, tmOk_cons]
      omega
    · have hxn : x < 0 := by omega
      have hf : ((pre ++ [x]).filter fun x => !decide (x < 0)) = (pre.filter fun x => !decide (x < 0)) := by rw [List.filter_append]; simp [hxn]
      simp (config := {contextual := true, maxSteps := 2000000, implicitDefEqProofs := false}) [go_sem, hn, hw, h3, h4, h5, hx, hxn]
      clear hf
      generalize (pre.filter fun x => !decide (x < 0)) = q at *
      intro _
      refine ⟨by omega, ?_⟩
      simp only [subE_go, subR_go, anOf_nil, anOf_cons, tmOk_nil, tmOk_cons]
      simp (config := {contextual := true, maxSteps := 2000000, implicitDefEqProofs := false}) [go_sem, subE_go, subR_go, anOf_nil, anOf_cons, tmOk_nil, tmOk_cons]
def c170 : SCode := (.seq (.reg [⟨(some 5), .box 39 (.tmp 0), none⟩,
   ⟨(some 6), .box 41 (.tmp 1), none⟩,
   ⟨(some 10), .assign (.const (.slice none 0 0)), none⟩])
(.seq (.draw [⟨(some 12), .load 39 (.tmp 5), none⟩,
    ⟨(some 13), .load 41 (.tmp 6), none⟩,
    ⟨(some 14), .move (.tmp 2), none⟩,
    ⟨(some 15), .load 39 (.tmp 5), none⟩,
    ⟨(some 16), .load 41 (.tmp 6), none⟩,
    ⟨(some 17), .move (.tmp 2), none⟩,
    ⟨(some 18), .move (.tmp 3), none⟩,
    ⟨(some 19), .call ⟨(.value (.func 201)), #[(.tmp 15), (.tmp 16), (.tmp 17), (.tmp 18)], #[39, 41, 2, 2]⟩, none⟩,
    ⟨(some 20), .move (.tmp 4), none⟩,
    ⟨(some 21), .call ⟨(.value (.func 200)), #[(.tmp 12), (.tmp 13), (.tmp 14), (.tmp 19), (.tmp 20)], #[39, 41, 2, 28, 28]⟩, none⟩,
    ⟨(some 11), .assign (.tmp 21), none⟩] [[], [], [], [], [], [], [], [3, 4, 5, 6], [], [0, 1, 2, 3, 4, 5, 6, 7, 8], [0, 1, 2, 3, 4, 5, 6, 7, 8, 9]])
 (.seq (.seq (.reg [⟨(some 22), .fieldAddr 41 (.tmp 6) 3, none⟩,
      ⟨(some 23), .load 4 (.tmp 22), none⟩])
   (.cond (.tmp 23) (.seq (.reg [⟨(some 24), .move (.tmp 11), none⟩,
        ⟨(some 10), .assign (.tmp 24), none⟩])
     .ret)
    .skip))
  (.seq (.reg [⟨(some 25), .move (.tmp 11), none⟩,
      ⟨(some 26), .call ⟨(.value (.func 202)), #[(.tmp 25)], #[28]⟩, none⟩,
      ⟨(some 10), .assign (.tmp 26), none⟩])
   .ret))))
theorem s170 : slimF Tryz.f170 = some (c170, [.t 10], 27) := by kernel_rfl
theorem o170 : okF [(201, g201), (200, g200), (202, g202)] Tryz.f170 = true := by kernel_rfl
noncomputable def g170 : Fsem := semT5 enTree enRule (En.int .i64) (En.int .i64) (En.int .i64).list (fun τ t r seed N out => τ ≠ 0 ∧ treeOk t = true ∧ ruleOk t r = true ∧ 0 ≤ N ∧ N ≤ 7) (fun n τ t r seed N out => .sl n 1 ((placeR t r seed N out).map (AV.int .i64)))
@[go_sem] theorem g170_eq {n τ τ4 : Nat} {t : Tree} {r : Rule} {seed : Int} {N : Int} {out : List Int} : g170 n [.agg [.sl τ 2 (t.devices.map (enDev.av τ)), .sl τ 3 (t.buckets.map (enBkt.av τ))], .agg [.int .i64 r.id, .int .i64 r.root, .int .i64 r.kind, .bool r.indep], .int .i64 seed, .int .i64 N, .sl τ4 1 (out.map (AV.int .i64))] = ⟨τ ≠ 0 ∧ treeOk t = true ∧ ruleOk t r = true ∧ 0 ≤ N ∧ N ≤ 7, .sl n 1 ((placeR t r seed N out).map (AV.int .i64))⟩ := semT5_eq (τ' := 0) (τ'' := 0) (τ3 := 0) (E := enTree) (F := enRule) (G := (En.int .i64)) (H := (En.int .i64)) (J := (En.int .i64).list) (seen_Tree)
theorem p170 : Pure Tryz.prog 170 g170 := by
  refine semT5_pure fun τ τ' τ'' τ3 τ4 t r seed N out n h2 hpre => ?_
  have hT : Table Tryz.prog [(201, g201), (200, g200), (202, g202)] := (.cons p201 (.cons p200 (.cons p202 .nil)))
  have hn0 : n ≠ 0 := by omega
  refine SatP.of_body hT hm Tryz.func170 s170 o170 h2 (by simp) ?_
  obtain ⟨hp, ht, hr, hN0, hN7⟩ := hpre
  have hWl : (wholeR t r seed N).length = N.toNat := wholeR_len
  have hwl7 : (wholeR t r seed N).length ≤ 7 := by omega
  have hI : iP t r seed out (wholeR t r seed N) (wholeR t r seed N).length = insR t r seed N out := by rw [insR, hWl]
  have hIl : (insR t r seed N out).length ≤ 1000 := by rw [insR_len]; omega
  have hwn := wholeR_in ht hr (seed := seed) (n := N)
  have hp1 : r.indep = true → insR t r seed N out = placeR t r seed N out := fun h => by rw [placeR, if_pos h]
  have hp2 : r.indep = false → frontF (insR t r seed N out) = placeR t r seed N out := fun h => by rw [placeR, if_neg (by simp [h])]
  simp (config := {maxSteps := 2000000, implicitDefEqProofs := false}) [c170, go_sem, hp, ht, hr, hN0, hN7, hwl7, hI, hIl]
  exact ⟨hwn, fun h => by rw [hp1 h]; exact ⟨.inr hn0, rfl⟩, fun h => by rw [hp2 h]; exact ⟨.inr hn0, rfl⟩⟩
end Go.Ve
namespace Go.Ve
open Go.Proofs Go.RowKit
set_option linter.unusedVariables false
set_option linter.unusedSimpArgs false
set_option maxRecDepth 10000
set_option maxHeartbeats 4000000
def c169 : SCode := (.seq (.reg [⟨(some 6), .assign (.const (.bool false)), none⟩])
(.seq (.seq (.reg [⟨(some 7), .assign (.const (.int .i64 0)), none⟩])
  (.block 0 (.loop (.seq (.seq (.reg [⟨(some 8), .move (.tmp 7), none⟩,
         ⟨(some 9), .move (.tmp 0), none⟩,
         ⟨(some 10), .call ⟨(.builtin .len), #[(.tmp 9)], #[28]⟩, none⟩,
         ⟨(some 11), .binOp .lss 3 (.tmp 8) (.tmp 10) 3, none⟩])
      (.cond (.tmp 11) .skip
       (.exit 0)))
     (.seq (.block 1 (.seq (.draw [⟨(some 14), .move (.tmp 0), none⟩,
           ⟨(some 15), .move (.tmp 7), none⟩,
           ⟨(some 16), .indexAddr 28 (.tmp 14) (.tmp 15), none⟩,
           ⟨(some 17), .load 2 (.tmp 16), none⟩,
           ⟨(some 18), .move (.tmp 1), none⟩,
           ⟨(some 19), .move (.tmp 2), none⟩,
           ⟨(some 20), .call ⟨(.value (.func 93)), #[(.tmp 17), (.tmp 18), (.tmp 19)], #[2, 2, 2]⟩, none⟩,
           ⟨(some 21), .unOp .not 4 (.tmp 20), none⟩,
           ⟨(some 22), .move (.tmp 21), none⟩,
           ⟨(some 23), .move (.tmp 7), (some (22, false))⟩,
           ⟨(some 24), .binOp .gtr 3 (.tmp 23) (.const (.int .i64 0)) 3, (some (22, false))⟩,
           ⟨(some 25), .move (.tmp 24), (some (22, false))⟩,
           ⟨(some 26), .move (.tmp 0), (some (25, true))⟩,
           ⟨(some 27), .move (.tmp 7), (some (25, true))⟩,
           ⟨(some 28), .binOp .sub 3 (.tmp 27) (.const (.int .i64 1)) 3, (some (25, true))⟩,
           ⟨(some 29), .indexAddr 28 (.tmp 26) (.tmp 28), (some (25, true))⟩,
           ⟨(some 30), .load 2 (.tmp 29), (some (25, true))⟩,
           ⟨(some 31), .move (.tmp 0), (some (25, true))⟩,
           ⟨(some 32), .move (.tmp 7), (some (25, true))⟩,
           ⟨(some 33), .indexAddr 28 (.tmp 31) (.tmp 32), (some (25, true))⟩,
           ⟨(some 34), .load 2 (.tmp 33), (some (25, true))⟩,
           ⟨(some 35), .binOp .geq 2 (.tmp 30) (.tmp 34) 2, (some (25, true))⟩,
           ⟨(some 36), .pick (.tmp 25) (.tmp 35) (.const (.bool false)), (some (22, false))⟩,
           ⟨(some 37), .pick (.tmp 22) (.const (.bool true)) (.tmp 36), none⟩] [[], [], [0, 1], [0, 1, 2], [], [], [0, 1, 2, 3, 4, 5], [0, 1, 2, 3, 4, 5, 6], [0, 1, 2, 3, 4, 5, 6, 7], [0, 1, 2, 3, 4, 5, 6, 7, 8], [0, 1, 2, 3, 4, 5, 6, 7, 8, 9], [0, 1, 2, 3, 4, 5, 6, 7, 8, 9, 10], [0, 1, 2, 3, 4, 5, 6, 7, 8, 9, 10, 11], [0, 1, 2, 3, 4, 5, 6, 7, 8, 9, 10, 11], [0, 1, 2, 3, 4, 5, 6, 7, 8, 9, 10, 11, 13], [0, 1, 2, 3, 4, 5, 6, 7, 8, 9, 10, 11, 12, 13, 14], [0, 1, 2, 3, 4, 5, 6, 7, 8, 9, 10, 11, 12, 13, 14, 15], [0, 1, 2, 3, 4, 5, 6, 7, 8, 9, 10, 11], [0, 1, 2, 3, 4, 5, 6, 7, 8, 9, 10, 11], [0, 1, 2, 3, 4, 5, 6, 7, 8, 9, 10, 11, 17, 18], [0, 1, 2, 3, 4, 5, 6, 7, 8, 9, 10, 11, 17, 18, 19], [0, 1, 2, 3, 4, 5, 6, 7, 8, 9, 10, 11, 12, 13, 14, 15, 16, 17, 18, 19, 20], [0, 1, 2, 3, 4, 5, 6, 7, 8, 9, 10, 11, 12, 13, 14, 15, 16, 17, 18, 19, 20, 21], [0, 1, 2, 3, 4, 5, 6, 7, 8, 9, 10, 11, 12, 13, 14, 15, 16, 17, 18, 19, 20, 21, 22]])
        (.cond (.tmp 37) (.seq (.reg [⟨(some 6), .assign (.const (.bool false)), none⟩])
          .ret)
         .skip)))
      (.reg [⟨(some 12), .move (.tmp 7), none⟩,
         ⟨(some 13), .binOp .add 3 (.tmp 12) (.const (.int .i64 1)) 3, none⟩,
         ⟨(some 7), .assign (.tmp 13), none⟩]))))))
 (.seq (.reg [⟨(some 6), .assign (.const (.bool true)), none⟩])
  .ret)))
theorem s169 : slimF Tryz.f169 = some (c169, [.t 6], 38) := by kernel_rfl
theorem o169 : okF [(93, g93)] Tryz.f169 = true := by kernel_rfl
noncomputable def g169 : Fsem := sem3 (En.int .i64).list (En.int .i64) (En.int .i64) (fun l lo hi => True) (fun n l lo hi => .bool (rises lo hi l))
@[go_sem] theorem g169_eq {n τ : Nat} {l : List Int} {lo : Int} {hi : Int} : g169 n [.sl τ 1 (l.map (AV.int .i64)), .int .i64 lo, .int .i64 hi] = ⟨True, .bool (rises lo hi l)⟩ := sem3_eq (τ' := 0) (τ'' := 0) (E := (En.int .i64).list) (F := (En.int .i64)) (G := (En.int .i64))
theorem p169 : Pure Tryz.prog 169 g169 := by
  refine sem3_pure fun τ τ' τ'' l lo hi n h2 hpre => ?_
  have hT : Table Tryz.prog [(93, g93)] := (.cons p93 .nil)
  have hn0 : n ≠ 0 := by omega
  refine SatP.of_body hT hm Tryz.func169 s169 o169 h2 (by simp) ?_
  simp only [rises]
  generalize hr : chk (riseP lo hi) none l = r
  simp (config := {contextual := true, maxSteps := 2000000, implicitDefEqProofs := false}) [c169, go_sem]
  refine VW_listK hT h2 hm l [0, 1, 2] (fun pre post (b : Unit) => [(7, .int .i64 pre.length)]) (fun pre post (b : Unit) => chk (riseP lo hi) pre.getLast? post = r) () ?_ ?_ ?_ ?_
  · exact hr
  · simp [SubI, go_sem]
  · intro _ hR
    have hR0 : true = r := hR
    simp (config := {contextual := true, maxSteps := 2000000, implicitDefEqProofs := false}) [go_sem]
    grind
  · rintro pre0 x rest _ hl hlen hR
    rcases List.eq_nil_or_concat pre0 with rfl | ⟨q, y, rfl⟩
    · have hln : l.length = 0 + (rest.length + 1) := by rw [← hl]; simp
      have hn : nth (List.map (AV.int .i64) l) (0) = (AV.int .i64) x := by rw [← hl]; simp [go_sem]
      have hw : l.length ≤ maxLen → IntKind.i64.wrap ((0 : Int) + 1) = (0 : Int) + 1 := fun h => wrap_ok (by omega) (by simp only [maxLen] at h; omega)
      have h3 : (0 : Int) ≤ (0 : Int) := by omega
      have h4 : (0 : Int) < (l.length : Int) := by omega
      have h5 : ¬ (l.length : Int) ≤ (0 : Int) := by omega
      have hw0 : IntKind.i64.wrap 1 = 1 := by decide
      have h4n : 0 < l.length := by omega
      simp only [chk, riseP, incP, List.getLast?_nil] at hR
      (simp (config := {contextual := true, maxSteps := 2000000, implicitDefEqProofs := false}) [go_sem, SubI, hw0, h4n, hn, hw, h3, h4, h5] <;> grind)
    · have hln : l.length = q.length + 1 + (rest.length + 1) := by rw [← hl]; simp; omega
      have hn : nth (List.map (AV.int .i64) l) (q.length + 1) = (AV.int .i64) x := by rw [← hl]; simp [go_sem]
      have hw : l.length ≤ maxLen → IntKind.i64.wrap (((q.length : Int) + 1) + 1) = ((q.length : Int) + 1) + 1 := fun h => wrap_ok (by omega) (by simp only [maxLen] at h; omega)
      have h3 : (0 : Int) ≤ ((q.length : Int) + 1) := by omega
      have h4 : ((q.length : Int) + 1) < (l.length : Int) := by omega
      have h5 : ¬ (l.length : Int) ≤ ((q.length : Int) + 1) := by omega
      have h6 : nth (List.map (AV.int .i64) l) q.length = (AV.int .i64) y := by rw [← hl]; simp [go_sem]
      have h7 : l.length ≤ maxLen → IntKind.i64.wrap (q.length : Int) = (q.length : Int) := fun h => wrap_ok (by omega) (by simp only [maxLen] at h; omega)
      have h8 : (0 : Int) ≤ (q.length : Int) := by omega
      have h9 : (0 : Int) < ((q.length : Int) + 1) := by omega
      have h10 : (q.length : Int) < (l.length : Int) := by omega
      simp only [chk, riseP, incP, last_concat] at hR
      (simp (config := {contextual := true, maxSteps := 2000000, implicitDefEqProofs := false}) [go_sem, SubI, hn, hw, h3, h4, h5, h6, h7, h8, h9, h10] <;> grind)
def c124 : SCode := (.seq (.reg [⟨(some 5), .box 39 (.tmp 0), none⟩,
   ⟨(some 6), .box 41 (.tmp 1), none⟩,
   ⟨(some 10), .assign (.const (.slice none 0 0)), none⟩,
   ⟨(some 11), .assign (.const (.bool false)), none⟩])
(.seq (.seq (.reg [⟨(some 12), .load 39 (.tmp 5), none⟩,
     ⟨(some 13), .call ⟨(.value (.func 43)), #[(.tmp 12)], #[39]⟩, none⟩,
     ⟨(some 14), .unOp .not 4 (.tmp 13), none⟩,
     ⟨(some 15), .move (.tmp 14), none⟩,
     ⟨(some 16), .load 39 (.tmp 5), (some (15, false))⟩,
     ⟨(some 17), .load 41 (.tmp 6), (some (15, false))⟩,
     ⟨(some 18), .call ⟨(.value (.func 44)), #[(.tmp 16), (.tmp 17)], #[39, 41]⟩, (some (15, false))⟩,
     ⟨(some 19), .unOp .not 4 (.tmp 18), (some (15, false))⟩,
     ⟨(some 20), .pick (.tmp 15) (.const (.bool true)) (.tmp 19), none⟩,
     ⟨(some 21), .move (.tmp 20), none⟩,
     ⟨(some 22), .move (.tmp 3), (some (21, false))⟩,
     ⟨(some 23), .call ⟨(.value (.func 93)), #[(.tmp 22), (.const (.int .i64 0)), (.const (.int .i64 7))], #[2, 2, 2]⟩, (some (21, false))⟩,
     ⟨(some 24), .unOp .not 4 (.tmp 23), (some (21, false))⟩,
     ⟨(some 25), .pick (.tmp 21) (.const (.bool true)) (.tmp 24), none⟩,
     ⟨(some 26), .move (.tmp 25), none⟩,
     ⟨(some 27), .move (.tmp 4), (some (26, false))⟩,
     ⟨(some 28), .call ⟨(.value (.func 169)), #[(.tmp 27), (.const (.int .i64 0)), (.const (.int .i64 15))], #[28, 2, 2]⟩, (some (26, false))⟩,
     ⟨(some 29), .unOp .not 4 (.tmp 28), (some (26, false))⟩,
     ⟨(some 30), .pick (.tmp 26) (.const (.bool true)) (.tmp 29), none⟩])
  (.cond (.tmp 30) (.seq (.reg [⟨(some 31), .buildSlice 28 0 #[], none⟩,
       ⟨(some 10), .assign (.tmp 31), none⟩,
       ⟨(some 11), .assign (.const (.bool false)), none⟩])
    .ret)
   .skip))
 (.seq (.reg [⟨(some 32), .load 39 (.tmp 5), none⟩,
     ⟨(some 33), .load 41 (.tmp 6), none⟩,
     ⟨(some 34), .move (.tmp 2), none⟩,
     ⟨(some 35), .move (.tmp 3), none⟩,
     ⟨(some 36), .move (.tmp 4), none⟩,
     ⟨(some 37), .call ⟨(.value (.func 170)), #[(.tmp 32), (.tmp 33), (.tmp 34), (.tmp 35), (.tmp 36)], #[39, 41, 2, 2, 28]⟩, none⟩,
     ⟨(some 10), .assign (.tmp 37), none⟩,
     ⟨(some 11), .assign (.const (.bool true)), none⟩])
  .ret)))
theorem s124 : slimF Tryz.f124 = some (c124, [.t 10, .t 11], 38) := by kernel_rfl
theorem o124 : okF [(43, g43), (44, g44), (93, g93), (169, g169), (170, g170)] Tryz.f124 = true := by kernel_rfl
noncomputable def g124 : Fsem := semT5 enTree enRule (En.int .i64) (En.int .i64) (En.int .i64).list (fun τ t r seed N out => τ ≠ 0 ∧ treeOk t = true ∧ ruleOk t r = true ∧ 0 ≤ N ∧ N ≤ 7 ∧ rises 0 15 out = true) (fun n τ t r seed N out => .tup [.sl n 1 ((placeR t r seed N out).map (AV.int .i64)), .bool true])
@[go_sem] theorem g124_eq {n τ τ4 : Nat} {t : Tree} {r : Rule} {seed : Int} {N : Int} {out : List Int} : g124 n [.agg [.sl τ 2 (t.devices.map (enDev.av τ)), .sl τ 3 (t.buckets.map (enBkt.av τ))], .agg [.int .i64 r.id, .int .i64 r.root, .int .i64 r.kind, .bool r.indep], .int .i64 seed, .int .i64 N, .sl τ4 1 (out.map (AV.int .i64))] = ⟨τ ≠ 0 ∧ treeOk t = true ∧ ruleOk t r = true ∧ 0 ≤ N ∧ N ≤ 7 ∧ rises 0 15 out = true, .tup [.sl n 1 ((placeR t r seed N out).map (AV.int .i64)), .bool true]⟩ := semT5_eq (τ' := 0) (τ'' := 0) (τ3 := 0) (E := enTree) (F := enRule) (G := (En.int .i64)) (H := (En.int .i64)) (J := (En.int .i64).list) (seen_Tree)
theorem p124 : Pure Tryz.prog 124 g124 := by
  refine semT5_pure fun τ τ' τ'' τ3 τ4 t r seed N out n h2 hpre => ?_
  have hT : Table Tryz.prog [(43, g43), (44, g44), (93, g93), (169, g169), (170, g170)] := (.cons p43 (.cons p44 (.cons p93 (.cons p169 (.cons p170 .nil)))))
  have hn0 : n ≠ 0 := by omega
  refine SatP.of_body hT hm Tryz.func124 s124 o124 h2 (by simp) ?_
  obtain ⟨hp, ht, hr, hN0, hN7, ho⟩ := hpre
  have h8 : l08Ok t r = true := by have := l08_eq (t := t) (r := r); rw [ht, hr] at this; simpa using this
  have hb : btw N 0 7 = true := by simp only [btw, Bool.and_eq_true, decide_eq_true_eq]; exact ⟨hN0, hN7⟩
  simp (config := {contextual := true, maxSteps := 2000000, implicitDefEqProofs := false}) [c124, go_sem, hp, ht, hr, hN0, hN7, ho, h8, hb, hn0]
def c134 : SCode := (.seq (.reg [⟨(some 1), .box 44 (.tmp 0), none⟩,
   ⟨(some 2), .assign (.const (.int .i64 0)), none⟩])
(.seq (.reg [⟨(some 3), .fieldAddr 44 (.tmp 1) 0, none⟩,
    ⟨(some 4), .load 2 (.tmp 3), none⟩,
    ⟨(some 5), .fieldAddr 44 (.tmp 1) 1, none⟩,
    ⟨(some 6), .load 2 (.tmp 5), none⟩,
    ⟨(some 7), .buildSlice 28 2 #[(0, (.tmp 4)), (1, (.tmp 6))], none⟩,
    ⟨(some 8), .call ⟨(.value (.func 186)), #[(.tmp 7)], #[28]⟩, none⟩,
    ⟨(some 2), .assign (.tmp 8), none⟩])
 .ret))
theorem s134 : slimF Tryz.f134 = some (c134, [.t 2], 9) := by kernel_rfl
theorem o134 : okF [(186, g186)] Tryz.f134 = true := by kernel_rfl
noncomputable def g134 : Fsem := sem1 enPg (fun g => True) (fun n g => .int .i64 (mixI [g.pool, g.no]))
@[go_sem] theorem g134_eq {n : Nat} {g : Pg} : g134 n [.agg [.int .i64 g.pool, .int .i64 g.no]] = ⟨True, .int .i64 (mixI [g.pool, g.no])⟩ := sem1_eq (τ := 0) (E := enPg)
theorem p134 : Pure Tryz.prog 134 g134 := by
  refine sem1_pure fun τ g n h2 hpre => ?_
  have hT : Table Tryz.prog [(186, g186)] := (.cons p186 .nil)
  have hn0 : n ≠ 0 := by omega
  refine SatP.of_body hT hm Tryz.func134 s134 o134 h2 (by simp) ?_
  have hg := g186_eq (n := n) (τ := 0) (ls := [g.pool, g.no])
  simp only [List.map_cons, List.map_nil] at hg
  simp (config := {contextual := true, maxSteps := 2000000, implicitDefEqProofs := false}) [c134, go_sem, hg]
def c171 : SCode := (.seq (.reg [⟨(some 1), .box 44 (.tmp 0), none⟩,
   ⟨(some 2), .assign (.const (.int .i64 0)), none⟩])
(.seq (.reg [⟨(some 3), .fieldAddr 44 (.tmp 1) 0, none⟩,
    ⟨(some 4), .load 2 (.tmp 3), none⟩,
    ⟨(some 5), .fieldAddr 44 (.tmp 1) 1, none⟩,
    ⟨(some 6), .load 2 (.tmp 5), none⟩,
    ⟨(some 7), .buildSlice 28 2 #[(0, (.tmp 4)), (1, (.tmp 6))], none⟩,
    ⟨(some 8), .call ⟨(.value (.func 203)), #[(.tmp 7)], #[28]⟩, none⟩,
    ⟨(some 2), .assign (.tmp 8), none⟩])
 .ret))
theorem s171 : slimF Tryz.f171 = some (c171, [.t 2], 9) := by kernel_rfl
theorem o171 : okF [(203, g203)] Tryz.f171 = true := by kernel_rfl
noncomputable def g171 : Fsem := sem1 enPg (fun g => True) (fun n g => .int .i64 (mixI [g.pool, g.no]))
@[go_sem] theorem g171_eq {n : Nat} {g : Pg} : g171 n [.agg [.int .i64 g.pool, .int .i64 g.no]] = ⟨True, .int .i64 (mixI [g.pool, g.no])⟩ := sem1_eq (τ := 0) (E := enPg)
theorem p171 : Pure Tryz.prog 171 g171 := by
  refine sem1_pure fun τ g n h2 hpre => ?_
  have hT : Table Tryz.prog [(203, g203)] := (.cons p203 .nil)
  have hn0 : n ≠ 0 := by omega
  refine SatP.of_body hT hm Tryz.func171 s171 o171 h2 (by simp) ?_
  have hg := g203_eq (n := n) (τ := 0) (ls := [g.pool, g.no])
  simp only [List.map_cons, List.map_nil] at hg
  simp (config := {contextual := true, maxSteps := 2000000, implicitDefEqProofs := false}) [c171, go_sem, hg]
def c125 : SCode := (.seq (.reg [⟨(some 1), .box 44 (.tmp 0), none⟩,
   ⟨(some 2), .assign (.const (.int .i64 0)), none⟩])
(.seq (.reg [⟨(some 3), .load 44 (.tmp 1), none⟩,
    ⟨(some 4), .call ⟨(.value (.func 171)), #[(.tmp 3)], #[44]⟩, none⟩,
    ⟨(some 2), .assign (.tmp 4), none⟩])
 .ret))
theorem s125 : slimF Tryz.f125 = some (c125, [.t 2], 5) := by kernel_rfl
theorem o125 : okF [(171, g171)] Tryz.f125 = true := by kernel_rfl
noncomputable def g125 : Fsem := sem1 enPg (fun g => True) (fun n g => .int .i64 (mixI [g.pool, g.no]))
@[go_sem] theorem g125_eq {n : Nat} {g : Pg} : g125 n [.agg [.int .i64 g.pool, .int .i64 g.no]] = ⟨True, .int .i64 (mixI [g.pool, g.no])⟩ := sem1_eq (τ := 0) (E := enPg)
theorem p125 : Pure Tryz.prog 125 g125 := by
  refine sem1_pure fun τ g n h2 hpre => ?_
  have hT : Table Tryz.prog [(171, g171)] := (.cons p171 .nil)
  have hn0 : n ≠ 0 := by omega
  refine SatP.of_body hT hm Tryz.func125 s125 o125 h2 (by simp) ?_
  simp (config := {contextual := true, maxSteps := 2000000, implicitDefEqProofs := false}) [c125, go_sem]
def c69 : SCode := (.seq (.reg [⟨(some 2), .box 65 (.tmp 0), none⟩,
   ⟨(some 3), .box 44 (.tmp 1), none⟩,
   ⟨(some 4), .assign (.const (.bool false)), none⟩])
(.seq (.reg [⟨(some 6), .load 65 (.tmp 2), none⟩,
    ⟨(some 7), .fieldAddr 44 (.tmp 3) 0, none⟩,
    ⟨(some 8), .load 2 (.tmp 7), none⟩,
    ⟨(some 9), .call ⟨(.value (.func 131)), #[(.tmp 6), (.tmp 8)], #[65, 2]⟩, none⟩,
    ⟨(some 5), .assign (.tmp 9), none⟩])
 (.seq (.draw [⟨(some 10), .move (.tmp 5), none⟩,
     ⟨(some 11), .binOp .neq 162 (.tmp 10) (.const (.pointer none)) 162, none⟩,
     ⟨(some 12), .move (.tmp 11), none⟩,
     ⟨(some 13), .fieldAddr 44 (.tmp 3) 1, (some (12, true))⟩,
     ⟨(some 14), .load 2 (.tmp 13), (some (12, true))⟩,
     ⟨(some 15), .move (.tmp 5), (some (12, true))⟩,
     ⟨(some 16), .nilCheck (.tmp 15), (some (12, true))⟩,
     ⟨(some 17), .fieldAddr 152 (.tmp 16) 3, (some (12, true))⟩,
     ⟨(some 18), .load 2 (.tmp 17), (some (12, true))⟩,
     ⟨(some 19), .binOp .sub 2 (.tmp 18) (.const (.int .i64 1)) 2, (some (12, true))⟩,
     ⟨(some 20), .call ⟨(.value (.func 82)), #[(.tmp 14), (.const (.int .i64 0)), (.tmp 19)], #[2, 2, 2]⟩, (some (12, true))⟩,
     ⟨(some 21), .pick (.tmp 12) (.tmp 20) (.const (.bool false)), none⟩,
     ⟨(some 4), .assign (.tmp 21), none⟩] [[], [0], [0, 1], [0, 1, 2], [0, 1, 2, 3], [0, 1, 2], [0, 1, 2, 5], [0, 1, 2, 5, 6], [0, 1, 2, 5, 6, 7], [0, 1, 2, 5, 6, 7, 8], [0, 1, 2, 3, 4, 5, 6, 7, 8, 9], [0, 1, 2, 3, 4, 5, 6, 7, 8, 9, 10], [0, 1, 2, 3, 4, 5, 6, 7, 8, 9, 10, 11]])
  .ret)))
theorem s69 : slimF Tryz.f69 = some (c69, [.t 4], 22) := by kernel_rfl
theorem o69 : okF [(131, g131), (82, g82)] Tryz.f69 = true := by kernel_rfl
noncomputable def g69 : Fsem := semT2 enMp enPg (fun τ m g => τ ≠ 0) (fun n τ m g => .bool (hasPg m g))
@[go_sem] theorem g69_eq {n τ : Nat} {m : Mp} {g : Pg} : g69 n [.agg [.int .i64 m.epoch, .int .i64 m.term, .sl τ 2 (m.tree.devices.map (enDev.av τ)), .sl τ 3 (m.tree.buckets.map (enBkt.av τ)), .sl τ 4 (m.rules.map (enRule.av τ)), .sl τ 6 (m.pools.map (enPool.av τ)), .sl τ 1 (m.up.map (AV.int .i64)), .sl τ 1 (m.out.map (AV.int .i64))], .agg [.int .i64 g.pool, .int .i64 g.no]] = ⟨τ ≠ 0, .bool (hasPg m g)⟩ := semT2_eq (τ' := 0) (E := enMp) (F := enPg) (seen_Mp)
theorem p69 : Pure Tryz.prog 69 g69 := by
  refine semT2_pure fun τ τ' m g n h2 hpre => ?_
  have hT : Table Tryz.prog [(131, g131), (82, g82)] := (.cons p131 (.cons p82 .nil))
  have hn0 : n ≠ 0 := by omega
  refine SatP.of_body hT hm Tryz.func69 s69 o69 h2 (by simp) ?_
  have hp : τ ≠ 0 := hpre
  cases hb : poolO m g.pool with
  | none => simp (config := {contextual := true, maxSteps := 2000000, implicitDefEqProofs := false}) [c69, go_sem, hp, hb, hasPg]
  | some p => simp (config := {contextual := true, maxSteps := 2000000, implicitDefEqProofs := false}) [c69, go_sem, hp, hb, hasPg]
def c64 : SCode := (.seq (.reg [⟨(some 2), .box 65 (.tmp 0), none⟩,
   ⟨(some 3), .box 44 (.tmp 1), none⟩,
   ⟨(some 4), .assign (.const (.bool false)), none⟩])
(.seq (.reg [⟨(some 6), .load 65 (.tmp 2), none⟩,
    ⟨(some 7), .fieldAddr 44 (.tmp 3) 0, none⟩,
    ⟨(some 8), .load 2 (.tmp 7), none⟩,
    ⟨(some 9), .call ⟨(.value (.func 123)), #[(.tmp 6), (.tmp 8)], #[65, 2]⟩, none⟩,
    ⟨(some 5), .assign (.tmp 9), none⟩])
 (.seq (.draw [⟨(some 10), .move (.tmp 5), none⟩,
     ⟨(some 11), .binOp .geq 3 (.tmp 10) (.const (.int .i64 0)) 3, none⟩,
     ⟨(some 12), .move (.tmp 11), none⟩,
     ⟨(some 13), .fieldAddr 44 (.tmp 3) 1, (some (12, true))⟩,
     ⟨(some 14), .load 2 (.tmp 13), (some (12, true))⟩,
     ⟨(some 15), .fieldAddr 65 (.tmp 2) 4, (some (12, true))⟩,
     ⟨(some 16), .load 63 (.tmp 15), (some (12, true))⟩,
     ⟨(some 17), .move (.tmp 5), (some (12, true))⟩,
     ⟨(some 18), .indexAddr 63 (.tmp 16) (.tmp 17), (some (12, true))⟩,
     ⟨(some 19), .fieldAddr 152 (.tmp 18) 3, (some (12, true))⟩,
     ⟨(some 20), .load 2 (.tmp 19), (some (12, true))⟩,
     ⟨(some 21), .binOp .sub 2 (.tmp 20) (.const (.int .i64 1)) 2, (some (12, true))⟩,
     ⟨(some 22), .call ⟨(.value (.func 93)), #[(.tmp 14), (.const (.int .i64 0)), (.tmp 21)], #[2, 2, 2]⟩, (some (12, true))⟩,
     ⟨(some 23), .pick (.tmp 12) (.tmp 22) (.const (.bool false)), none⟩,
     ⟨(some 4), .assign (.tmp 23), none⟩] [[], [0], [0, 1], [0, 1, 2], [0, 1, 2, 3], [0, 1, 2], [0, 1, 2, 5], [0, 1, 2], [0, 1, 2, 5, 6, 7], [0, 1, 2, 5, 6, 7, 8], [0, 1, 2, 5, 6, 7, 8, 9], [0, 1, 2, 5, 6, 7, 8, 9, 10], [0, 1, 2, 3, 4, 5, 6, 7, 8, 9, 10, 11], [0, 1, 2, 3, 4, 5, 6, 7, 8, 9, 10, 11, 12], [0, 1, 2, 3, 4, 5, 6, 7, 8, 9, 10, 11, 12, 13]])
  .ret)))
theorem s64 : slimF Tryz.f64 = some (c64, [.t 4], 24) := by kernel_rfl
theorem o64 : okF [(123, g123), (93, g93)] Tryz.f64 = true := by kernel_rfl
noncomputable def g64 : Fsem := sem2 enMp enPg (fun m g => True) (fun n m g => .bool (hasPg m g))
@[go_sem] theorem g64_eq {n τ : Nat} {m : Mp} {g : Pg} : g64 n [.agg [.int .i64 m.epoch, .int .i64 m.term, .sl τ 2 (m.tree.devices.map (enDev.av τ)), .sl τ 3 (m.tree.buckets.map (enBkt.av τ)), .sl τ 4 (m.rules.map (enRule.av τ)), .sl τ 6 (m.pools.map (enPool.av τ)), .sl τ 1 (m.up.map (AV.int .i64)), .sl τ 1 (m.out.map (AV.int .i64))], .agg [.int .i64 g.pool, .int .i64 g.no]] = ⟨True, .bool (hasPg m g)⟩ := sem2_eq (τ' := 0) (E := enMp) (F := enPg)
theorem p64 : Pure Tryz.prog 64 g64 := by
  refine sem2_pure fun τ τ' m g n h2 hpre => ?_
  have hT : Table Tryz.prog [(123, g123), (93, g93)] := (.cons p123 (.cons p93 .nil))
  have hn0 : n ≠ 0 := by omega
  refine SatP.of_body hT hm Tryz.func64 s64 o64 h2 (by simp) ?_
  rcases idx_spec (fun b : Pool => decide (b.id = g.pool)) m.pools with ⟨h1, hb⟩ | ⟨a, x, b, hl, h2, h3, hb⟩
  · simp (config := {contextual := true, maxSteps := 2000000, implicitDefEqProofs := false}) [c64, go_sem, h1, hasPg, poolO, hb]
  · have h4 : (0 : Int) ≤ a.length := by omega
    have h5 : ¬ (a.length : Int) < 0 := by omega
    have h6 : (a.length : Int) < (m.pools.length : Int) := by rw [hl]; simp; omega
    have h7 : nth (List.map (enPool.av τ) m.pools) a.length = enPool.av τ x := by rw [hl]; simp [go_sem]
    simp (config := {contextual := true, maxSteps := 2000000, implicitDefEqProofs := false}) [c64, go_sem, h3, h4, h5, h6, h7, hasPg, poolO, hb]
end Go.Ve
namespace Go.Ve
open Go.Proofs Go.RowKit
set_option linter.unusedVariables false
set_option linter.unusedSimpArgs false
set_option maxRecDepth 10000
set_option maxHeartbeats 4000000
def c70 : SCode := (.seq (.reg [⟨(some 2), .box 65 (.tmp 0), none⟩,
   ⟨(some 3), .box 44 (.tmp 1), none⟩,
   ⟨(some 4), .assign (.const (.slice none 0 0)), none⟩])
(.seq (.reg [⟨(some 9), .load 65 (.tmp 2), none⟩,
    ⟨(some 10), .fieldAddr 44 (.tmp 3) 0, none⟩,
    ⟨(some 11), .load 2 (.tmp 10), none⟩,
    ⟨(some 12), .call ⟨(.value (.func 131)), #[(.tmp 9), (.tmp 11)], #[65, 2]⟩, none⟩,
    ⟨(some 5), .assign (.tmp 12), none⟩])
 (.seq (.draw [⟨(some 13), .fieldAddr 65 (.tmp 2) 2, none⟩,
     ⟨(some 14), .load 39 (.tmp 13), none⟩,
     ⟨(some 15), .load 65 (.tmp 2), none⟩,
     ⟨(some 16), .move (.tmp 5), none⟩,
     ⟨(some 17), .nilCheck (.tmp 16), none⟩,
     ⟨(some 18), .fieldAddr 152 (.tmp 17) 4, none⟩,
     ⟨(some 19), .load 2 (.tmp 18), none⟩,
     ⟨(some 20), .call ⟨(.value (.func 133)), #[(.tmp 15), (.tmp 19)], #[65, 2]⟩, none⟩,
     ⟨(some 21), .nilCheck (.tmp 20), none⟩,
     ⟨(some 22), .load 41 (.tmp 21), none⟩,
     ⟨(some 23), .load 44 (.tmp 3), none⟩,
     ⟨(some 24), .call ⟨(.value (.func 134)), #[(.tmp 23)], #[44]⟩, none⟩,
     ⟨(some 25), .move (.tmp 5), none⟩,
     ⟨(some 26), .nilCheck (.tmp 25), none⟩,
     ⟨(some 27), .fieldAddr 152 (.tmp 26) 1, none⟩,
     ⟨(some 28), .load 150 (.tmp 27), none⟩,
     ⟨(some 29), .call ⟨(.value (.func 135)), #[(.tmp 28)], #[150]⟩, none⟩,
     ⟨(some 30), .fieldAddr 65 (.tmp 2) 6, none⟩,
     ⟨(some 31), .load 28 (.tmp 30), none⟩,
     ⟨(some 32), .call ⟨(.value (.func 132)), #[(.tmp 14), (.tmp 22), (.tmp 24), (.tmp 29), (.tmp 31)], #[39, 41, 2, 2, 28]⟩, none⟩,
     ⟨(some 6), .assign (.tmp 32), none⟩] [[], [0], [], [], [3], [3, 4], [3, 4, 5], [2, 3, 4, 5, 6], [2, 3, 4, 5, 6, 7], [2, 3, 4, 5, 6, 7, 8], [], [2, 3, 4, 5, 6, 7, 10], [], [12], [12, 13], [12, 13, 14], [2, 3, 4, 5, 6, 7, 10, 11, 12, 13, 14, 15], [], [17], [0, 1, 2, 3, 4, 5, 6, 7, 8, 9, 10, 11, 12, 13, 14, 15, 16, 17, 18], [0, 1, 2, 3, 4, 5, 6, 7, 8, 9, 10, 11, 12, 13, 14, 15, 16, 17, 18, 19]])
  (.seq (.seq (.reg [⟨(some 33), .move (.tmp 6), none⟩,
       ⟨(some 34), .call ⟨(.builtin .len), #[(.tmp 33)], #[28]⟩, none⟩,
       ⟨(some 35), .move (.const (.int .i64 0)), none⟩])
    (.block 0 (.loop (.seq (.reg [⟨(some 36), .binOp .lss 3 (.tmp 35) (.tmp 34) 3, none⟩])
       (.seq (.cond (.tmp 36) .skip
         (.exit 0))
        (.seq (.block 1 (.seq (.reg [⟨(some 37), .move (.tmp 35), none⟩,
              ⟨(some 38), .indexAddr 28 (.tmp 33) (.tmp 35), none⟩,
              ⟨(some 39), .load 2 (.tmp 38), none⟩,
              ⟨(some 7), .assign (.tmp 37), none⟩,
              ⟨(some 8), .assign (.tmp 39), none⟩])
           (.seq (.reg [⟨(some 40), .fieldAddr 65 (.tmp 2) 5, none⟩,
               ⟨(some 41), .load 28 (.tmp 40), none⟩,
               ⟨(some 42), .move (.tmp 8), none⟩,
               ⟨(some 43), .call ⟨(.value (.func 83)), #[(.tmp 41), (.tmp 42)], #[28, 2]⟩, none⟩,
               ⟨(some 44), .unOp .not 4 (.tmp 43), none⟩])
            (.cond (.tmp 44) (.reg [⟨(some 45), .move (.tmp 6), none⟩,
                ⟨(some 46), .move (.tmp 7), none⟩,
                ⟨(some 47), .indexAddr 28 (.tmp 45) (.tmp 46), none⟩,
                ⟨none, .store 2 (.tmp 47) (.const (.int .i64 (-1))), none⟩])
             .skip))))
         (.reg [⟨(some 48), .binOp .add 3 (.tmp 35) (.const (.int .i64 1)) 3, none⟩,
            ⟨(some 35), .move (.tmp 48), none⟩])))))))
   (.seq (.reg [⟨(some 49), .move (.tmp 6), none⟩,
       ⟨(some 4), .assign (.tmp 49), none⟩])
    .ret)))))
theorem s70 : slimF Tryz.f70 = some (c70, [.t 4], 50) := by kernel_rfl
theorem o70 : okF [(131, g131), (133, g133), (134, g134), (135, g135), (83, g83)] Tryz.f70 = true := by kernel_rfl
theorem sat_70 {n : Nat} (h2 : 2 ≤ n) {τ : Nat} {m : Mp} {g : Pg} (hp : τ ≠ 0) (hmo : mapOk m = true) (hg : hasPg m g = true) : SatM Tryz.prog n 70 [] [.agg [.int .i64 m.epoch, .int .i64 m.term, .sl τ 2 (m.tree.devices.map (enDev.av τ)), .sl τ 3 (m.tree.buckets.map (enBkt.av τ)), .sl τ 4 (m.rules.map (enRule.av τ)), .sl τ 6 (m.pools.map (enPool.av τ)), .sl τ 1 (m.up.map (AV.int .i64)), .sl τ 1 (m.out.map (AV.int .i64))], .agg [.int .i64 g.pool, .int .i64 g.no]] [.row 2 1 ((actR m g).map (AV.int .i64))] (.osl 0 1 0 (actR m g).length) := by
  have hT : Table Tryz.prog [(131, g131), (133, g133), (134, g134), (135, g135), (83, g83)] := (.cons p131 (.cons p133 (.cons p134 (.cons p135 (.cons p83 .nil)))))
  have hn0 : n ≠ 0 := by omega
  refine SatM.of_bodyV hT hm Tryz.func70 s70 o70 h2 (by simp) ?_
  obtain ⟨p, r, hpo, hro, ht, hr, hs1, hs7, hsz, ho, hu, _, hact, _⟩ := pg_facts hmo hg
  have hPl : (placeR m.tree r (mixI [g.pool, g.no]) (p.code.k + p.code.m) m.out).length = (p.code.k + p.code.m).toNat := placeR_len
  have hPl7 : (placeR m.tree r (mixI [g.pool, g.no]) (p.code.k + p.code.m) m.out).length ≤ 7 := by omega
  rw [hact]
  simp (config := {contextual := true, maxSteps := 2000000, implicitDefEqProofs := false}) [c70, go_sem, hpo, hro, hp, hsz]
  refine ⟨132, [], rfl, [], n, [.row 2 1 ((placeR m.tree r (mixI [g.pool, g.no]) (p.code.k + p.code.m) m.out).map (AV.int .i64))], .osl 0 1 0 (placeR m.tree r (mixI [g.pool, g.no]) (p.code.k + p.code.m) m.out).length, Nat.le_refl _, by simp, by simp, by simp [go_sem, posOf], by simpa [go_sem, rinOf, posOf] using sat_132 h2 (τ := τ) (τ' := τ) hp ht hr hs1 hs7 ho, ?_⟩
  simp (config := {contextual := true, maxSteps := 2000000, implicitDefEqProofs := false}) [go_sem, stOf, putAll, gmap, Root.ren, AV.ren, AV.ren2, AV.ren1, AV.ren0]
  generalize (placeR m.tree r (mixI [g.pool, g.no]) (p.code.k + p.code.m) m.out) = l at *
  intro hL
  refine VW_listKE [] [2, 6] hT h2 hm l [2, 34] (fun pre post (u0 : Unit) => [.box 65 [.int .i64 m.epoch, .int .i64 m.term, .sl τ 2 (m.tree.devices.map (enDev.av τ)), .sl τ 3 (m.tree.buckets.map (enBkt.av τ)), .sl τ 4 (m.rules.map (enRule.av τ)), .sl τ 6 (m.pools.map (enPool.av τ)), .sl τ 1 (m.up.map (AV.int .i64)), .sl τ 1 (m.out.map (AV.int .i64))], .row 2 1 (pre.map (AV.int .i64 ∘ dnI m) ++ post.map (AV.int .i64))]) (fun pre post (u0 : Unit) => [(35, .int .i64 pre.length), (33, .osl 1 1 0 l.length), (6, .osl 1 1 0 l.length)]) (fun pre post (u0 : Unit) => True) () ?_ ?_ ?_ ?_
  · trivial
  · simp only [subE_go, subR_go, anOf_nil, anOf_cons, tmOk_nil, tmOk_cons]
    simp [go_sem, subE_go, subR_go, anOf_nil, anOf_cons, tmOk_nil, tmOk_cons]
  · intro _ _
    simp (config := {contextual := true, maxSteps := 2000000, implicitDefEqProofs := false}) [go_sem]
    refine ⟨_, [1], Sub.refl 0 _, ?_⟩
    simp [retM, resAV, rvV, rinOf, Root.rnp, AV.rnp, AV.rnp2, AV.rnp1, AV.rnp0, posOf, go_sem, Rz, nz_int, nz_osl, nz_tup]
  · rintro pre x post _ hl hlen _
    have hln : l.length = pre.length + (post.length + 1) := by rw [← hl]; simp
    have hw : l.length ≤ maxLen → IntKind.i64.wrap ((pre.length : Int) + 1) = (pre.length : Int) + 1 := fun h => wrap_ok (by omega) (by simp only [maxLen] at h; omega)
    have h3 : (0 : Int) ≤ pre.length := by omega
    have h4 : (pre.length : Int) < (l.length : Int) := by omega
    have h5 : ¬ (l.length : Int) ≤ (pre.length : Int) := by omega
    have hA : (pre.map (AV.int .i64 ∘ dnI m)).length = pre.length := by simp
    have hdn : dnI m x = if has m.up x = true then x else -1 := rfl
    have hnA : ∀ y : AV, nth (pre.map (AV.int .i64 ∘ dnI m) ++ y :: List.map (AV.int .i64) post) pre.length = y := fun y => by rw [show pre.length = (pre.map (AV.int .i64 ∘ dnI m)).length from hA.symm]; simp only [nth, List.getD_eq_getElem?_getD]; simp
    have hsA : ∀ y z : AV, (pre.map (AV.int .i64 ∘ dnI m) ++ y :: List.map (AV.int .i64) post).set pre.length z = pre.map (AV.int .i64 ∘ dnI m) ++ z :: List.map (AV.int .i64) post := fun y z => by rw [List.set_append_right _ _ (by omega), hA, Nat.sub_self, List.set_cons_zero]
    have hAl : ∀ y : AV, (pre.map (AV.int .i64 ∘ dnI m) ++ y :: List.map (AV.int .i64) post).length = (pre.map (AV.int .i64 ∘ dnI m)).length + (post.length + 1) := fun y => by simp
    have h6 : pre.length < (pre.map (AV.int .i64 ∘ dnI m)).length + (post.length + 1) := by omega
    have h7 : pre.length < l.length := by omega
    cases hx : has m.up x with
    | false =>
      rw [hx, if_neg (by simp)] at hdn
      simp (config := {contextual := true, maxSteps := 2000000, implicitDefEqProofs := false}) [go_sem, hnA, hsA, hAl, hw, hL, h3, h4, h5, h6, h7, hx, setEl]
      generalize pre.map (AV.int .i64 ∘ dnI m) = A at *
      simp only [subE_go, subR_go, anOf_nil, anOf_cons, tmOk_nil, tmOk_cons]
      simp (config := {contextual := true, maxSteps := 2000000, implicitDefEqProofs := false}) [go_sem, subE_go, subR_go, anOf_nil, anOf_cons, tmOk_nil, tmOk_cons, hdn]
    | true =>
      rw [hx, if_pos rfl] at hdn
      simp (config := {contextual := true, maxSteps := 2000000, implicitDefEqProofs := false}) [go_sem, hnA, hsA, hAl, hw, hL, h3, h4, h5, h6, h7, hx, setEl]
      generalize pre.map (AV.int .i64 ∘ dnI m) = A at *
      simp only [subE_go, subR_go, anOf_nil, anOf_cons, tmOk_nil, tmOk_cons]
      simp (config := {contextual := true, maxSteps := 2000000, implicitDefEqProofs := false}) [go_sem, subE_go, subR_go, anOf_nil, anOf_cons, tmOk_nil, tmOk_cons, hdn]
end Go.Ve
namespace Go.Ve
open Go.Proofs Go.RowKit
set_option linter.unusedVariables false
set_option linter.unusedSimpArgs false
set_option maxRecDepth 10000
set_option maxHeartbeats 4000000
theorem pool_at {m : Mp} {id : Int} {p : Pool} (h : poolO m id = some p) : ∃ a : Nat, idx (fun d : Pool => decide (d.id = id)) m.pools = a ∧ a < m.pools.length ∧ ∀ τ, nth (m.pools.map (enPool.av τ)) a = enPool.av τ p := by
  rcases idx_spec (fun b : Pool => decide (b.id = id)) m.pools with ⟨h1, hb⟩ | ⟨a, x, q, hl, h2, h3, hb⟩
  · unfold poolO at h; rw [hb] at h; cases h
  · unfold poolO at h
    rw [hb] at h
    obtain rfl := Option.some.inj h
    exact ⟨a.length, h3, by rw [hl]; simp, fun τ => by rw [hl]; simp [go_sem]⟩
theorem rule_at {m : Mp} {id : Int} {p : Rule} (h : ruleO m id = some p) : ∃ a : Nat, idx (fun d : Rule => decide (d.id = id)) m.rules = a ∧ a < m.rules.length ∧ ∀ τ, nth (m.rules.map (enRule.av τ)) a = enRule.av τ p := by
  rcases idx_spec (fun b : Rule => decide (b.id = id)) m.rules with ⟨h1, hb⟩ | ⟨a, x, q, hl, h2, h3, hb⟩
  · unfold ruleO at h; rw [hb] at h; cases h
  · unfold ruleO at h
    rw [hb] at h
    obtain rfl := Option.some.inj h
    exact ⟨a.length, h3, by rw [hl]; simp, fun τ => by rw [hl]; simp [go_sem]⟩
def c65 : SCode := (.seq (.reg [⟨(some 2), .box 65 (.tmp 0), none⟩,
   ⟨(some 3), .box 44 (.tmp 1), none⟩,
   ⟨(some 4), .assign (.const (.slice none 0 0)), none⟩])
(.seq (.draw [⟨(some 10), .fieldAddr 65 (.tmp 2) 4, none⟩,
    ⟨(some 11), .load 63 (.tmp 10), none⟩,
    ⟨(some 12), .load 65 (.tmp 2), none⟩,
    ⟨(some 13), .fieldAddr 44 (.tmp 3) 0, none⟩,
    ⟨(some 14), .load 2 (.tmp 13), none⟩,
    ⟨(some 15), .call ⟨(.value (.func 123)), #[(.tmp 12), (.tmp 14)], #[65, 2]⟩, none⟩,
    ⟨(some 16), .indexAddr 63 (.tmp 11) (.tmp 15), none⟩,
    ⟨(some 17), .load 152 (.tmp 16), none⟩,
    ⟨(some 5), .alloc 152, none⟩,
    ⟨none, .store 152 (.tmp 5) (.tmp 17), none⟩] [[], [0], [], [], [3], [2, 3, 4], [0, 1, 2, 3, 4, 5], [0, 1, 2, 3, 4, 5, 6], [], [0, 1, 2, 3, 4, 5, 6, 7, 8]])
 (.seq (.draw [⟨(some 19), .fieldAddr 65 (.tmp 2) 2, none⟩,
     ⟨(some 20), .load 39 (.tmp 19), none⟩,
     ⟨(some 21), .fieldAddr 65 (.tmp 2) 3, none⟩,
     ⟨(some 22), .load 62 (.tmp 21), none⟩,
     ⟨(some 23), .load 65 (.tmp 2), none⟩,
     ⟨(some 24), .fieldAddr 152 (.tmp 5) 4, none⟩,
     ⟨(some 25), .load 2 (.tmp 24), none⟩,
     ⟨(some 26), .call ⟨(.value (.func 121)), #[(.tmp 23), (.tmp 25)], #[65, 2]⟩, none⟩,
     ⟨(some 27), .indexAddr 62 (.tmp 22) (.tmp 26), none⟩,
     ⟨(some 28), .load 41 (.tmp 27), none⟩,
     ⟨(some 29), .load 44 (.tmp 3), none⟩,
     ⟨(some 30), .call ⟨(.value (.func 125)), #[(.tmp 29)], #[44]⟩, none⟩,
     ⟨(some 31), .fieldAddr 152 (.tmp 5) 1, none⟩,
     ⟨(some 32), .fieldAddr 150 (.tmp 31) 0, none⟩,
     ⟨(some 33), .load 2 (.tmp 32), none⟩,
     ⟨(some 34), .fieldAddr 152 (.tmp 5) 1, none⟩,
     ⟨(some 35), .fieldAddr 150 (.tmp 34) 1, none⟩,
     ⟨(some 36), .load 2 (.tmp 35), none⟩,
     ⟨(some 37), .binOp .add 2 (.tmp 33) (.tmp 36) 2, none⟩,
     ⟨(some 38), .fieldAddr 65 (.tmp 2) 6, none⟩,
     ⟨(some 39), .load 28 (.tmp 38), none⟩,
     ⟨(some 40), .call ⟨(.value (.func 124)), #[(.tmp 20), (.tmp 28), (.tmp 30), (.tmp 37), (.tmp 39)], #[39, 41, 2, 2, 28]⟩, none⟩,
     ⟨(some 18), .move (.tmp 40), none⟩,
     ⟨(some 41), .extract (.tmp 18) 0, none⟩,
     ⟨(some 42), .extract (.tmp 18) 1, none⟩,
     ⟨(some 6), .assign (.tmp 41), none⟩,
     ⟨(some 7), .assign (.tmp 42), none⟩] [[], [0], [], [2], [], [], [5], [4, 5, 6], [2, 3, 4, 5, 6, 7], [2, 3, 4, 5, 6, 7, 8], [], [4, 5, 6, 7, 10], [], [12], [12, 13], [], [15], [15, 16], [12, 13, 14, 15, 16, 17], [], [19], [0, 1, 2, 3, 4, 5, 6, 7, 8, 9, 10, 11, 12, 13, 14, 15, 16, 17, 18, 19, 20], [0, 1, 2, 3, 4, 5, 6, 7, 8, 9, 10, 11, 12, 13, 14, 15, 16, 17, 18, 19, 20, 21], [0, 1, 2, 3, 4, 5, 6, 7, 8, 9, 10, 11, 12, 13, 14, 15, 16, 17, 18, 19, 20, 21, 22], [0, 1, 2, 3, 4, 5, 6, 7, 8, 9, 10, 11, 12, 13, 14, 15, 16, 17, 18, 19, 20, 21, 22], [0, 1, 2, 3, 4, 5, 6, 7, 8, 9, 10, 11, 12, 13, 14, 15, 16, 17, 18, 19, 20, 21, 22, 23], [0, 1, 2, 3, 4, 5, 6, 7, 8, 9, 10, 11, 12, 13, 14, 15, 16, 17, 18, 19, 20, 21, 22, 23, 24, 25]])
  (.seq (.reg [⟨(some 43), .buildSlice 28 0 #[], none⟩,
      ⟨(some 8), .assign (.tmp 43), none⟩])
   (.seq (.seq (.reg [⟨(some 9), .assign (.const (.int .i64 0)), none⟩])
     (.block 0 (.loop (.seq (.seq (.reg [⟨(some 44), .move (.tmp 9), none⟩,
            ⟨(some 45), .move (.tmp 6), none⟩,
            ⟨(some 46), .call ⟨(.builtin .len), #[(.tmp 45)], #[28]⟩, none⟩,
            ⟨(some 47), .binOp .lss 3 (.tmp 44) (.tmp 46) 3, none⟩])
         (.cond (.tmp 47) .skip
          (.exit 0)))
        (.seq (.block 1 (.seq (.draw [⟨(some 50), .move (.tmp 6), none⟩,
              ⟨(some 51), .move (.tmp 9), none⟩,
              ⟨(some 52), .indexAddr 28 (.tmp 50) (.tmp 51), none⟩,
              ⟨(some 53), .load 2 (.tmp 52), none⟩,
              ⟨(some 54), .binOp .geq 2 (.tmp 53) (.const (.int .i64 0)) 2, none⟩,
              ⟨(some 55), .move (.tmp 54), none⟩,
              ⟨(some 56), .fieldAddr 65 (.tmp 2) 5, (some (55, true))⟩,
              ⟨(some 57), .load 28 (.tmp 56), (some (55, true))⟩,
              ⟨(some 58), .move (.tmp 6), (some (55, true))⟩,
              ⟨(some 59), .move (.tmp 9), (some (55, true))⟩,
              ⟨(some 60), .indexAddr 28 (.tmp 58) (.tmp 59), (some (55, true))⟩,
              ⟨(some 61), .load 2 (.tmp 60), (some (55, true))⟩,
              ⟨(some 62), .call ⟨(.value (.func 126)), #[(.tmp 57), (.tmp 61)], #[28, 2]⟩, (some (55, true))⟩,
              ⟨(some 63), .pick (.tmp 55) (.tmp 62) (.const (.bool false)), none⟩] [[], [], [0, 1], [0, 1, 2], [0, 1, 2, 3], [0, 1, 2, 3, 4], [0, 1, 2, 3, 4, 5], [0, 1, 2, 3, 4, 5, 6], [0, 1, 2, 3, 4, 5], [0, 1, 2, 3, 4, 5], [0, 1, 2, 3, 4, 5, 8, 9], [0, 1, 2, 3, 4, 5, 8, 9, 10], [0, 1, 2, 3, 4, 5, 6, 7, 8, 9, 10, 11], [0, 1, 2, 3, 4, 5, 6, 7, 8, 9, 10, 11, 12]])
           (.cond (.tmp 63) (.reg [⟨(some 64), .move (.tmp 8), none⟩,
               ⟨(some 65), .move (.tmp 6), none⟩,
               ⟨(some 66), .move (.tmp 9), none⟩,
               ⟨(some 67), .indexAddr 28 (.tmp 65) (.tmp 66), none⟩,
               ⟨(some 68), .load 2 (.tmp 67), none⟩,
               ⟨(some 69), .buildSlice 28 1 #[(0, (.tmp 68))], none⟩,
               ⟨(some 70), .call ⟨(.builtin .append), #[(.tmp 64), (.tmp 69)], #[28, 28]⟩, none⟩,
               ⟨(some 8), .assign (.tmp 70), none⟩])
            (.reg [⟨(some 71), .move (.tmp 8), none⟩,
               ⟨(some 72), .buildSlice 28 1 #[(0, (.const (.int .i64 (-1))))], none⟩,
               ⟨(some 73), .call ⟨(.builtin .append), #[(.tmp 71), (.tmp 72)], #[28, 28]⟩, none⟩,
               ⟨(some 8), .assign (.tmp 73), none⟩]))))
         (.reg [⟨(some 48), .move (.tmp 9), none⟩,
            ⟨(some 49), .binOp .add 3 (.tmp 48) (.const (.int .i64 1)) 3, none⟩,
            ⟨(some 9), .assign (.tmp 49), none⟩]))))))
    (.seq (.reg [⟨(some 74), .move (.tmp 8), none⟩,
        ⟨(some 4), .assign (.tmp 74), none⟩])
     .ret))))))
theorem s65 : slimF Tryz.f65 = some (c65, [.t 4], 75) := by kernel_rfl
theorem o65 : okF [(123, g123), (121, g121), (125, g125), (124, g124), (126, g126)] Tryz.f65 = true := by kernel_rfl
noncomputable def g65 : Fsem := semT2 enMp enPg (fun τ m g => τ ≠ 0 ∧ mapOk m = true ∧ hasPg m g = true) (fun n τ m g => .sl n 1 ((actR m g).map (AV.int .i64)))
@[go_sem] theorem g65_eq {n τ : Nat} {m : Mp} {g : Pg} : g65 n [.agg [.int .i64 m.epoch, .int .i64 m.term, .sl τ 2 (m.tree.devices.map (enDev.av τ)), .sl τ 3 (m.tree.buckets.map (enBkt.av τ)), .sl τ 4 (m.rules.map (enRule.av τ)), .sl τ 6 (m.pools.map (enPool.av τ)), .sl τ 1 (m.up.map (AV.int .i64)), .sl τ 1 (m.out.map (AV.int .i64))], .agg [.int .i64 g.pool, .int .i64 g.no]] = ⟨τ ≠ 0 ∧ mapOk m = true ∧ hasPg m g = true, .sl n 1 ((actR m g).map (AV.int .i64))⟩ := semT2_eq (τ' := 0) (E := enMp) (F := enPg) (seen_Mp)
theorem p65 : Pure Tryz.prog 65 g65 := by
  refine semT2_pure fun τ τ' m g n h2 hpre => ?_
  have hT : Table Tryz.prog [(123, g123), (121, g121), (125, g125), (124, g124), (126, g126)] := (.cons p123 (.cons p121 (.cons p125 (.cons p124 (.cons p126 .nil)))))
  have hn0 : n ≠ 0 := by omega
  refine SatP.of_body hT hm Tryz.func65 s65 o65 h2 (by simp) ?_
  obtain ⟨hp, hmo, hg⟩ := hpre
  obtain ⟨p, r, hpo, hro, ht, hr, hs1, hs7, hsz, ho, hu, hri, hact, _⟩ := pg_facts hmo hg
  obtain ⟨a, ha, hal, han⟩ := pool_at hpo
  obtain ⟨b, hb, hbl, hbn⟩ := rule_at hro
  have ha0 : (0 : Int) ≤ a := by omega
  have ha2 : (a : Int) < (m.pools.length : Int) := by omega
  have hb0 : (0 : Int) ≤ b := by omega
  have hb2 : (b : Int) < (m.rules.length : Int) := by omega
  have hs0 : 0 ≤ p.code.k + p.code.m := by omega
  have hPl : (placeR m.tree r (mixI [g.pool, g.no]) (p.code.k + p.code.m) m.out).length = (p.code.k + p.code.m).toNat := placeR_len
  have hPl7 : (placeR m.tree r (mixI [g.pool, g.no]) (p.code.k + p.code.m) m.out).length ≤ 7 := by omega
  rw [hact]
  simp (config := {contextual := true, maxSteps := 2000000, implicitDefEqProofs := false}) [c65, go_sem, ha, han, ha0, ha2, hb, hbn, hb0, hb2, hp, hsz, ht, hr, hs0, hs7, hri]
  generalize (placeR m.tree r (mixI [g.pool, g.no]) (p.code.k + p.code.m) m.out) = l at *
  refine VW_listKE [] [2, 8] hT h2 hm l [2, 6] (fun pre post (u0 : Unit) => [.box 65 [.int .i64 m.epoch, .int .i64 m.term, .sl τ 2 (m.tree.devices.map (enDev.av τ)), .sl τ 3 (m.tree.buckets.map (enBkt.av τ)), .sl τ 4 (m.rules.map (enRule.av τ)), .sl τ 6 (m.pools.map (enPool.av τ)), .sl τ 1 (m.up.map (AV.int .i64)), .sl τ 1 (m.out.map (AV.int .i64))], .row 2 1 (pre.map (AV.int .i64 ∘ dnI m))]) (fun pre post (u0 : Unit) => [(9, .int .i64 pre.length), (8, .osl 1 1 0 pre.length)]) (fun pre post (u0 : Unit) => True) () ?_ ?_ ?_ ?_
  · trivial
  · simp only [subE_go, subR_go, anOf_nil, anOf_cons, tmOk_nil, tmOk_cons]
    simp [go_sem, subE_go, subR_go, anOf_nil, anOf_cons, tmOk_nil, tmOk_cons]
  · intro _ _
    simp (config := {contextual := true, maxSteps := 2000000, implicitDefEqProofs := false}) [go_sem, hn0]
  · rintro pre x post _ hl hlen _
    have hln : l.length = pre.length + (post.length + 1) := by rw [← hl]; simp
    have hn : nth (List.map (AV.int .i64) l) (pre.length) = (AV.int .i64) x := by rw [← hl]; simp [go_sem]
    have hw : l.length ≤ maxLen → IntKind.i64.wrap ((pre.length : Int) + 1) = (pre.length : Int) + 1 := fun h => wrap_ok (by omega) (by simp only [maxLen] at h; omega)
    have h3 : (0 : Int) ≤ (pre.length : Int) := by omega
    have h4 : (pre.length : Int) < (l.length : Int) := by omega
    have h5 : ¬ (l.length : Int) ≤ (pre.length : Int) := by omega
    have hdn : dnI m x = if has m.up x = true then x else -1 := rfl
    have hpl : pre.length ≤ 7 := by omega
    by_cases hx0 : 0 ≤ x
    · cases hx : has m.up x with
      | false =>
        rw [hx, if_neg (by simp)] at hdn
        simp (config := {contextual := true, maxSteps := 2000000, implicitDefEqProofs := false}) [go_sem, hn, hw, h3, h4, h5, hx0, hx]
        intro _
        refine ⟨by omega, ?_⟩
        generalize pre.map (AV.int .i64 ∘ dnI m) = A at *
        simp only [subE_go, subR_go, anOf_nil, anOf_cons, tmOk_nil, tmOk_cons]
        simp (config := {contextual := true, maxSteps := 2000000, implicitDefEqProofs := false}) [go_sem, subE_go, subR_go, anOf_nil, anOf_cons, tmOk_nil, tmOk_cons, hdn]
      | true =>
        rw [hx, if_pos rfl] at hdn
        simp (config := {contextual := true, maxSteps := 2000000, implicitDefEqProofs := false}) [go_sem, hn, hw, h3, h4, h5, hx0, hx]
        intro _
        refine ⟨by omega, ?_⟩
        generalize pre.map (AV.int .i64 ∘ dnI m) = A at *
        simp only [subE_go, subR_go, anOf_nil, anOf_cons, tmOk_nil, tmOk_cons]
        simp (config := {contextual := true, maxSteps := 2000000, implicitDefEqProofs := false}) [go_sem, subE_go, subR_go, anOf_nil, anOf_cons, tmOk_nil, tmOk_cons, hdn]
    · have hx : has m.up x = false := by
        cases h : has m.up x with
        | false => rfl
        | true => exact absurd (hu x (has_iff.1 h)) hx0
      rw [hx, if_neg (by simp)] at hdn
      simp (config := {contextual := true, maxSteps := 2000000, implicitDefEqProofs := false}) [go_sem, hn, hw, h3, h4, h5, hx0]
      intro _
      refine ⟨by omega, ?_⟩
      generalize pre.map (AV.int .i64 ∘ dnI m) = A at *
      simp only [subE_go, subR_go, anOf_nil, anOf_cons, tmOk_nil, tmOk_cons]
      simp (config := {contextual := true, maxSteps := 2000000, implicitDefEqProofs := false}) [go_sem, subE_go, subR_go, anOf_nil, anOf_cons, tmOk_nil, tmOk_cons, hdn]
def membI (l : List Int) : List Int := sortL (l.filter fun x => !decide (x = -1))
def c151 : SCode := (.seq (.reg [⟨(some 3), .box 2 (.tmp 1), none⟩,
   ⟨(some 4), .assign (.const (.slice none 0 0)), none⟩])
(.seq (.reg [⟨(some 5), .move (.tmp 0), none⟩,
    ⟨(some 6), .call ⟨(.value (.func 112)), #[(.tmp 5)], #[28]⟩, none⟩,
    ⟨(some 7), .makeFunc (Fn.func 192) #[] #[(.tmp 3)], none⟩,
    ⟨(some 8), .call ⟨(.value (.func 182)), #[(.tmp 6), (.tmp 7)], #[28, 178]⟩, none⟩,
    ⟨(some 4), .assign (.tmp 8), none⟩])
 .ret))
theorem s151 : slimF Tryz.f151 = some (c151, [.t 4], 9) := by kernel_rfl
theorem o151 : okF [] Tryz.f151 = true := by kernel_rfl
theorem sat_151 {n : Nat} (h2 : 2 ≤ n) {τ : Nat} {l : List Int} {m : Int} (hl : l.length ≤ 1048576) : SatM Tryz.prog n 151 [] [.sl τ 1 (l.map (AV.int .i64)), .int .i64 m] [.row 2 1 ((l.filter fun x => !decide (x = m)).map (AV.int .i64))] (.osl 0 1 0 (l.filter fun x => !decide (x = m)).length) := by
  have hT : Table Tryz.prog [] := .nil
  have hn0 : n ≠ 0 := by omega
  refine SatM.of_bodyV hT hm Tryz.func151 s151 o151 h2 (by simp) ?_
  simp (config := {contextual := true, maxSteps := 2000000, implicitDefEqProofs := false}) [c151, go_sem]
  refine ⟨112, [], rfl, [], n, [.row 2 1 ((l).map (AV.int .i64))], .osl 0 1 0 l.length, Nat.le_refl _, by simp, by simp, by simp [go_sem, posOf], by simpa [go_sem, rinOf, posOf] using sat_clone (n := n) (τ := τ) hl, ?_⟩
  simp (config := {contextual := true, maxSteps := 2000000, implicitDefEqProofs := false}) [go_sem, stOf, putAll, gmap, Root.ren, AV.ren, AV.ren2, AV.ren1, AV.ren0]
  refine ⟨182, [], rfl, [1], n, [.row 2 1 ((l.filter fun x => !decide (x = m)).map (AV.int .i64))], .osl 0 1 0 (l.filter fun x => !decide (x = m)).length, Nat.le_refl _, by simp, by simp, by simp [go_sem, posOf], by simpa [go_sem, rinOf, posOf] using sat_del (n := n) (τ := 0) (m := m) hl, ?_⟩
  simp (config := {contextual := true, maxSteps := 2000000, implicitDefEqProofs := false}) [go_sem, stOf, putAll, gmap, Root.ren, AV.ren, AV.ren2, AV.ren1, AV.ren0]
  generalize (l.filter fun x => !decide (x = m)) = q
  refine ⟨_, [1], Sub.refl 0 _, ?_⟩
  simp [retM, resAV, rvV, rinOf, Root.rnp, AV.rnp, AV.rnp2, AV.rnp1, AV.rnp0, posOf, go_sem, Rz, nz_int, nz_osl, nz_tup]
theorem sat_memb {n : Nat} {l : List Int} (hl : l.length ≤ 1048576) : SatM Tryz.prog n 152 [.row 2 1 ((l.filter fun x => !decide (x = -1)).map (AV.int .i64))] [.osl 0 1 0 (l.filter fun x => !decide (x = -1)).length] [.row 2 1 ((membI l).map (AV.int .i64))] (.tup []) := sat_sort (Nat.le_trans (List.length_filter_le _ _) hl)
def c87 : SCode := (.seq (.reg [⟨(some 2), .assign (.const (.slice none 0 0)), none⟩])
(.seq (.reg [⟨(some 4), .move (.tmp 0), none⟩,
    ⟨(some 5), .call ⟨(.value (.func 151)), #[(.tmp 4), (.const (.int .i64 (-1)))], #[28, 2]⟩, none⟩,
    ⟨(some 3), .assign (.tmp 5), none⟩])
 (.seq (.reg [⟨(some 6), .move (.tmp 3), none⟩,
     ⟨(some 7), .call ⟨(.value (.func 152)), #[(.tmp 6)], #[28]⟩, none⟩])
  (.seq (.reg [⟨(some 8), .move (.tmp 3), none⟩,
      ⟨(some 2), .assign (.tmp 8), none⟩])
   .ret))))
theorem s87 : slimF Tryz.f87 = some (c87, [.t 2], 9) := by kernel_rfl
theorem o87 : okF [] Tryz.f87 = true := by kernel_rfl
theorem sat_87 {n : Nat} (h2 : 2 ≤ n) {τ : Nat} {l : List Int} (hl : l.length ≤ 1048576) : SatM Tryz.prog n 87 [] [.sl τ 1 (l.map (AV.int .i64))] [.row 2 1 ((membI l).map (AV.int .i64))] (.osl 0 1 0 (membI l).length) := by
  have hT : Table Tryz.prog [] := .nil
  have hn0 : n ≠ 0 := by omega
  refine SatM.of_bodyV hT hm Tryz.func87 s87 o87 h2 (by simp) ?_
  have hfl : (l.filter fun x => !decide (x = -1)).length ≤ l.length := List.length_filter_le _ _
  have hml : (membI l).length = (l.filter fun x => !decide (x = -1)).length := sortL_len
  simp (config := {contextual := true, maxSteps := 2000000, implicitDefEqProofs := false}) [c87, go_sem]
  refine ⟨151, [], rfl, [], n, [.row 2 1 ((l.filter fun x => !decide (x = -1)).map (AV.int .i64))], .osl 0 1 0 (l.filter fun x => !decide (x = -1)).length, Nat.le_refl _, by simp, by simp, by simp [go_sem, posOf], by simpa [go_sem, rinOf, posOf] using sat_151 h2 (τ := τ) (m := -1) hl, ?_⟩
  simp (config := {contextual := true, maxSteps := 2000000, implicitDefEqProofs := false}) [go_sem, stOf, putAll, gmap, Root.ren, AV.ren, AV.ren2, AV.ren1, AV.ren0]
  refine ⟨152, [], rfl, [0], n, [.row 2 1 ((membI l).map (AV.int .i64))], .tup [], Nat.le_refl _, by simp, by simp, by simp [go_sem, posOf], by simpa [go_sem, rinOf, posOf] using sat_memb (n := n) hl, ?_⟩
  simp (config := {contextual := true, maxSteps := 2000000, implicitDefEqProofs := false}) [go_sem, stOf, putAll, gmap, Root.ren, AV.ren, AV.ren2, AV.ren1, AV.ren0]
  rw [← hml]
  generalize membI l = q
  refine ⟨_, [0], Sub.refl 0 _, ?_⟩
  simp [retM, resAV, rvV, rinOf, Root.rnp, AV.rnp, AV.rnp2, AV.rnp1, AV.rnp0, posOf, go_sem, Rz, nz_int, nz_osl, nz_tup, hml]
end Go.Ve
namespace Go.Ve
open Go.Proofs Go.RowKit
set_option linter.unusedVariables false
set_option linter.unusedSimpArgs false
set_option maxRecDepth 10000
set_option maxHeartbeats 4000000
def cntP : List Int → Int
  | [] => 0
  | x :: l => (if 0 ≤ x then 1 else 0) + cntP l
theorem cntP_memb {l : List Int} (h : ∀ x ∈ l, x = -1 ∨ 0 ≤ x) : cntP l = ((membI l).length : Nat) := by
  unfold membI
  rw [sortL_len]
  induction l with
  | nil => rfl
  | cons x l ih =>
    have h1 := ih fun y hy => h y (List.mem_cons_of_mem _ hy)
    rcases h x (List.mem_cons_self ..) with rfl | hx
    · simp [cntP, h1]
    · have hne : ¬ x = -1 := by omega
      simp only [cntP, h1, if_pos hx, List.filter_cons, decide_eq_false hne, Bool.not_false, if_true, List.length_cons]
      omega
def servR (m : Mp) (g : Pg) : Bool := match poolO m g.pool with
  | none => false
  | some p => decide (p.min ≤ cntP (actR m g))
def c138 : SCode := (.seq (.reg [⟨(some 2), .assign (.const (.int .i64 0)), none⟩])
(.seq (.reg [⟨(some 3), .assign (.const (.int .i64 0)), none⟩])
 (.seq (.seq (.reg [⟨(some 4), .assign (.const (.int .i64 0)), none⟩])
   (.block 0 (.loop (.seq (.seq (.reg [⟨(some 5), .move (.tmp 4), none⟩,
          ⟨(some 6), .move (.tmp 0), none⟩,
          ⟨(some 7), .call ⟨(.builtin .len), #[(.tmp 6)], #[28]⟩, none⟩,
          ⟨(some 8), .binOp .lss 3 (.tmp 5) (.tmp 7) 3, none⟩])
       (.cond (.tmp 8) .skip
        (.exit 0)))
      (.seq (.block 1 (.seq (.reg [⟨(some 11), .move (.tmp 0), none⟩,
            ⟨(some 12), .move (.tmp 4), none⟩,
            ⟨(some 13), .indexAddr 28 (.tmp 11) (.tmp 12), none⟩,
            ⟨(some 14), .load 2 (.tmp 13), none⟩,
            ⟨(some 15), .binOp .geq 2 (.tmp 14) (.const (.int .i64 0)) 2, none⟩])
         (.cond (.tmp 15) (.reg [⟨(some 16), .move (.tmp 3), none⟩,
             ⟨(some 17), .binOp .add 2 (.tmp 16) (.const (.int .i64 1)) 2, none⟩,
             ⟨(some 3), .assign (.tmp 17), none⟩])
          .skip)))
       (.reg [⟨(some 9), .move (.tmp 4), none⟩,
          ⟨(some 10), .binOp .add 3 (.tmp 9) (.const (.int .i64 1)) 3, none⟩,
          ⟨(some 4), .assign (.tmp 10), none⟩]))))))
  (.seq (.reg [⟨(some 18), .move (.tmp 3), none⟩,
      ⟨(some 2), .assign (.tmp 18), none⟩])
   .ret))))
theorem s138 : slimF Tryz.f138 = some (c138, [.t 2], 19) := by kernel_rfl
theorem o138 : okF [] Tryz.f138 = true := by kernel_rfl
noncomputable def g138 : Fsem := sem1 (En.int .i64).list (fun l => l.length ≤ 1000000) (fun n l => .int .i64 (cntP l))
@[go_sem] theorem g138_eq {n τ : Nat} {l : List Int} : g138 n [.sl τ 1 (l.map (AV.int .i64))] = ⟨l.length ≤ 1000000, .int .i64 (cntP l)⟩ := sem1_eq  (E := (En.int .i64).list)
theorem p138 : Pure Tryz.prog 138 g138 := by
  refine sem1_pure fun τ l n h2 hpre => ?_
  have hT : Table Tryz.prog [] := .nil
  have hn0 : n ≠ 0 := by omega
  refine SatP.of_body hT hm Tryz.func138 s138 o138 h2 (by simp) ?_
  have hl20 : l.length ≤ 1000000 := hpre
  generalize hr : cntP l = r
  simp (config := {contextual := true, maxSteps := 2000000, implicitDefEqProofs := false}) [c138, go_sem]
  refine VW_listK hT h2 hm l [0] (fun pre post (b : Int) => [(4, .int .i64 pre.length), (3, .int .i64 b)]) (fun pre post (b : Int) => b + cntP post = r ∧ 0 ≤ b ∧ b ≤ pre.length) 0 ?_ ?_ ?_ ?_
  · exact ⟨by simpa using hr, by decide, by simp⟩
  · simp [SubI, go_sem]
  · rintro b ⟨hR, hb0, hb1⟩
    simp (config := {contextual := true, maxSteps := 2000000, implicitDefEqProofs := false}) [go_sem]
    intro _
    simpa [cntP] using hR
  · rintro pre x post b hl hlen ⟨hR, hb0, hb1⟩
    have hln : l.length = pre.length + (post.length + 1) := by rw [← hl]; simp
    have hn : nth (List.map (AV.int .i64) l) (pre.length) = (AV.int .i64) x := by rw [← hl]; simp [go_sem]
    have hw : l.length ≤ maxLen → IntKind.i64.wrap ((pre.length : Int) + 1) = (pre.length : Int) + 1 := fun h => wrap_ok (by omega) (by simp only [maxLen] at h; omega)
    have h3 : (0 : Int) ≤ (pre.length : Int) := by omega
    have h4 : (pre.length : Int) < (l.length : Int) := by omega
    have h5 : ¬ (l.length : Int) ≤ (pre.length : Int) := by omega
    simp only [cntP] at hR
    have hwb : IntKind.i64.wrap (b + 1) = b + 1 := wrap_ok (by omega) (by omega)
    by_cases hx : 0 ≤ x
    · rw [if_pos hx] at hR
      simp (config := {contextual := true, maxSteps := 2000000, implicitDefEqProofs := false}) [go_sem, hn, hw, h3, h4, h5, hx, hwb, SubI]
      intro _
      omega
    · rw [if_neg hx] at hR
      simp (config := {contextual := true, maxSteps := 2000000, implicitDefEqProofs := false}) [go_sem, hn, hw, h3, h4, h5, hx, SubI]
      intro _
      omega
def c75 : SCode := (.seq (.reg [⟨(some 2), .box 65 (.tmp 0), none⟩,
   ⟨(some 3), .box 44 (.tmp 1), none⟩,
   ⟨(some 4), .assign (.const (.bool false)), none⟩])
(.seq (.draw [⟨(some 5), .load 65 (.tmp 2), none⟩,
    ⟨(some 6), .load 44 (.tmp 3), none⟩,
    ⟨(some 7), .call ⟨(.value (.func 65)), #[(.tmp 5), (.tmp 6)], #[65, 44]⟩, none⟩,
    ⟨(some 8), .call ⟨(.value (.func 138)), #[(.tmp 7)], #[28]⟩, none⟩,
    ⟨(some 9), .fieldAddr 65 (.tmp 2) 4, none⟩,
    ⟨(some 10), .load 63 (.tmp 9), none⟩,
    ⟨(some 11), .load 65 (.tmp 2), none⟩,
    ⟨(some 12), .fieldAddr 44 (.tmp 3) 0, none⟩,
    ⟨(some 13), .load 2 (.tmp 12), none⟩,
    ⟨(some 14), .call ⟨(.value (.func 123)), #[(.tmp 11), (.tmp 13)], #[65, 2]⟩, none⟩,
    ⟨(some 15), .indexAddr 63 (.tmp 10) (.tmp 14), none⟩,
    ⟨(some 16), .fieldAddr 152 (.tmp 15) 2, none⟩,
    ⟨(some 17), .load 2 (.tmp 16), none⟩,
    ⟨(some 18), .binOp .geq 2 (.tmp 8) (.tmp 17) 2, none⟩,
    ⟨(some 4), .assign (.tmp 18), none⟩] [[], [], [0, 1], [0, 1, 2], [], [4], [], [], [7], [0, 1, 2, 3, 6, 7, 8], [0, 1, 2, 3, 4, 5, 6, 7, 8, 9], [0, 1, 2, 3, 4, 5, 6, 7, 8, 9, 10], [0, 1, 2, 3, 4, 5, 6, 7, 8, 9, 10, 11], [0, 1, 2, 3, 4, 5, 6, 7, 8, 9, 10, 11, 12], [0, 1, 2, 3, 4, 5, 6, 7, 8, 9, 10, 11, 12, 13]])
 .ret))
theorem s75 : slimF Tryz.f75 = some (c75, [.t 4], 19) := by kernel_rfl
theorem o75 : okF [(65, g65), (138, g138), (123, g123)] Tryz.f75 = true := by kernel_rfl
noncomputable def g75 : Fsem := semT2 enMp enPg (fun τ m g => τ ≠ 0 ∧ mapOk m = true ∧ hasPg m g = true) (fun n τ m g => .bool (servR m g))
@[go_sem] theorem g75_eq {n τ : Nat} {m : Mp} {g : Pg} : g75 n [.agg [.int .i64 m.epoch, .int .i64 m.term, .sl τ 2 (m.tree.devices.map (enDev.av τ)), .sl τ 3 (m.tree.buckets.map (enBkt.av τ)), .sl τ 4 (m.rules.map (enRule.av τ)), .sl τ 6 (m.pools.map (enPool.av τ)), .sl τ 1 (m.up.map (AV.int .i64)), .sl τ 1 (m.out.map (AV.int .i64))], .agg [.int .i64 g.pool, .int .i64 g.no]] = ⟨τ ≠ 0 ∧ mapOk m = true ∧ hasPg m g = true, .bool (servR m g)⟩ := semT2_eq (τ' := 0) (E := enMp) (F := enPg) (seen_Mp)
theorem p75 : Pure Tryz.prog 75 g75 := by
  refine semT2_pure fun τ τ' m g n h2 hpre => ?_
  have hT : Table Tryz.prog [(65, g65), (138, g138), (123, g123)] := (.cons p65 (.cons p138 (.cons p123 .nil)))
  have hn0 : n ≠ 0 := by omega
  refine SatP.of_body hT hm Tryz.func75 s75 o75 h2 (by simp) ?_
  obtain ⟨hp, hmo, hg⟩ := hpre
  obtain ⟨p, r, hpo, _⟩ := pg_facts hmo hg
  obtain ⟨a, ha, hal, han⟩ := pool_at hpo
  have ha0 : (0 : Int) ≤ a := by omega
  have ha2 : (a : Int) < (m.pools.length : Int) := by omega
  have hl7 := act_len hmo hg
  have hl9 : (actR m g).length ≤ 1000000 := by omega
  simp only [servR, hpo]
  simp (config := {contextual := true, maxSteps := 2000000, implicitDefEqProofs := false}) [c75, go_sem, ha, han, ha0, ha2, hp, hmo, hg, hl9]
def c76 : SCode := (.seq (.reg [⟨(some 2), .box 65 (.tmp 0), none⟩,
   ⟨(some 3), .box 44 (.tmp 1), none⟩,
   ⟨(some 4), .assign (.const (.bool false)), none⟩])
(.seq (.draw [⟨(some 5), .load 65 (.tmp 2), none⟩,
    ⟨(some 6), .load 44 (.tmp 3), none⟩,
    ⟨(some 7), .call ⟨(.value (.func 70)), #[(.tmp 5), (.tmp 6)], #[65, 44]⟩, none⟩,
    ⟨(some 8), .call ⟨(.value (.func 87)), #[(.tmp 7)], #[28]⟩, none⟩,
    ⟨(some 9), .call ⟨(.builtin .len), #[(.tmp 8)], #[28]⟩, none⟩,
    ⟨(some 10), .load 65 (.tmp 2), none⟩,
    ⟨(some 11), .fieldAddr 44 (.tmp 3) 0, none⟩,
    ⟨(some 12), .load 2 (.tmp 11), none⟩,
    ⟨(some 13), .call ⟨(.value (.func 131)), #[(.tmp 10), (.tmp 12)], #[65, 2]⟩, none⟩,
    ⟨(some 14), .nilCheck (.tmp 13), none⟩,
    ⟨(some 15), .fieldAddr 152 (.tmp 14) 2, none⟩,
    ⟨(some 16), .load 2 (.tmp 15), none⟩,
    ⟨(some 17), .binOp .geq 2 (.tmp 9) (.tmp 16) 2, none⟩,
    ⟨(some 4), .assign (.tmp 17), none⟩] [[], [], [0, 1], [0, 1, 2], [0, 1, 2, 3], [], [], [6], [0, 1, 2, 3, 5, 6, 7], [0, 1, 2, 3, 5, 6, 7, 8], [0, 1, 2, 3, 5, 6, 7, 8, 9], [0, 1, 2, 3, 5, 6, 7, 8, 9, 10], [0, 1, 2, 3, 4, 5, 6, 7, 8, 9, 10, 11], [0, 1, 2, 3, 4, 5, 6, 7, 8, 9, 10, 11, 12]])
 .ret))
theorem s76 : slimF Tryz.f76 = some (c76, [.t 4], 18) := by kernel_rfl
theorem o76 : okF [(131, g131)] Tryz.f76 = true := by kernel_rfl
noncomputable def g76 : Fsem := semT2 enMp enPg (fun τ m g => τ ≠ 0 ∧ mapOk m = true ∧ hasPg m g = true) (fun n τ m g => .bool (servR m g))
@[go_sem] theorem g76_eq {n τ : Nat} {m : Mp} {g : Pg} : g76 n [.agg [.int .i64 m.epoch, .int .i64 m.term, .sl τ 2 (m.tree.devices.map (enDev.av τ)), .sl τ 3 (m.tree.buckets.map (enBkt.av τ)), .sl τ 4 (m.rules.map (enRule.av τ)), .sl τ 6 (m.pools.map (enPool.av τ)), .sl τ 1 (m.up.map (AV.int .i64)), .sl τ 1 (m.out.map (AV.int .i64))], .agg [.int .i64 g.pool, .int .i64 g.no]] = ⟨τ ≠ 0 ∧ mapOk m = true ∧ hasPg m g = true, .bool (servR m g)⟩ := semT2_eq (τ' := 0) (E := enMp) (F := enPg) (seen_Mp)
theorem p76 : Pure Tryz.prog 76 g76 := by
  refine semT2_pure fun τ τ' m g n h2 hpre => ?_
  have hT : Table Tryz.prog [(131, g131)] := (.cons p131 .nil)
  have hn0 : n ≠ 0 := by omega
  refine SatP.of_body hT hm Tryz.func76 s76 o76 h2 (by simp) ?_
  obtain ⟨hp, hmo, hg⟩ := hpre
  obtain ⟨p, r, hpo, _⟩ := pg_facts hmo hg
  have hl7 := act_len hmo hg
  have hl9 : (actR m g).length ≤ 1048576 := by omega
  have hcm := cntP_memb (plc_in hmo hg)
  simp only [servR, hpo, hcm]
  simp (config := {contextual := true, maxSteps := 2000000, implicitDefEqProofs := false}) [c76, go_sem, hp, hpo]
  refine ⟨70, [], rfl, [], n, [.row 2 1 ((actR m g).map (AV.int .i64))], .osl 0 1 0 (actR m g).length, Nat.le_refl _, by simp, by simp, by simp [go_sem, posOf], by simpa [go_sem, rinOf, posOf] using sat_70 h2 hp hmo hg, ?_⟩
  simp (config := {contextual := true, maxSteps := 2000000, implicitDefEqProofs := false}) [go_sem, stOf, putAll, gmap, Root.ren, AV.ren, AV.ren2, AV.ren1, AV.ren0]
  refine ⟨87, [], rfl, [], n, [.row 2 1 ((membI (actR m g)).map (AV.int .i64))], .osl 0 1 0 (membI (actR m g)).length, Nat.le_refl _, by simp, by simp, by simp [go_sem, posOf], by simpa [go_sem, rinOf, posOf] using sat_87 h2 (τ := 0) hl9, ?_⟩
  simp (config := {contextual := true, maxSteps := 2000000, implicitDefEqProofs := false}) [go_sem, stOf, putAll, gmap, Root.ren, AV.ren, AV.ren2, AV.ren1, AV.ren0, hpo, hp]
def c30 : SCode := (.seq (.reg [⟨(some 2), .box 65 (.tmp 0), none⟩,
   ⟨(some 3), .box 44 (.tmp 1), none⟩,
   ⟨(some 4), .assign (.const (.bool false)), none⟩])
(.seq (.reg [⟨(some 5), .load 65 (.tmp 2), none⟩,
    ⟨(some 6), .call ⟨(.value (.func 68)), #[(.tmp 5)], #[65]⟩, none⟩,
    ⟨(some 7), .move (.tmp 6), none⟩,
    ⟨(some 8), .load 65 (.tmp 2), (some (7, true))⟩,
    ⟨(some 9), .load 44 (.tmp 3), (some (7, true))⟩,
    ⟨(some 10), .call ⟨(.value (.func 69)), #[(.tmp 8), (.tmp 9)], #[65, 44]⟩, (some (7, true))⟩,
    ⟨(some 11), .pick (.tmp 7) (.tmp 10) (.const (.bool false)), none⟩,
    ⟨(some 12), .move (.tmp 11), none⟩,
    ⟨(some 13), .load 65 (.tmp 2), (some (12, true))⟩,
    ⟨(some 14), .load 44 (.tmp 3), (some (12, true))⟩,
    ⟨(some 15), .call ⟨(.value (.func 76)), #[(.tmp 13), (.tmp 14)], #[65, 44]⟩, (some (12, true))⟩,
    ⟨(some 16), .pick (.tmp 12) (.tmp 15) (.const (.bool false)), none⟩,
    ⟨(some 4), .assign (.tmp 16), none⟩])
 .ret))
theorem s30 : slimF Tryz.f30 = some (c30, [.t 4], 17) := by kernel_rfl
theorem o30 : okF [(68, g68), (69, g69), (76, g76)] Tryz.f30 = true := by kernel_rfl
noncomputable def g30 : Fsem := semT2 enMp enPg (fun τ m g => τ ≠ 0) (fun n τ m g => .bool (mapOk m && hasPg m g && servR m g))
@[go_sem] theorem g30_eq {n τ : Nat} {m : Mp} {g : Pg} : g30 n [.agg [.int .i64 m.epoch, .int .i64 m.term, .sl τ 2 (m.tree.devices.map (enDev.av τ)), .sl τ 3 (m.tree.buckets.map (enBkt.av τ)), .sl τ 4 (m.rules.map (enRule.av τ)), .sl τ 6 (m.pools.map (enPool.av τ)), .sl τ 1 (m.up.map (AV.int .i64)), .sl τ 1 (m.out.map (AV.int .i64))], .agg [.int .i64 g.pool, .int .i64 g.no]] = ⟨τ ≠ 0, .bool (mapOk m && hasPg m g && servR m g)⟩ := semT2_eq (τ' := 0) (E := enMp) (F := enPg) (seen_Mp)
theorem p30 : Pure Tryz.prog 30 g30 := by
  refine semT2_pure fun τ τ' m g n h2 hpre => ?_
  have hT : Table Tryz.prog [(68, g68), (69, g69), (76, g76)] := (.cons p68 (.cons p69 (.cons p76 .nil)))
  have hn0 : n ≠ 0 := by omega
  refine SatP.of_body hT hm Tryz.func30 s30 o30 h2 (by simp) ?_
  have hp : τ ≠ 0 := hpre
  cases hmo : mapOk m
  · simp (config := {contextual := true, maxSteps := 2000000, implicitDefEqProofs := false}) [c30, go_sem, hp, hmo]
  · cases hg : hasPg m g
    · simp (config := {contextual := true, maxSteps := 2000000, implicitDefEqProofs := false}) [c30, go_sem, hp, hmo, hg]
    · simp (config := {contextual := true, maxSteps := 2000000, implicitDefEqProofs := false}) [c30, go_sem, hp, hmo, hg]
def c29 : SCode := (.seq (.reg [⟨(some 2), .box 65 (.tmp 0), none⟩,
   ⟨(some 3), .box 44 (.tmp 1), none⟩,
   ⟨(some 4), .assign (.const (.bool false)), none⟩])
(.seq (.reg [⟨(some 5), .load 65 (.tmp 2), none⟩,
    ⟨(some 6), .call ⟨(.value (.func 63)), #[(.tmp 5)], #[65]⟩, none⟩,
    ⟨(some 7), .move (.tmp 6), none⟩,
    ⟨(some 8), .load 65 (.tmp 2), (some (7, true))⟩,
    ⟨(some 9), .load 44 (.tmp 3), (some (7, true))⟩,
    ⟨(some 10), .call ⟨(.value (.func 64)), #[(.tmp 8), (.tmp 9)], #[65, 44]⟩, (some (7, true))⟩,
    ⟨(some 11), .pick (.tmp 7) (.tmp 10) (.const (.bool false)), none⟩,
    ⟨(some 12), .move (.tmp 11), none⟩,
    ⟨(some 13), .load 65 (.tmp 2), (some (12, true))⟩,
    ⟨(some 14), .load 44 (.tmp 3), (some (12, true))⟩,
    ⟨(some 15), .call ⟨(.value (.func 75)), #[(.tmp 13), (.tmp 14)], #[65, 44]⟩, (some (12, true))⟩,
    ⟨(some 16), .pick (.tmp 12) (.tmp 15) (.const (.bool false)), none⟩,
    ⟨(some 4), .assign (.tmp 16), none⟩])
 .ret))
theorem s29 : slimF Tryz.f29 = some (c29, [.t 4], 17) := by kernel_rfl
theorem o29 : okF [(63, g63), (64, g64), (75, g75)] Tryz.f29 = true := by kernel_rfl
noncomputable def g29 : Fsem := semT2 enMp enPg (fun τ m g => τ ≠ 0) (fun n τ m g => .bool (mapOk m && hasPg m g && servR m g))
@[go_sem] theorem g29_eq {n τ : Nat} {m : Mp} {g : Pg} : g29 n [.agg [.int .i64 m.epoch, .int .i64 m.term, .sl τ 2 (m.tree.devices.map (enDev.av τ)), .sl τ 3 (m.tree.buckets.map (enBkt.av τ)), .sl τ 4 (m.rules.map (enRule.av τ)), .sl τ 6 (m.pools.map (enPool.av τ)), .sl τ 1 (m.up.map (AV.int .i64)), .sl τ 1 (m.out.map (AV.int .i64))], .agg [.int .i64 g.pool, .int .i64 g.no]] = ⟨τ ≠ 0, .bool (mapOk m && hasPg m g && servR m g)⟩ := semT2_eq (τ' := 0) (E := enMp) (F := enPg) (seen_Mp)
theorem p29 : Pure Tryz.prog 29 g29 := by
  refine semT2_pure fun τ τ' m g n h2 hpre => ?_
  have hT : Table Tryz.prog [(63, g63), (64, g64), (75, g75)] := (.cons p63 (.cons p64 (.cons p75 .nil)))
  have hn0 : n ≠ 0 := by omega
  refine SatP.of_body hT hm Tryz.func29 s29 o29 h2 (by simp) ?_
  have hp : τ ≠ 0 := hpre
  cases hmo : mapOk m
  · simp (config := {contextual := true, maxSteps := 2000000, implicitDefEqProofs := false}) [c29, go_sem, hp, hmo]
  · cases hg : hasPg m g
    · simp (config := {contextual := true, maxSteps := 2000000, implicitDefEqProofs := false}) [c29, go_sem, hp, hmo, hg]
    · simp (config := {contextual := true, maxSteps := 2000000, implicitDefEqProofs := false}) [c29, go_sem, hp, hmo, hg]
end Go.Ve
