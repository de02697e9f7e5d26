/- The texts of this claim, part PH 1: the engine that runs the code on values, the data, the contracts. No condition. -/
import Derived.Test.YtidfijaobkaalaaGreatPE2
namespace Go.Ve
open Go.Proofs Go.RowKit
set_option linter.unusedVariables false
set_option linter.unusedSimpArgs false
set_option maxRecDepth 10000
set_option maxHeartbeats 4000000
def okA (m : Mp) (g : Pg) : Bool := mapOk m && hasPg m g
def aR (m : Mp) (g : Pg) : List Int := if okA m g = true then actR m g else []
theorem aR_len {m : Mp} {g : Pg} : (aR m g).length ≤ 7 := by
  unfold aR
  split
  · rename_i h
    simp only [okA, Bool.and_eq_true] at h
    exact act_len h.1 h.2
  · simp
def c24 : SCode := (.seq (.reg [⟨(some 2), .box 65 (.tmp 0), none⟩,
   ⟨(some 3), .box 44 (.tmp 1), none⟩,
   ⟨(some 4), .assign (.const (.slice none 0 0)), none⟩,
   ⟨(some 5), .assign (.const (.bool false)), none⟩])
(.seq (.seq (.reg [⟨(some 6), .load 65 (.tmp 2), none⟩,
     ⟨(some 7), .call ⟨(.value (.func 63)), #[(.tmp 6)], #[65]⟩, none⟩,
     ⟨(some 8), .unOp .not 4 (.tmp 7), none⟩,
     ⟨(some 9), .move (.tmp 8), none⟩,
     ⟨(some 10), .load 65 (.tmp 2), (some (9, false))⟩,
     ⟨(some 11), .load 44 (.tmp 3), (some (9, false))⟩,
     ⟨(some 12), .call ⟨(.value (.func 64)), #[(.tmp 10), (.tmp 11)], #[65, 44]⟩, (some (9, false))⟩,
     ⟨(some 13), .unOp .not 4 (.tmp 12), (some (9, false))⟩,
     ⟨(some 14), .pick (.tmp 9) (.const (.bool true)) (.tmp 13), none⟩])
  (.cond (.tmp 14) (.seq (.reg [⟨(some 15), .buildSlice 28 0 #[], none⟩,
       ⟨(some 4), .assign (.tmp 15), none⟩,
       ⟨(some 5), .assign (.const (.bool false)), none⟩])
    .ret)
   .skip))
 (.seq (.reg [⟨(some 16), .load 65 (.tmp 2), none⟩,
     ⟨(some 17), .load 44 (.tmp 3), none⟩,
     ⟨(some 18), .call ⟨(.value (.func 65)), #[(.tmp 16), (.tmp 17)], #[65, 44]⟩, none⟩,
     ⟨(some 4), .assign (.tmp 18), none⟩,
     ⟨(some 5), .assign (.const (.bool true)), none⟩])
  .ret)))
theorem s24 : slimF Tryz.f24 = some (c24, [.t 4, .t 5], 19) := by kernel_rfl
theorem o24 : okF [(63, g63), (64, g64), (65, g65)] Tryz.f24 = true := by kernel_rfl
noncomputable def g24 : Fsem := semT2 enMp enPg (fun τ m g => τ ≠ 0) (fun n τ m g => .tup [.sl n 1 ((aR m g).map (AV.int .i64)), .bool (okA m g)])
@[go_sem] theorem g24_eq {n τ : Nat} {m : Mp} {g : Pg} : g24 n [.agg [.int .i64 m.epoch, .int .i64 m.term, .sl τ 2 (m.tree.devices.map (enDev.av τ)), .sl τ 3 (m.tree.buckets.map (enBkt.av τ)), .sl τ 4 (m.rules.map (enRule.av τ)), .sl τ 6 (m.pools.map (enPool.av τ)), .sl τ 1 (m.up.map (AV.int .i64)), .sl τ 1 (m.out.map (AV.int .i64))], .agg [.int .i64 g.pool, .int .i64 g.no]] = ⟨τ ≠ 0, .tup [.sl n 1 ((aR m g).map (AV.int .i64)), .bool (okA m g)]⟩ := semT2_eq (τ' := 0) (E := enMp) (F := enPg) (seen_Mp)
theorem p24 : Pure Tryz.prog 24 g24 := by
  refine semT2_pure fun τ τ' m g n h2 hpre => ?_
  have hT : Table Tryz.prog [(63, g63), (64, g64), (65, g65)] := (.cons p63 (.cons p64 (.cons p65 .nil)))
  have hn0 : n ≠ 0 := by omega
  refine SatP.of_body hT hm Tryz.func24 s24 o24 h2 (by simp) ?_
  have hp : τ ≠ 0 := hpre
  cases hmo : mapOk m
  · have e1 : okA m g = false := by simp [okA, hmo]
    have e2 : aR m g = [] := by simp [aR, e1]
    rw [e1, e2]
    simp (config := {contextual := true, maxSteps := 2000000, implicitDefEqProofs := false}) [c24, go_sem, hp, hmo, hn0]
  · cases hg : hasPg m g
    · have e1 : okA m g = false := by simp [okA, hmo, hg]
      have e2 : aR m g = [] := by simp [aR, e1]
      rw [e1, e2]
      simp (config := {contextual := true, maxSteps := 2000000, implicitDefEqProofs := false}) [c24, go_sem, hp, hmo, hg, hn0]
    · have e1 : okA m g = true := by simp [okA, hmo, hg]
      have e2 : aR m g = actR m g := by simp [aR, e1]
      rw [e1, e2]
      simp (config := {contextual := true, maxSteps := 2000000, implicitDefEqProofs := false}) [c24, go_sem, hp, hmo, hg, hn0]
def c26 : SCode := (.seq (.reg [⟨(some 2), .box 65 (.tmp 0), none⟩,
   ⟨(some 3), .box 44 (.tmp 1), none⟩,
   ⟨(some 4), .assign (.const (.slice none 0 0)), none⟩,
   ⟨(some 5), .assign (.const (.bool false)), none⟩])
(.seq (.seq (.reg [⟨(some 6), .load 65 (.tmp 2), none⟩,
     ⟨(some 7), .call ⟨(.value (.func 68)), #[(.tmp 6)], #[65]⟩, none⟩,
     ⟨(some 8), .unOp .not 4 (.tmp 7), none⟩,
     ⟨(some 9), .move (.tmp 8), none⟩,
     ⟨(some 10), .load 65 (.tmp 2), (some (9, false))⟩,
     ⟨(some 11), .load 44 (.tmp 3), (some (9, false))⟩,
     ⟨(some 12), .call ⟨(.value (.func 69)), #[(.tmp 10), (.tmp 11)], #[65, 44]⟩, (some (9, false))⟩,
     ⟨(some 13), .unOp .not 4 (.tmp 12), (some (9, false))⟩,
     ⟨(some 14), .pick (.tmp 9) (.const (.bool true)) (.tmp 13), none⟩])
  (.cond (.tmp 14) (.seq (.reg [⟨(some 4), .assign (.const (.slice none 0 0)), none⟩,
       ⟨(some 5), .assign (.const (.bool false)), none⟩])
    .ret)
   .skip))
 (.seq (.reg [⟨(some 15), .load 65 (.tmp 2), none⟩,
     ⟨(some 16), .load 44 (.tmp 3), none⟩,
     ⟨(some 17), .call ⟨(.value (.func 70)), #[(.tmp 15), (.tmp 16)], #[65, 44]⟩, none⟩,
     ⟨(some 4), .assign (.tmp 17), none⟩,
     ⟨(some 5), .assign (.const (.bool true)), none⟩])
  .ret)))
theorem s26 : slimF Tryz.f26 = some (c26, [.t 4, .t 5], 18) := by kernel_rfl
theorem o26 : okF [(68, g68), (69, g69)] Tryz.f26 = true := by kernel_rfl
theorem sat_26 {n : Nat} (h2 : 2 ≤ n) {τ : Nat} {m : Mp} {g : Pg} (hp : τ ≠ 0) : SatM Tryz.prog n 26 [] [.agg [.int .i64 m.epoch, .int .i64 m.term, .sl τ 2 (m.tree.devices.map (enDev.av τ)), .sl τ 3 (m.tree.buckets.map (enBkt.av τ)), .sl τ 4 (m.rules.map (enRule.av τ)), .sl τ 6 (m.pools.map (enPool.av τ)), .sl τ 1 (m.up.map (AV.int .i64)), .sl τ 1 (m.out.map (AV.int .i64))], .agg [.int .i64 g.pool, .int .i64 g.no]] [.row 2 1 ((aR m g).map (AV.int .i64))] (.tup [.osl 0 1 0 (aR m g).length, .bool (okA m g)]) := by
  have hT : Table Tryz.prog [(68, g68), (69, g69)] := (.cons p68 (.cons p69 .nil))
  have hn0 : n ≠ 0 := by omega
  refine SatM.of_bodyV hT hm Tryz.func26 s26 o26 h2 (by simp) ?_
  cases hmo : mapOk m
  · have e1 : okA m g = false := by simp [okA, hmo]
    have e2 : aR m g = [] := by simp [aR, e1]
    rw [e1, e2]
    simp (config := {contextual := true, maxSteps := 2000000, implicitDefEqProofs := false}) [c26, go_sem, hp, hmo, hn0]
    refine ⟨vivs [(4, 2, 1)] _, [2], vivs_sub _ _, ?_⟩
    simp [vivs, vivT, retM, resAV, rvV, rinOf, Root.rnp, AV.rnp, AV.rnp2, AV.rnp1, AV.rnp0, posOf, go_sem, Rz, nz_int, nz_osl, nz_tup]
  · cases hg : hasPg m g
    · have e1 : okA m g = false := by simp [okA, hmo, hg]
      have e2 : aR m g = [] := by simp [aR, e1]
      rw [e1, e2]
      simp (config := {contextual := true, maxSteps := 2000000, implicitDefEqProofs := false}) [c26, go_sem, hp, hmo, hg, hn0]
      refine ⟨vivs [(4, 2, 1)] _, [2], vivs_sub _ _, ?_⟩
      simp [vivs, vivT, retM, resAV, rvV, rinOf, Root.rnp, AV.rnp, AV.rnp2, AV.rnp1, AV.rnp0, posOf, go_sem, Rz, nz_int, nz_osl, nz_tup]
    · have e1 : okA m g = true := by simp [okA, hmo, hg]
      have e2 : aR m g = actR m g := by simp [aR, e1]
      rw [e1, e2]
      simp (config := {contextual := true, maxSteps := 2000000, implicitDefEqProofs := false}) [c26, go_sem, hp, hmo, hg, hn0]
      refine ⟨70, [], rfl, [], n, [.row 2 1 ((actR m g).map (AV.int .i64))], .osl 0 1 0 (actR m g).length, Nat.le_refl _, by simp, by simp, by simp [go_sem, posOf], by simpa [go_sem, rinOf, posOf] using sat_70 h2 hp hmo hg, ?_⟩
      simp (config := {contextual := true, maxSteps := 2000000, implicitDefEqProofs := false}) [go_sem, stOf, putAll, gmap, Root.ren, AV.ren, AV.ren2, AV.ren1, AV.ren0]
      generalize actR m g = q at *
      refine ⟨_, [2], Sub.refl 0 _, ?_⟩
      simp [retM, resAV, rvV, rinOf, Root.rnp, AV.rnp, AV.rnp2, AV.rnp1, AV.rnp0, posOf, go_sem, Rz, nz_int, nz_osl, nz_tup]
end Go.Ve
namespace Go.Ve
open Go.Proofs Go.RowKit
set_option linter.unusedVariables false
set_option linter.unusedSimpArgs false
set_option maxRecDepth 10000
set_option maxHeartbeats 4000000
def mMap (x : Mp) : AV := .agg [.leaf, .leaf, .sl 1 2 (x.tree.devices.map fun _ => .agg [.leaf, .leaf]), .sl 1 3 (x.tree.buckets.map fun b => .agg [.leaf, .leaf, .sl 1 1 (b.items.map fun _ => .leaf)]), .sl 1 4 (x.rules.map fun _ => .agg [.leaf, .leaf, .leaf, .leaf]), .sl 1 6 (x.pools.map fun _ => .agg [.leaf, .leaf, .leaf, .leaf, .leaf, .leaf]), .sl 1 1 (x.up.map fun _ => .leaf), .sl 1 1 (x.out.map fun _ => .leaf)]
theorem lfMap {μ : Nat} {x : Mp} : LfV μ (.agg [.int .i64 x.epoch, .int .i64 x.term, .sl μ 2 (x.tree.devices.map (enDev.av μ)), .sl μ 3 (x.tree.buckets.map (enBkt.av μ)), .sl μ 4 (x.rules.map (enRule.av μ)), .sl μ 6 (x.pools.map (enPool.av μ)), .sl μ 1 (x.up.map (AV.int .i64)), .sl μ 1 (x.out.map (AV.int .i64))]) (mMap x) := by
  refine lfV_agg ⟨.int .., .int .., Lf.map fun a _ => ?_, Lf.map fun a _ => ?_, Lf.map fun a _ => ?_, Lf.map fun a _ => ?_, Lf.map fun a _ => ?_, Lf.map fun a _ => ?_, trivial⟩
  · simp only [go_sem]
    exact lfE_agg ⟨.int .., .int .., trivial⟩
  · simp only [go_sem]
    exact lfE_agg ⟨.int .., .int .., Lf.map fun b _ => lfE_one rfl rfl (.int ..), trivial⟩
  · simp only [go_sem]
    exact lfE_agg ⟨.int .., .int .., .int .., .bool .., trivial⟩
  · simp only [go_sem]
    exact lfE_agg ⟨.int .., .int .., .int .., .int .., .int .., .int .., trivial⟩
  · exact lfE_one rfl rfl (.int ..)
  · exact lfE_one rfl rfl (.int ..)
theorem markMap_ok {x : Mp} {k : Int} (hk : 0 ≤ k ∧ k ≤ 1099511627776) (ht : ((x.tree.devices.length + (x.tree.buckets.length + (x.tree.buckets.map enBkt.tot).sum)) + x.rules.length + x.pools.length + x.up.length + x.out.length) ≤ 1048576) : ∃ K, MSat Tryz.prog 28 [mMap x, .int .i64 k] (.int .i64 K) ∧ k ≤ K ∧ K ≤ k + 16777216 := by
  have h1 := (cmTree (l := x.tree.buckets))
  have h2 : (x.tree.devices.map fun _ => AV.agg [.leaf, .leaf]).length = x.tree.devices.length := by simp
  have h3 : (x.rules.map fun _ => AV.agg [.leaf, .leaf, .leaf, .leaf]).length = x.rules.length := by simp
  have h4 : (x.pools.map fun _ => AV.agg [.leaf, .leaf, .leaf, .leaf, .leaf, .leaf]).length = x.pools.length := by simp
  have h5 : (x.up.map fun _ => AV.leaf).length = x.up.length := by simp
  have h6 : (x.out.map fun _ => AV.leaf).length = x.out.length := by simp
  refine ⟨_, pm28 [mMap x, .int .i64 k] ⟨⟨constM, bktsM, constM, constM, constM, constM⟩, hk.1, ?_⟩, ?_, ?_⟩ <;> omega
def c4 : SCode := (.seq (.reg [⟨(some 2), .box 58 (.tmp 0), none⟩,
   ⟨(some 3), .box 30 (.tmp 1), none⟩,
   ⟨(some 4), .assign (.const (.bool false)), none⟩])
(.seq (.reg [⟨(some 5), .assign (.const (.int .i64 1048576)), none⟩])
 (.seq (.reg [⟨(some 16), .load 58 (.tmp 2), none⟩,
     ⟨(some 17), .move (.tmp 5), none⟩,
     ⟨(some 18), .call ⟨(.value (.func 23)), #[(.tmp 16), (.tmp 17)], #[58, 3]⟩, none⟩,
     ⟨(some 5), .assign (.tmp 18), none⟩])
  (.seq (.seq (.reg [⟨(some 19), .move (.tmp 5), none⟩,
       ⟨(some 20), .binOp .lss 3 (.tmp 19) (.const (.int .i64 0)) 3, none⟩])
    (.cond (.tmp 20) (.seq (.reg [⟨(some 4), .assign (.const (.bool true)), none⟩])
      .ret)
     .skip))
   (.seq (.draw [⟨(some 22), .load 58 (.tmp 2), none⟩,
       ⟨(some 23), .call ⟨(.value (.func 25)), #[(.tmp 22)], #[58]⟩, none⟩,
       ⟨(some 24), .load 30 (.tmp 3), none⟩,
       ⟨(some 25), .call ⟨(.value (.func 13)), #[(.tmp 24)], #[30]⟩, none⟩,
       ⟨(some 26), .call ⟨(.value (.func 24)), #[(.tmp 23), (.tmp 25)], #[65, 44]⟩, none⟩,
       ⟨(some 21), .move (.tmp 26), none⟩,
       ⟨(some 27), .extract (.tmp 21) 0, none⟩,
       ⟨(some 28), .extract (.tmp 21) 1, none⟩,
       ⟨(some 6), .assign (.tmp 27), none⟩,
       ⟨(some 7), .assign (.tmp 28), none⟩] [[], [0], [], [0, 1, 2], [0, 1, 2, 3], [0, 1, 2, 3, 4], [0, 1, 2, 3, 4, 5], [0, 1, 2, 3, 4, 5], [0, 1, 2, 3, 4, 5, 6], [0, 1, 2, 3, 4, 5, 6, 7, 8]])
    (.seq (.reg [⟨(some 29), .load 58 (.tmp 2), none⟩,
        ⟨(some 30), .call ⟨(.value (.func 25)), #[(.tmp 29)], #[58]⟩, none⟩,
        ⟨(some 8), .alloc 65, none⟩,
        ⟨none, .store 65 (.tmp 8) (.tmp 30), none⟩])
     (.seq (.draw [⟨(some 32), .load 65 (.tmp 8), none⟩,
         ⟨(some 33), .load 30 (.tmp 3), none⟩,
         ⟨(some 34), .call ⟨(.value (.func 13)), #[(.tmp 33)], #[30]⟩, none⟩,
         ⟨(some 35), .call ⟨(.value (.func 26)), #[(.tmp 32), (.tmp 34)], #[65, 44]⟩, none⟩,
         ⟨(some 31), .move (.tmp 35), none⟩,
         ⟨(some 36), .extract (.tmp 31) 0, none⟩,
         ⟨(some 37), .extract (.tmp 31) 1, none⟩,
         ⟨(some 9), .assign (.tmp 36), none⟩,
         ⟨(some 10), .assign (.tmp 37), none⟩] [[], [], [1], [0, 1, 2], [0, 1, 2, 3], [0, 1, 2, 3, 4], [0, 1, 2, 3, 4], [0, 1, 2, 3, 4, 5], [0, 1, 2, 3, 4, 5, 6, 7]])
      (.seq (.seq (.reg [⟨(some 38), .move (.tmp 9), none⟩,
           ⟨(some 39), .move (.tmp 6), none⟩,
           ⟨(some 40), .call ⟨(.value (.func 16)), #[(.tmp 38), (.tmp 39)], #[28, 28]⟩, none⟩,
           ⟨(some 41), .unOp .not 4 (.tmp 40), none⟩,
           ⟨(some 42), .move (.tmp 41), none⟩,
           ⟨(some 43), .move (.tmp 10), (some (42, false))⟩,
           ⟨(some 44), .move (.tmp 7), (some (42, false))⟩,
           ⟨(some 45), .binOp .neq 4 (.tmp 43) (.tmp 44) 4, (some (42, false))⟩,
           ⟨(some 46), .pick (.tmp 42) (.const (.bool true)) (.tmp 45), none⟩])
        (.cond (.tmp 46) (.seq (.reg [⟨(some 4), .assign (.const (.bool false)), none⟩])
          .ret)
         .skip))
       (.seq (.seq (.draw [⟨(some 47), .load 65 (.tmp 8), none⟩,
            ⟨(some 48), .load 58 (.tmp 2), none⟩,
            ⟨(some 49), .call ⟨(.value (.func 25)), #[(.tmp 48)], #[58]⟩, none⟩,
            ⟨(some 50), .call ⟨(.value (.func 27)), #[(.tmp 47), (.tmp 49)], #[65, 65]⟩, none⟩,
            ⟨(some 51), .unOp .not 4 (.tmp 50), none⟩] [[], [], [1], [0, 1, 2], [0, 1, 2, 3]])
         (.cond (.tmp 51) (.seq (.reg [⟨(some 4), .assign (.const (.bool false)), none⟩])
           .ret)
          .skip))
        (.seq (.reg [⟨(some 11), .assign (.const (.int .i64 1)), none⟩])
         (.seq (.reg [⟨(some 52), .load 65 (.tmp 8), none⟩,
             ⟨(some 53), .move (.tmp 11), none⟩,
             ⟨(some 54), .call ⟨(.value (.func 28)), #[(.tmp 52), (.tmp 53)], #[65, 3]⟩, none⟩,
             ⟨(some 11), .assign (.tmp 54), none⟩])
          (.seq (.seq (.reg [⟨(some 55), .move (.tmp 11), none⟩,
               ⟨(some 56), .binOp .lss 3 (.tmp 55) (.const (.int .i64 0)) 3, none⟩,
               ⟨(some 57), .move (.tmp 56), none⟩,
               ⟨(some 58), .move (.tmp 9), (some (57, false))⟩,
               ⟨(some 59), .move (.tmp 6), (some (57, false))⟩,
               ⟨(some 60), .call ⟨(.value (.func 16)), #[(.tmp 58), (.tmp 59)], #[28, 28]⟩, (some (57, false))⟩,
               ⟨(some 61), .unOp .not 4 (.tmp 60), (some (57, false))⟩,
               ⟨(some 62), .pick (.tmp 57) (.const (.bool true)) (.tmp 61), none⟩,
               ⟨(some 63), .move (.tmp 62), none⟩,
               ⟨(some 64), .move (.tmp 10), (some (63, false))⟩,
               ⟨(some 65), .move (.tmp 7), (some (63, false))⟩,
               ⟨(some 66), .binOp .neq 4 (.tmp 64) (.tmp 65) 4, (some (63, false))⟩,
               ⟨(some 67), .pick (.tmp 63) (.const (.bool true)) (.tmp 66), none⟩])
            (.cond (.tmp 67) (.seq (.reg [⟨(some 4), .assign (.const (.bool false)), none⟩])
              .ret)
             .skip))
           (.seq (.reg [⟨(some 12), .assign (.const (.int .i64 1)), none⟩])
            (.seq (.reg [⟨(some 68), .move (.tmp 9), none⟩,
                ⟨(some 69), .move (.tmp 12), none⟩,
                ⟨(some 70), .call ⟨(.value (.func 20)), #[(.tmp 68), (.tmp 69)], #[28, 3]⟩, none⟩,
                ⟨(some 12), .assign (.tmp 70), none⟩])
             (.seq (.reg [⟨(some 13), .assign (.const (.int .i64 1)), none⟩])
              (.seq (.reg [⟨(some 71), .move (.tmp 9), none⟩,
                  ⟨(some 72), .move (.tmp 13), none⟩,
                  ⟨(some 73), .call ⟨(.value (.func 22)), #[(.tmp 71), (.tmp 72)], #[28, 3]⟩, none⟩,
                  ⟨(some 13), .assign (.tmp 73), none⟩])
               (.seq (.seq (.reg [⟨(some 74), .move (.tmp 13), none⟩,
                    ⟨(some 75), .binOp .lss 3 (.tmp 74) (.const (.int .i64 0)) 3, none⟩])
                 (.cond (.tmp 75) (.seq (.reg [⟨(some 4), .assign (.const (.bool false)), none⟩])
                   .ret)
                  .skip))
                (.seq (.seq (.reg [⟨(some 76), .move (.tmp 13), none⟩,
                     ⟨(some 77), .move (.tmp 12), none⟩,
                     ⟨(some 78), .binOp .neq 3 (.tmp 76) (.tmp 77) 3, none⟩])
                  (.cond (.tmp 78) (.seq (.reg [⟨(some 4), .assign (.const (.bool false)), none⟩])
                    .ret)
                   .skip))
                 (.seq (.draw [⟨(some 80), .load 58 (.tmp 2), none⟩,
                     ⟨(some 81), .call ⟨(.value (.func 25)), #[(.tmp 80)], #[58]⟩, none⟩,
                     ⟨(some 82), .load 30 (.tmp 3), none⟩,
                     ⟨(some 83), .call ⟨(.value (.func 13)), #[(.tmp 82)], #[30]⟩, none⟩,
                     ⟨(some 84), .call ⟨(.value (.func 26)), #[(.tmp 81), (.tmp 83)], #[65, 44]⟩, none⟩,
                     ⟨(some 79), .move (.tmp 84), none⟩,
                     ⟨(some 85), .extract (.tmp 79) 0, none⟩,
                     ⟨(some 86), .extract (.tmp 79) 1, none⟩,
                     ⟨(some 14), .assign (.tmp 85), none⟩,
                     ⟨(some 15), .assign (.tmp 86), none⟩] [[], [0], [], [0, 1, 2], [0, 1, 2, 3], [0, 1, 2, 3, 4], [0, 1, 2, 3, 4, 5], [0, 1, 2, 3, 4, 5], [0, 1, 2, 3, 4, 5, 6], [0, 1, 2, 3, 4, 5, 6, 7, 8]])
                  (.seq (.seq (.reg [⟨(some 87), .move (.tmp 14), none⟩,
                       ⟨(some 88), .move (.tmp 6), none⟩,
                       ⟨(some 89), .call ⟨(.value (.func 16)), #[(.tmp 87), (.tmp 88)], #[28, 28]⟩, none⟩,
                       ⟨(some 90), .unOp .not 4 (.tmp 89), none⟩,
                       ⟨(some 91), .move (.tmp 90), none⟩,
                       ⟨(some 92), .move (.tmp 15), (some (91, false))⟩,
                       ⟨(some 93), .move (.tmp 7), (some (91, false))⟩,
                       ⟨(some 94), .binOp .neq 4 (.tmp 92) (.tmp 93) 4, (some (91, false))⟩,
                       ⟨(some 95), .pick (.tmp 91) (.const (.bool true)) (.tmp 94), none⟩])
                    (.cond (.tmp 95) (.seq (.reg [⟨(some 4), .assign (.const (.bool false)), none⟩])
                      .ret)
                     .skip))
                   (.seq (.reg [⟨(some 13), .assign (.const (.int .i64 1)), none⟩])
                    (.seq (.reg [⟨(some 96), .move (.tmp 9), none⟩,
                        ⟨(some 97), .move (.tmp 13), none⟩,
                        ⟨(some 98), .call ⟨(.value (.func 22)), #[(.tmp 96), (.tmp 97)], #[28, 3]⟩, none⟩,
                        ⟨(some 13), .assign (.tmp 98), none⟩])
                     (.seq (.seq (.reg [⟨(some 99), .move (.tmp 13), none⟩,
                          ⟨(some 100), .binOp .lss 3 (.tmp 99) (.const (.int .i64 0)) 3, none⟩])
                       (.cond (.tmp 100) (.seq (.reg [⟨(some 4), .assign (.const (.bool false)), none⟩])
                         .ret)
                        .skip))
                      (.seq (.seq (.reg [⟨(some 101), .move (.tmp 13), none⟩,
                           ⟨(some 102), .move (.tmp 12), none⟩,
                           ⟨(some 103), .binOp .neq 3 (.tmp 101) (.tmp 102) 3, none⟩])
                        (.cond (.tmp 103) (.seq (.reg [⟨(some 4), .assign (.const (.bool false)), none⟩])
                          .ret)
                         .skip))
                       (.seq (.reg [⟨(some 4), .assign (.const (.bool true)), none⟩])
                        .ret)))))))))))))))))))))))))
theorem s4 : slimF Tryz.f4 = some (c4, [.t 4], 104) := by kernel_rfl
theorem o4 : okF [(23, g23), (25, g25), (13, g13), (24, g24), (16, g16), (27, g27), (22, g22)] Tryz.f4 = true := by kernel_rfl
theorem law_FnExactActingOf (x : Mp) (y : Pg) : LawOk Tryz.prog 4 [.agg [.int .i64 x.epoch, .int .i64 x.term, .sl 1 2 (x.tree.devices.map (enDev.av 1)), .sl 1 3 (x.tree.buckets.map (enBkt.av 1)), .sl 1 4 (x.rules.map (enRule.av 1)), .sl 1 6 (x.pools.map (enPool.av 1)), .sl 1 1 (x.up.map (AV.int .i64)), .sl 1 1 (x.out.map (AV.int .i64))], .agg [.int .i64 y.pool, .int .i64 y.no]] := by
  have hself : ∀ {α : Type} (x : α), eqB x x = true := fun x => eqB_iff.2 rfl
  have hT : Table Tryz.prog [(23, g23), (25, g25), (13, g13), (24, g24), (16, g16), (27, g27), (22, g22)] := (.cons p23 (.cons p25 (.cons p13 (.cons p24 (.cons p16 (.cons p27 (.cons p22 .nil)))))))
  refine LawOk.of_body Tryz.func4 s4 o4 (by simp) ?_
  simp only [c4]
  generalize hta : ((x.tree.devices.length + (x.tree.buckets.length + (x.tree.buckets.map enBkt.tot).sum)) + x.rules.length + x.pools.length + x.up.length + x.out.length) = ta
  refine VL_step hT hm 2 (by decide) ?_
  simp (config := {contextual := true, maxSteps := 2000000, implicitDefEqProofs := false}) [go_sem]
  try refine And.intro (by omega) ?_
  refine VL_step hT hm 2 (by decide) ?_
  simp (config := {contextual := true, maxSteps := 2000000, implicitDefEqProofs := false}) [go_sem]
  try refine And.intro (by omega) ?_
  rcases szR_spec 1048576 ta with ⟨h1, h3⟩ | ⟨h1, h3⟩
  · have h4 : (0 : Int) ≤ 1048576 - (ta : Nat) := by omega
    have h4' : 1048576 - ((ta : Nat) : Int) ≤ 4611686018427387904 := by omega
    have h5 : ta ≤ 1048576 := by omega
    have h6 : ¬ (1048576 - ((ta : Nat) : Int)) < 0 := by omega
    have h7 : (ta : Int) ≤ 1048576 := by omega
    obtain ⟨K1, hs1, b1, b2⟩ := markMap_ok (x := x) (k := 1) (by decide) (by rw [hta]; exact h5)
    have hK1 : ¬ K1 < 0 := by omega
    have hll := aR_len (m := x) (g := y)
    have hml : (mkI 1 (aR x y).length).length = (aR x y).length := mkI_len
    have htk : List.take (aR x y).length (List.map (AV.int .i64) (mkI 1 (aR x y).length)) = List.map (AV.int .i64) (mkI 1 (aR x y).length) := List.take_of_length_le (by simp [mkI_len])
    have hld : hldI 1 (mkI 1 (aR x y).length) = 1 + ((aR x y).length : Int) := hldI_mkI
    have hb0 : 1 + ((aR x y).length : Int) ≤ 1152921504606846976 := by omega
    have hb1 : ¬ 1 + ((aR x y).length : Int) < 0 := by omega
    have hb2 : (aR x y).length ≤ (aR x y).length := Nat.le_refl _
    refine VL_step hT hm 2 (by decide) ?_
    simp (config := {contextual := true, maxSteps := 2000000, implicitDefEqProofs := false}) [go_sem, bigB, hta, h3, h4, h5, h6, hself]
    try refine And.intro (by omega) ?_
    refine VL_step hT hm 2 (by decide) ?_
    simp (config := {contextual := true, maxSteps := 2000000, implicitDefEqProofs := false}) [go_sem, bigB, hta, h3, h4, h5, h6, hself]
    try refine And.intro (by omega) ?_
    refine VL_step hT hm 2 (by decide) ?_
    simp (config := {contextual := true, maxSteps := 2000000, implicitDefEqProofs := false}) [go_sem, bigB, hta, h3, h4, h5, h6, hself]
    try refine And.intro (by omega) ?_
    refine VL_step hT hm 3 (by decide) ?_
    simp (config := {contextual := true, maxSteps := 2000000, implicitDefEqProofs := false}) [go_sem, bigB, hta, h3, h4, h5, h6, hself]
    try refine And.intro (by omega) ?_
    refine VL_keep [2, 3, 6, 7, 8] ?_
    simp (config := {contextual := true, maxSteps := 2000000, implicitDefEqProofs := false}) [go_sem]
    refine VL_step hT hm 2 (by decide) ?_
    simp (config := {contextual := true, maxSteps := 2000000, implicitDefEqProofs := false}) [go_sem, bigB, hta, h3, h4, h5, h6, hself]
    try refine And.intro (by omega) ?_
    refine ⟨26, [], rfl, [], 2, [.row 2 1 ((aR x y).map (AV.int .i64))], .tup [.osl 0 1 0 (aR x y).length, .bool (okA x y)], Nat.le_refl _, by simp, by simp, by simp [go_sem, posOf], by simpa [go_sem, rinOf, Root.rnp, posOf] using sat_26 (n := 2) (by decide) (τ := 3) (m := x) (g := y) (by decide), ?_⟩
    simp (config := {contextual := true, maxSteps := 2000000, implicitDefEqProofs := false}) [go_sem, stOf, putAll, gmap, Root.ren, AV.ren, AV.ren2, AV.ren1, AV.ren0]
    refine VL_step hT hm 2 (by decide) ?_
    simp (config := {contextual := true, maxSteps := 2000000, implicitDefEqProofs := false}) [go_sem, bigB, hta, h3, h4, h5, h6, hself]
    try refine And.intro (by omega) ?_
    refine VL_step hT hm 4 (by decide) ?_
    simp (config := {contextual := true, maxSteps := 2000000, implicitDefEqProofs := false}) [go_sem, bigB, hta, h3, h4, h5, h6, hself]
    try refine And.intro (by omega) ?_
    refine VL_keep [2, 3, 6, 7, 8, 9, 10] ?_
    simp (config := {contextual := true, maxSteps := 2000000, implicitDefEqProofs := false}) [go_sem]
    refine VL_step hT hm 2 (by decide) ?_
    simp (config := {contextual := true, maxSteps := 2000000, implicitDefEqProofs := false}) [go_sem, bigB, hta, h3, h4, h5, h6, hself]
    try refine And.intro (by omega) ?_
    refine VL_seq (VL_reg ?_)
    refine VR_one hT 2 (by decide) ?_
    simp (config := {contextual := true, maxSteps := 2000000, implicitDefEqProofs := false}) [go_sem]
    refine VR_one hT 2 (by decide) ?_
    simp (config := {contextual := true, maxSteps := 2000000, implicitDefEqProofs := false}) [go_sem]
    refine VR_mark 3 (by decide) [2, 3, 6, 7, 9, 10, 11] [2] (y := mMap x) (k0 := 1) (k' := K1) rfl rfl rfl lfMap hs1 (by simp [go_sem]) (by simp [gones, NmR, go_sem]) ?_
    simp (config := {contextual := true, maxSteps := 2000000, implicitDefEqProofs := false}) [go_sem, gones]
    refine VR_one hT 2 (by decide) ?_
    simp (config := {contextual := true, maxSteps := 2000000, implicitDefEqProofs := false}) [go_sem]
    refine VR_nil ?_
    simp (config := {contextual := true, maxSteps := 2000000, implicitDefEqProofs := false}) [go_sem]
    refine VL_step hT hm 2 (by decide) ?_
    simp (config := {contextual := true, maxSteps := 2000000, implicitDefEqProofs := false}) [go_sem, bigB, hta, h3, h4, h5, h6, hself, hK1]
    try refine And.intro (by omega) ?_
    refine VL_step hT hm 2 (by decide) ?_
    simp (config := {contextual := true, maxSteps := 2000000, implicitDefEqProofs := false}) [go_sem, bigB, hta, h3, h4, h5, h6, hself]
    try refine And.intro (by omega) ?_
    refine VL_step hT hm 2 (by decide) ?_
    simp (config := {contextual := true, maxSteps := 2000000, implicitDefEqProofs := false}) [go_sem, bigB, hta, h3, h4, h5, h6, hself]
    try refine And.intro (by omega) ?_
    refine ⟨20, [], rfl, [3], 2, [.row 2 1 ((mkI 1 (aR x y).length).map (AV.int .i64))], .int .i64 (1 + ((aR x y).length : Int)), Nat.le_refl _, by simp, by simp, by simp [go_sem, posOf], by simpa [go_sem, rinOf, Root.rnp, posOf] using sat_20 (n := 2) (k := 1) (ls := aR x y) (by decide) (by decide) (by omega), ?_⟩
    simp (config := {contextual := true, maxSteps := 2000000, implicitDefEqProofs := false}) [go_sem, stOf, putAll, gmap, Root.ren, AV.ren, AV.ren2, AV.ren1, AV.ren0]
    generalize mkI 1 (aR x y).length = ms at *
    refine VL_keep [2, 3, 6, 7, 9, 10, 12] ?_
    simp (config := {contextual := true, maxSteps := 2000000, implicitDefEqProofs := false}) [go_sem]
    refine VL_step hT hm 2 (by decide) ?_
    simp (config := {contextual := true, maxSteps := 2000000, implicitDefEqProofs := false}) [go_sem, bigB, hta, h3, h4, h5, h6, hself]
    try refine And.intro (by omega) ?_
    refine VL_step hT hm 2 (by decide) ?_
    simp (config := {contextual := true, maxSteps := 2000000, implicitDefEqProofs := false}) [go_sem, bigB, hta, h3, h4, h5, h6, hself, hml, htk, hld, hb0, hb1, hb2, hself]
    try refine And.intro (by omega) ?_
    refine VL_step hT hm 2 (by decide) ?_
    simp (config := {contextual := true, maxSteps := 2000000, implicitDefEqProofs := false}) [go_sem, bigB, hta, h3, h4, h5, h6, hself, hml, htk, hld, hb0, hb1, hb2, hself]
    try refine And.intro (by omega) ?_
    refine VL_step hT hm 2 (by decide) ?_
    simp (config := {contextual := true, maxSteps := 2000000, implicitDefEqProofs := false}) [go_sem, bigB, hta, h3, h4, h5, h6, hself, hml, htk, hld, hb0, hb1, hb2, hself]
    try refine And.intro (by omega) ?_
    refine VL_keep [2, 3, 6, 7, 9, 10, 12] ?_
    simp (config := {contextual := true, maxSteps := 2000000, implicitDefEqProofs := false}) [go_sem]
    refine VL_step hT hm 2 (by decide) ?_
    simp (config := {contextual := true, maxSteps := 2000000, implicitDefEqProofs := false}) [go_sem, bigB, hta, h3, h4, h5, h6, hself]
    try refine And.intro (by omega) ?_
    refine ⟨26, [], rfl, [], 2, [.row 2 1 ((aR x y).map (AV.int .i64))], .tup [.osl 0 1 0 (aR x y).length, .bool (okA x y)], Nat.le_refl _, by simp, by simp, by simp [go_sem, posOf], by simpa [go_sem, rinOf, Root.rnp, posOf] using sat_26 (n := 2) (by decide) (τ := 2) (m := x) (g := y) (by decide), ?_⟩
    simp (config := {contextual := true, maxSteps := 2000000, implicitDefEqProofs := false}) [go_sem, stOf, putAll, gmap, Root.ren, AV.ren, AV.ren2, AV.ren1, AV.ren0]
    refine VL_step hT hm 2 (by decide) ?_
    simp (config := {contextual := true, maxSteps := 2000000, implicitDefEqProofs := false}) [go_sem, bigB, hta, h3, h4, h5, h6, hself, hml, htk, hld, hb0, hb1, hb2, hself]
    try refine And.intro (by omega) ?_
    refine VL_keep [2, 3, 6, 7, 9, 10, 12] ?_
    simp (config := {contextual := true, maxSteps := 2000000, implicitDefEqProofs := false}) [go_sem]
    refine VL_step hT hm 2 (by decide) ?_
    simp (config := {contextual := true, maxSteps := 2000000, implicitDefEqProofs := false}) [go_sem, bigB, hta, h3, h4, h5, h6, hself]
    try refine And.intro (by omega) ?_
    refine VL_step hT hm 2 (by decide) ?_
    simp (config := {contextual := true, maxSteps := 2000000, implicitDefEqProofs := false}) [go_sem, bigB, hta, h3, h4, h5, h6, hself, hml, htk, hld, hb0, hb1, hb2, hself]
    try refine And.intro (by omega) ?_
    refine VL_step hT hm 2 (by decide) ?_
    simp (config := {contextual := true, maxSteps := 2000000, implicitDefEqProofs := false}) [go_sem, bigB, hta, h3, h4, h5, h6, hself, hml, htk, hld, hb0, hb1, hb2, hself]
    try refine And.intro (by omega) ?_
    refine VL_step hT hm 2 (by decide) ?_
    simp (config := {contextual := true, maxSteps := 2000000, implicitDefEqProofs := false}) [go_sem, bigB, hta, h3, h4, h5, h6, hself, hml, htk, hld, hb0, hb1, hb2, hself]
    try refine And.intro (by omega) ?_
    refine VL_vc hT hm 2 (by decide) ?_
    simp (config := {contextual := true, maxSteps := 2000000, implicitDefEqProofs := false}) [go_sem]
  · refine VL_step hT hm 2 (by decide) ?_
    simp (config := {contextual := true, maxSteps := 2000000, implicitDefEqProofs := false}) [go_sem, bigB, hta, h3]
    try refine And.intro (by omega) ?_
    refine VL_step hT hm 2 (by decide) ?_
    simp (config := {contextual := true, maxSteps := 2000000, implicitDefEqProofs := false}) [go_sem, bigB, hta, h3]
    try refine And.intro (by omega) ?_
theorem lawz_FnExactActingOf (x0 : Mp) (x1 : Pg) (_ : okMp x0) (_ : okPg x1) : LawOk Tryz.prog 4 [enMp.av 1 x0, enPg.av 1 x1] := law_FnExactActingOf x0 x1
end Go.Ve
