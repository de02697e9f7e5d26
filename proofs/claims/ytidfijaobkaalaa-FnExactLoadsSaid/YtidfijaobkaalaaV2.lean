/- The laws' helpers of the seat: sizes, copies, comparisons. No condition. -/
import Derived.Test.YtidfijaobkaalaaV1
namespace Go.Ve
open Go.Proofs Go.RowKit
set_option linter.unusedVariables false
set_option linter.unusedSimpArgs false
set_option maxRecDepth 10000
set_option maxHeartbeats 4000000
theorem fite_2 : FitE Try.prog 2 (En.int .i64) := ⟨by simp only [go_sem], by simp only [go_sem], fun τ x => by simp [go_sem]⟩
theorem fitze_2 : FitZ Try.prog 2 (En.int .i64) := ⟨by simp only [go_sem], by simp only [go_sem], by simp only [go_sem], by simp [go_sem], by simp only [go_sem], by simp [go_sem], by simp [go_sem], fun τ x => by simp [go_sem, setEl]⟩
theorem fite_28 : FitE Try.prog 28 (En.int .i64).list := ⟨by simp only [go_sem], by simp only [go_sem], fun τ x => by simp [go_sem]⟩
theorem fitze_28 : FitZ Try.prog 28 (En.int .i64).list := ⟨by simp only [go_sem], by simp only [go_sem], by simp only [go_sem], by simp [go_sem], by simp only [go_sem], by simp [go_sem], by simp [go_sem], fun τ x => by simp [go_sem, setEl]⟩
/- laws.szDeviceS -/
noncomputable def g56 : Fsem := szSem enDev.list
@[go_sem] theorem g56_eq {n τ : Nat} {x : List Dev} {b : Int} : g56 n [.sl τ 2 (x.map (enDev.av τ)), .int .i64 b] = ⟨0 ≤ b ∧ b ≤ bigB, .int .i64 (szR b x.length)⟩ := by
  have h := szSem_eq (E := enDev.list) (n := n) (τ := τ) (x := x) (b := b)
  rw [tot_list, sum_flat (E := enDev) (fun x => tot_Dev), Nat.add_zero] at h
  exact h
theorem s56 : slimF Try.f56 = some (szFlatC 3 22, [.t 4], 12) := by kernel_rfl
theorem o56 : okF [] Try.f56 = true := by kernel_rfl
theorem p56 : Pure Try.prog 56 g56 := szFlat_ok hm Try.func56 s56 o56 (by omega) ty_22 (fun x => tot_Dev)
/- laws.szInt64S -/
noncomputable def g35 : Fsem := szSem (En.int .i64).list
@[go_sem] theorem g35_eq {n τ : Nat} {x : List Int} {b : Int} : g35 n [.sl τ 1 (x.map (AV.int .i64)), .int .i64 b] = ⟨0 ≤ b ∧ b ≤ bigB, .int .i64 (szR b x.length)⟩ := by
  have h := szSem_eq (E := (En.int .i64).list) (n := n) (τ := τ) (x := x) (b := b)
  rw [tot_list, sum_flat (E := (En.int .i64)) (fun x => rfl), Nat.add_zero] at h
  exact h
theorem s35 : slimF Try.f35 = some (szFlatC 3 28, [.t 4], 12) := by kernel_rfl
theorem o35 : okF [] Try.f35 = true := by kernel_rfl
theorem p35 : Pure Try.prog 35 g35 := szFlat_ok hm Try.func35 s35 o35 (by omega) ty_28 (fun x => rfl)
/- laws.szBucket -/
noncomputable def g98 : Fsem := szSem enBkt
@[go_sem] theorem g98_eq {n τ : Nat} {x : Bkt} {b : Int} : g98 n [.agg [.int .i64 x.id, .int .i64 x.kind, .sl τ 1 (x.items.map (AV.int .i64))], .int .i64 b] = ⟨0 ≤ b ∧ b ≤ bigB, .int .i64 (szR b x.items.length)⟩ := by
  have h := szSem_eq (E := enBkt) (n := n) (τ := τ) (x := x) (b := b)
  rw [tot_Bkt] at h
  exact h
def c98 : SCode := (.seq (.reg [⟨(some 2), .box 129 (.tmp 0), none⟩,
   ⟨(some 4), .assign (.const (.int .i64 0)), none⟩])
(.seq (.reg [⟨(some 5), .fieldAddr 129 (.tmp 2) 2, none⟩,
    ⟨(some 6), .load 28 (.tmp 5), none⟩,
    ⟨(some 7), .move (.tmp 1), none⟩,
    ⟨(some 8), .call ⟨(.value (.func 35)), #[(.tmp 6), (.tmp 7)], #[28, 3]⟩, none⟩,
    ⟨(some 1), .assign (.tmp 8), none⟩])
 (.seq (.seq (.reg [⟨(some 9), .move (.tmp 1), none⟩,
      ⟨(some 10), .binOp .lss 3 (.tmp 9) (.const (.int .i64 0)) 3, none⟩])
   (.cond (.tmp 10) (.seq (.reg [⟨(some 4), .assign (.const (.int .i64 (-1))), none⟩])
     .ret)
    .skip))
  (.seq (.reg [⟨(some 11), .move (.tmp 1), none⟩,
      ⟨(some 4), .assign (.tmp 11), none⟩])
   .ret))))
theorem s98 : slimF Try.f98 = some (c98, [.t 4], 12) := by kernel_rfl
theorem o98 : okF [(35, g35)] Try.f98 = true := by kernel_rfl
theorem p98 : Pure Try.prog 98 g98 := by
  refine semOf_pure fun ⟨τ, x, b⟩ n h2 ⟨hb1, hb2⟩ => ?_
  have hT : Table Try.prog [(35, g35)] := (.cons p35 .nil)
  refine SatP.of_body hT hm Try.func98 s98 o98 h2 (by simp) ?_
  simp only [bigB] at hb1 hb2
  simp (config := {contextual := true, maxSteps := 4000000, implicitDefEqProofs := false}) [c98, go_sem, tot_Bkt, bigB, hb1, hb2]
  have := szR_spec b x.items.length
  have := szR_spec b x.items.length
  omega
/- laws.szBucketS -/
noncomputable def g57 : Fsem := szSem enBkt.list
@[go_sem] theorem g57_eq {n τ : Nat} {x : List Bkt} {b : Int} : g57 n [.sl τ 3 (x.map (enBkt.av τ)), .int .i64 b] = ⟨0 ≤ b ∧ b ≤ bigB, .int .i64 (szR b ((x.length + (x.map enBkt.tot).sum)))⟩ := by
  have h := szSem_eq (E := enBkt.list) (n := n) (τ := τ) (x := x) (b := b)
  rw [tot_list] at h
  exact h
theorem s57 : slimF Try.f57 = some (szDeepC 3 23 129 98, [.t 4], 27) := by kernel_rfl
theorem o57 : okF [(98, g98)] Try.f57 = true := by kernel_rfl
theorem p57 : Pure Try.prog 57 g57 := szDeep_ok hm Try.func57 s57 o57 (by omega) ty_23 fit_129 p98 (fun n τ x b => szSem_eq)
/- laws.szTree -/
noncomputable def g18 : Fsem := szSem enTree
@[go_sem] theorem g18_eq {n τ : Nat} {x : Tree} {b : Int} : g18 n [.agg [.sl τ 2 (x.devices.map (enDev.av τ)), .sl τ 3 (x.buckets.map (enBkt.av τ))], .int .i64 b] = ⟨0 ≤ b ∧ b ≤ bigB, .int .i64 (szR b ((x.devices.length + (x.buckets.length + (x.buckets.map enBkt.tot).sum))))⟩ := by
  have h := szSem_eq (E := enTree) (n := n) (τ := τ) (x := x) (b := b)
  rw [tot_Tree] at h
  exact h
def c18 : SCode := (.seq (.reg [⟨(some 2), .box 25 (.tmp 0), none⟩,
   ⟨(some 4), .assign (.const (.int .i64 0)), none⟩])
(.seq (.reg [⟨(some 5), .fieldAddr 25 (.tmp 2) 0, none⟩,
    ⟨(some 6), .load 22 (.tmp 5), none⟩,
    ⟨(some 7), .move (.tmp 1), none⟩,
    ⟨(some 8), .call ⟨(.value (.func 56)), #[(.tmp 6), (.tmp 7)], #[22, 3]⟩, none⟩,
    ⟨(some 1), .assign (.tmp 8), none⟩])
 (.seq (.seq (.reg [⟨(some 9), .move (.tmp 1), none⟩,
      ⟨(some 10), .binOp .lss 3 (.tmp 9) (.const (.int .i64 0)) 3, none⟩])
   (.cond (.tmp 10) (.seq (.reg [⟨(some 4), .assign (.const (.int .i64 (-1))), none⟩])
     .ret)
    .skip))
  (.seq (.reg [⟨(some 11), .fieldAddr 25 (.tmp 2) 1, none⟩,
      ⟨(some 12), .load 23 (.tmp 11), none⟩,
      ⟨(some 13), .move (.tmp 1), none⟩,
      ⟨(some 14), .call ⟨(.value (.func 57)), #[(.tmp 12), (.tmp 13)], #[23, 3]⟩, none⟩,
      ⟨(some 1), .assign (.tmp 14), none⟩])
   (.seq (.seq (.reg [⟨(some 15), .move (.tmp 1), none⟩,
        ⟨(some 16), .binOp .lss 3 (.tmp 15) (.const (.int .i64 0)) 3, none⟩])
     (.cond (.tmp 16) (.seq (.reg [⟨(some 4), .assign (.const (.int .i64 (-1))), none⟩])
       .ret)
      .skip))
    (.seq (.reg [⟨(some 17), .move (.tmp 1), none⟩,
        ⟨(some 4), .assign (.tmp 17), none⟩])
     .ret))))))
theorem s18 : slimF Try.f18 = some (c18, [.t 4], 18) := by kernel_rfl
theorem o18 : okF [(56, g56), (57, g57)] Try.f18 = true := by kernel_rfl
theorem p18 : Pure Try.prog 18 g18 := by
  refine semOf_pure fun ⟨τ, x, b⟩ n h2 ⟨hb1, hb2⟩ => ?_
  have hT : Table Try.prog [(56, g56), (57, g57)] := (.cons p56 (.cons p57 .nil))
  refine SatP.of_body hT hm Try.func18 s18 o18 h2 (by simp) ?_
  simp only [bigB] at hb1 hb2
  simp (config := {contextual := true, maxSteps := 4000000, implicitDefEqProofs := false}) [c18, go_sem, tot_Tree, bigB, hb1, hb2]
  have := szR_spec b x.devices.length
  have := szR_spec (szR b x.devices.length) ((x.buckets.length + (x.buckets.map enBkt.tot).sum))
  have := szR_spec b ((x.devices.length + (x.buckets.length + (x.buckets.map enBkt.tot).sum)))
  omega
/- laws.szRuleS -/
noncomputable def g33 : Fsem := szSem enRule.list
@[go_sem] theorem g33_eq {n τ : Nat} {x : List Rule} {b : Int} : g33 n [.sl τ 4 (x.map (enRule.av τ)), .int .i64 b] = ⟨0 ≤ b ∧ b ≤ bigB, .int .i64 (szR b x.length)⟩ := by
  have h := szSem_eq (E := enRule.list) (n := n) (τ := τ) (x := x) (b := b)
  rw [tot_list, sum_flat (E := enRule) (fun x => tot_Rule), Nat.add_zero] at h
  exact h
theorem s33 : slimF Try.f33 = some (szFlatC 3 26, [.t 4], 12) := by kernel_rfl
theorem o33 : okF [] Try.f33 = true := by kernel_rfl
theorem p33 : Pure Try.prog 33 g33 := szFlat_ok hm Try.func33 s33 o33 (by omega) ty_26 (fun x => tot_Rule)
/- laws.szPoolS -/
noncomputable def g34 : Fsem := szSem enPool.list
@[go_sem] theorem g34_eq {n τ : Nat} {x : List Pool} {b : Int} : g34 n [.sl τ 6 (x.map (enPool.av τ)), .int .i64 b] = ⟨0 ≤ b ∧ b ≤ bigB, .int .i64 (szR b x.length)⟩ := by
  have h := szSem_eq (E := enPool.list) (n := n) (τ := τ) (x := x) (b := b)
  rw [tot_list, sum_flat (E := enPool) (fun x => tot_Pool), Nat.add_zero] at h
  exact h
theorem s34 : slimF Try.f34 = some (szFlatC 3 27, [.t 4], 12) := by kernel_rfl
theorem o34 : okF [] Try.f34 = true := by kernel_rfl
theorem p34 : Pure Try.prog 34 g34 := szFlat_ok hm Try.func34 s34 o34 (by omega) ty_27 (fun x => tot_Pool)
/- laws.szMap -/
noncomputable def g8 : Fsem := szSem enMp
@[go_sem] theorem g8_eq {n τ : Nat} {x : Mp} {b : Int} : g8 n [.agg [.int .i64 x.epoch, .int .i64 x.term, .sl τ 2 (x.tree.devices.map (enDev.av τ)), .sl τ 3 (x.tree.buckets.map (enBkt.av τ)), .sl τ 4 (x.rules.map (enRule.av τ)), .sl τ 6 (x.pools.map (enPool.av τ)), .sl τ 1 (x.up.map (AV.int .i64)), .sl τ 1 (x.out.map (AV.int .i64))], .int .i64 b] = ⟨0 ≤ b ∧ b ≤ bigB, .int .i64 (szR b (((x.tree.devices.length + (x.tree.buckets.length + (x.tree.buckets.map enBkt.tot).sum)) + x.rules.length + x.pools.length + x.up.length + x.out.length)))⟩ := by
  have h := szSem_eq (E := enMp) (n := n) (τ := τ) (x := x) (b := b)
  rw [tot_Mp] at h
  exact h
def c8 : SCode := (.seq (.reg [⟨(some 2), .box 30 (.tmp 0), none⟩,
   ⟨(some 4), .assign (.const (.int .i64 0)), none⟩])
(.seq (.reg [⟨(some 5), .fieldAddr 30 (.tmp 2) 2, none⟩,
    ⟨(some 6), .load 25 (.tmp 5), none⟩,
    ⟨(some 7), .move (.tmp 1), none⟩,
    ⟨(some 8), .call ⟨(.value (.func 18)), #[(.tmp 6), (.tmp 7)], #[25, 3]⟩, none⟩,
    ⟨(some 1), .assign (.tmp 8), none⟩])
 (.seq (.seq (.reg [⟨(some 9), .move (.tmp 1), none⟩,
      ⟨(some 10), .binOp .lss 3 (.tmp 9) (.const (.int .i64 0)) 3, none⟩])
   (.cond (.tmp 10) (.seq (.reg [⟨(some 4), .assign (.const (.int .i64 (-1))), none⟩])
     .ret)
    .skip))
  (.seq (.reg [⟨(some 11), .fieldAddr 30 (.tmp 2) 3, none⟩,
      ⟨(some 12), .load 26 (.tmp 11), none⟩,
      ⟨(some 13), .move (.tmp 1), none⟩,
      ⟨(some 14), .call ⟨(.value (.func 33)), #[(.tmp 12), (.tmp 13)], #[26, 3]⟩, none⟩,
      ⟨(some 1), .assign (.tmp 14), none⟩])
   (.seq (.seq (.reg [⟨(some 15), .move (.tmp 1), none⟩,
        ⟨(some 16), .binOp .lss 3 (.tmp 15) (.const (.int .i64 0)) 3, none⟩])
     (.cond (.tmp 16) (.seq (.reg [⟨(some 4), .assign (.const (.int .i64 (-1))), none⟩])
       .ret)
      .skip))
    (.seq (.reg [⟨(some 17), .fieldAddr 30 (.tmp 2) 4, none⟩,
        ⟨(some 18), .load 27 (.tmp 17), none⟩,
        ⟨(some 19), .move (.tmp 1), none⟩,
        ⟨(some 20), .call ⟨(.value (.func 34)), #[(.tmp 18), (.tmp 19)], #[27, 3]⟩, none⟩,
        ⟨(some 1), .assign (.tmp 20), none⟩])
     (.seq (.seq (.reg [⟨(some 21), .move (.tmp 1), none⟩,
          ⟨(some 22), .binOp .lss 3 (.tmp 21) (.const (.int .i64 0)) 3, none⟩])
       (.cond (.tmp 22) (.seq (.reg [⟨(some 4), .assign (.const (.int .i64 (-1))), none⟩])
         .ret)
        .skip))
      (.seq (.reg [⟨(some 23), .fieldAddr 30 (.tmp 2) 5, none⟩,
          ⟨(some 24), .load 28 (.tmp 23), none⟩,
          ⟨(some 25), .move (.tmp 1), none⟩,
          ⟨(some 26), .call ⟨(.value (.func 35)), #[(.tmp 24), (.tmp 25)], #[28, 3]⟩, none⟩,
          ⟨(some 1), .assign (.tmp 26), none⟩])
       (.seq (.seq (.reg [⟨(some 27), .move (.tmp 1), none⟩,
            ⟨(some 28), .binOp .lss 3 (.tmp 27) (.const (.int .i64 0)) 3, none⟩])
         (.cond (.tmp 28) (.seq (.reg [⟨(some 4), .assign (.const (.int .i64 (-1))), none⟩])
           .ret)
          .skip))
        (.seq (.reg [⟨(some 29), .fieldAddr 30 (.tmp 2) 6, none⟩,
            ⟨(some 30), .load 28 (.tmp 29), none⟩,
            ⟨(some 31), .move (.tmp 1), none⟩,
            ⟨(some 32), .call ⟨(.value (.func 35)), #[(.tmp 30), (.tmp 31)], #[28, 3]⟩, none⟩,
            ⟨(some 1), .assign (.tmp 32), none⟩])
         (.seq (.seq (.reg [⟨(some 33), .move (.tmp 1), none⟩,
              ⟨(some 34), .binOp .lss 3 (.tmp 33) (.const (.int .i64 0)) 3, none⟩])
           (.cond (.tmp 34) (.seq (.reg [⟨(some 4), .assign (.const (.int .i64 (-1))), none⟩])
             .ret)
            .skip))
          (.seq (.reg [⟨(some 35), .move (.tmp 1), none⟩,
              ⟨(some 4), .assign (.tmp 35), none⟩])
           .ret))))))))))))
theorem s8 : slimF Try.f8 = some (c8, [.t 4], 36) := by kernel_rfl
theorem o8 : okF [(18, g18), (33, g33), (34, g34), (35, g35)] Try.f8 = true := by kernel_rfl
theorem p8 : Pure Try.prog 8 g8 := by
  refine semOf_pure fun ⟨τ, x, b⟩ n h2 ⟨hb1, hb2⟩ => ?_
  have hT : Table Try.prog [(18, g18), (33, g33), (34, g34), (35, g35)] := (.cons p18 (.cons p33 (.cons p34 (.cons p35 .nil))))
  refine SatP.of_body hT hm Try.func8 s8 o8 h2 (by simp) ?_
  simp only [bigB] at hb1 hb2
  simp (config := {contextual := true, maxSteps := 4000000, implicitDefEqProofs := false}) [c8, go_sem, tot_Mp, bigB, hb1, hb2]
  have := szR_spec b ((x.tree.devices.length + (x.tree.buckets.length + (x.tree.buckets.map enBkt.tot).sum)))
  have := szR_spec (szR b ((x.tree.devices.length + (x.tree.buckets.length + (x.tree.buckets.map enBkt.tot).sum)))) x.rules.length
  have := szR_spec (szR (szR b ((x.tree.devices.length + (x.tree.buckets.length + (x.tree.buckets.map enBkt.tot).sum)))) x.rules.length) x.pools.length
  have := szR_spec (szR (szR (szR b ((x.tree.devices.length + (x.tree.buckets.length + (x.tree.buckets.map enBkt.tot).sum)))) x.rules.length) x.pools.length) x.up.length
  have := szR_spec (szR (szR (szR (szR b ((x.tree.devices.length + (x.tree.buckets.length + (x.tree.buckets.map enBkt.tot).sum)))) x.rules.length) x.pools.length) x.up.length) x.out.length
  have := szR_spec b (((x.tree.devices.length + (x.tree.buckets.length + (x.tree.buckets.map enBkt.tot).sum)) + x.rules.length + x.pools.length + x.up.length + x.out.length))
  omega
/- laws.toDevice -/
noncomputable def g104 : Fsem := toSem enDev enDev
@[go_sem] theorem g104_eq {n : Nat} {x : Dev} : g104 n [.agg [.int .i64 x.id, .int .i64 x.weight]] = ⟨0 ≤ 1048576, .agg [.int .i64 x.id, .int .i64 x.weight]⟩ := by
  have h := toSem_eq (Ei := enDev) (Eo := enDev) (n := n) (τ := 0) (x := x)
  rw [tot_Dev] at h
  exact h
def c104 : SCode := (.seq (.reg [⟨(some 1), .box 133 (.tmp 0), none⟩,
   ⟨(some 2), .alloc 125, none⟩])
(.seq (.reg [⟨(some 3), .alloc 125, none⟩])
 (.seq (.reg [⟨(some 4), .fieldAddr 133 (.tmp 1) 0, none⟩,
     ⟨(some 5), .load 2 (.tmp 4), none⟩,
     ⟨(some 6), .fieldAddr 125 (.tmp 3) 0, none⟩,
     ⟨none, .store 2 (.tmp 6) (.tmp 5), none⟩])
  (.seq (.reg [⟨(some 7), .fieldAddr 133 (.tmp 1) 1, none⟩,
      ⟨(some 8), .load 2 (.tmp 7), none⟩,
      ⟨(some 9), .fieldAddr 125 (.tmp 3) 1, none⟩,
      ⟨none, .store 2 (.tmp 9) (.tmp 8), none⟩])
   (.seq (.reg [⟨(some 10), .load 125 (.tmp 3), none⟩,
       ⟨none, .store 125 (.tmp 2) (.tmp 10), none⟩])
    .ret)))))
theorem s104 : slimF Try.f104 = some (c104, [.c 2 125], 11) := by kernel_rfl
theorem o104 : okF [] Try.f104 = true := by kernel_rfl
theorem p104 : Pure Try.prog 104 g104 := by
  refine semOf_pure fun ⟨τ, x⟩ n h2 hb => ?_
  have hT : Table Try.prog [] := .nil
  refine SatP.of_body hT hm Try.func104 s104 o104 h2 (by simp) ?_
  have hb' : 0 ≤ 1048576 := by
    have := hb
    simp only [tot_Dev] at this
    exact this
  have hn0 : n ≠ 0 := by omega
  simp (config := {maxSteps := 4000000, implicitDefEqProofs := false}) [c104, go_sem, hn0]
  all_goals omega
/- laws.toDeviceS -/
noncomputable def g61 : Fsem := toSem enDev.list enDev.list
@[go_sem] theorem g61_eq {n τ : Nat} {x : List Dev} : g61 n [.sl τ 2 (x.map (enDev.av τ))] = ⟨x.length ≤ 1048576, .sl n 2 (x.map (enDev.av n))⟩ := by
  have h := toSem_eq (Ei := enDev.list) (Eo := enDev.list) (n := n) (τ := τ) (x := x)
  rw [tot_list, sum_flat (E := enDev) (fun x => tot_Dev), Nat.add_zero] at h
  exact h
theorem s61 : slimF Try.f61 = some (toDeepC 3 22 33 133 125 104, [.t 2], 23) := by kernel_rfl
theorem o61 : okF [(104, g104)] Try.f61 = true := by kernel_rfl
theorem p61 : Pure Try.prog 61 g61 := toDeep_ok hm Try.func61 s61 o61 (by omega) ty_22 ty_33 fit_133 fitz_125 p104 (fun n τ x => toSem_eq)
/- laws.toInt64S -/
noncomputable def g39 : Fsem := toSem (En.int .i64).list (En.int .i64).list
@[go_sem] theorem g39_eq {n τ : Nat} {x : List Int} : g39 n [.sl τ 1 (x.map (AV.int .i64))] = ⟨x.length ≤ 1048576, .sl n 1 (x.map (AV.int .i64))⟩ := by
  have h := toSem_eq (Ei := (En.int .i64).list) (Eo := (En.int .i64).list) (n := n) (τ := τ) (x := x)
  rw [tot_list, sum_flat (E := (En.int .i64)) (fun x => rfl), Nat.add_zero] at h
  exact h
theorem s39 : slimF Try.f39 = some (toFlatC 3 28 2, [.t 2], 22) := by kernel_rfl
theorem o39 : okF [] Try.f39 = true := by kernel_rfl
theorem p39 : Pure Try.prog 39 g39 := toFlat_ok hm Try.func39 s39 o39 (by omega) ty_28 (fite_2) (fitze_2) rfl (fun _ _ _ => rfl)
/- laws.toBucket -/
noncomputable def g105 : Fsem := toSem enBkt enBkt
@[go_sem] theorem g105_eq {n τ : Nat} {x : Bkt} : g105 n [.agg [.int .i64 x.id, .int .i64 x.kind, .sl τ 1 (x.items.map (AV.int .i64))]] = ⟨x.items.length ≤ 1048576, .agg [.int .i64 x.id, .int .i64 x.kind, .sl n 1 (x.items.map (AV.int .i64))]⟩ := by
  have h := toSem_eq (Ei := enBkt) (Eo := enBkt) (n := n) (τ := τ) (x := x)
  rw [tot_Bkt] at h
  exact h
def c105 : SCode := (.seq (.reg [⟨(some 1), .box 129 (.tmp 0), none⟩,
   ⟨(some 2), .alloc 115, none⟩])
(.seq (.reg [⟨(some 3), .alloc 115, none⟩])
 (.seq (.reg [⟨(some 4), .fieldAddr 129 (.tmp 1) 0, none⟩,
     ⟨(some 5), .load 2 (.tmp 4), none⟩,
     ⟨(some 6), .fieldAddr 115 (.tmp 3) 0, none⟩,
     ⟨none, .store 2 (.tmp 6) (.tmp 5), none⟩])
  (.seq (.reg [⟨(some 7), .fieldAddr 129 (.tmp 1) 1, none⟩,
      ⟨(some 8), .load 2 (.tmp 7), none⟩,
      ⟨(some 9), .fieldAddr 115 (.tmp 3) 1, none⟩,
      ⟨none, .store 2 (.tmp 9) (.tmp 8), none⟩])
   (.seq (.reg [⟨(some 10), .fieldAddr 129 (.tmp 1) 2, none⟩,
       ⟨(some 11), .load 28 (.tmp 10), none⟩,
       ⟨(some 12), .call ⟨(.value (.func 39)), #[(.tmp 11)], #[28]⟩, none⟩,
       ⟨(some 13), .fieldAddr 115 (.tmp 3) 2, none⟩,
       ⟨none, .store 28 (.tmp 13) (.tmp 12), none⟩])
    (.seq (.reg [⟨(some 14), .load 115 (.tmp 3), none⟩,
        ⟨none, .store 115 (.tmp 2) (.tmp 14), none⟩])
     .ret))))))
theorem s105 : slimF Try.f105 = some (c105, [.c 2 115], 15) := by kernel_rfl
theorem o105 : okF [(39, g39)] Try.f105 = true := by kernel_rfl
theorem p105 : Pure Try.prog 105 g105 := by
  refine semOf_pure fun ⟨τ, x⟩ n h2 hb => ?_
  have hT : Table Try.prog [(39, g39)] := (.cons p39 .nil)
  refine SatP.of_body hT hm Try.func105 s105 o105 h2 (by simp) ?_
  have hb' : x.items.length ≤ 1048576 := by
    have := hb
    simp only [tot_Bkt] at this
    exact this
  have hn0 : n ≠ 0 := by omega
  simp (config := {maxSteps := 4000000, implicitDefEqProofs := false}) [c105, go_sem, hn0]
  all_goals omega
/- laws.toBucketS -/
noncomputable def g62 : Fsem := toSem enBkt.list enBkt.list
@[go_sem] theorem g62_eq {n τ : Nat} {x : List Bkt} : g62 n [.sl τ 3 (x.map (enBkt.av τ))] = ⟨(x.length + (x.map enBkt.tot).sum) ≤ 1048576, .sl n 3 (x.map (enBkt.av n))⟩ := by
  have h := toSem_eq (Ei := enBkt.list) (Eo := enBkt.list) (n := n) (τ := τ) (x := x)
  rw [tot_list] at h
  exact h
theorem s62 : slimF Try.f62 = some (toDeepC 3 23 34 129 115 105, [.t 2], 23) := by kernel_rfl
theorem o62 : okF [(105, g105)] Try.f62 = true := by kernel_rfl
theorem p62 : Pure Try.prog 62 g62 := toDeep_ok hm Try.func62 s62 o62 (by omega) ty_23 ty_34 fit_129 fitz_115 p105 (fun n τ x => toSem_eq)
/- laws.toTree -/
noncomputable def g21 : Fsem := toSem enTree enTree
@[go_sem] theorem g21_eq {n τ : Nat} {x : Tree} : g21 n [.agg [.sl τ 2 (x.devices.map (enDev.av τ)), .sl τ 3 (x.buckets.map (enBkt.av τ))]] = ⟨(x.devices.length + (x.buckets.length + (x.buckets.map enBkt.tot).sum)) ≤ 1048576, .agg [.sl n 2 (x.devices.map (enDev.av n)), .sl n 3 (x.buckets.map (enBkt.av n))]⟩ := by
  have h := toSem_eq (Ei := enTree) (Eo := enTree) (n := n) (τ := τ) (x := x)
  rw [tot_Tree] at h
  exact h
def c21 : SCode := (.seq (.reg [⟨(some 1), .box 25 (.tmp 0), none⟩,
   ⟨(some 2), .alloc 36, none⟩])
(.seq (.reg [⟨(some 3), .alloc 36, none⟩])
 (.seq (.reg [⟨(some 4), .fieldAddr 25 (.tmp 1) 0, none⟩,
     ⟨(some 5), .load 22 (.tmp 4), none⟩,
     ⟨(some 6), .call ⟨(.value (.func 61)), #[(.tmp 5)], #[22]⟩, none⟩,
     ⟨(some 7), .fieldAddr 36 (.tmp 3) 0, none⟩,
     ⟨none, .store 33 (.tmp 7) (.tmp 6), none⟩])
  (.seq (.reg [⟨(some 8), .fieldAddr 25 (.tmp 1) 1, none⟩,
      ⟨(some 9), .load 23 (.tmp 8), none⟩,
      ⟨(some 10), .call ⟨(.value (.func 62)), #[(.tmp 9)], #[23]⟩, none⟩,
      ⟨(some 11), .fieldAddr 36 (.tmp 3) 1, none⟩,
      ⟨none, .store 34 (.tmp 11) (.tmp 10), none⟩])
   (.seq (.reg [⟨(some 12), .load 36 (.tmp 3), none⟩,
       ⟨none, .store 36 (.tmp 2) (.tmp 12), none⟩])
    .ret)))))
theorem s21 : slimF Try.f21 = some (c21, [.c 2 36], 13) := by kernel_rfl
theorem o21 : okF [(61, g61), (62, g62)] Try.f21 = true := by kernel_rfl
theorem p21 : Pure Try.prog 21 g21 := by
  refine semOf_pure fun ⟨τ, x⟩ n h2 hb => ?_
  have hT : Table Try.prog [(61, g61), (62, g62)] := (.cons p61 (.cons p62 .nil))
  refine SatP.of_body hT hm Try.func21 s21 o21 h2 (by simp) ?_
  have hb' : (x.devices.length + (x.buckets.length + (x.buckets.map enBkt.tot).sum)) ≤ 1048576 := by
    have := hb
    simp only [tot_Tree] at this
    exact this
  have hn0 : n ≠ 0 := by omega
  simp (config := {maxSteps := 4000000, implicitDefEqProofs := false}) [c21, go_sem, hn0]
  all_goals omega
/- laws.toRule -/
noncomputable def g79 : Fsem := toSem enRule enRule
@[go_sem] theorem g79_eq {n : Nat} {x : Rule} : g79 n [.agg [.int .i64 x.id, .int .i64 x.root, .int .i64 x.kind, .bool x.indep]] = ⟨0 ≤ 1048576, .agg [.int .i64 x.id, .int .i64 x.root, .int .i64 x.kind, .bool x.indep]⟩ := by
  have h := toSem_eq (Ei := enRule) (Eo := enRule) (n := n) (τ := 0) (x := x)
  rw [tot_Rule] at h
  exact h
def c79 : SCode := (.seq (.reg [⟨(some 1), .box 108 (.tmp 0), none⟩,
   ⟨(some 2), .alloc 87, none⟩])
(.seq (.reg [⟨(some 3), .alloc 87, none⟩])
 (.seq (.reg [⟨(some 4), .fieldAddr 108 (.tmp 1) 0, none⟩,
     ⟨(some 5), .load 2 (.tmp 4), none⟩,
     ⟨(some 6), .fieldAddr 87 (.tmp 3) 0, none⟩,
     ⟨none, .store 2 (.tmp 6) (.tmp 5), none⟩])
  (.seq (.reg [⟨(some 7), .fieldAddr 108 (.tmp 1) 1, none⟩,
      ⟨(some 8), .load 2 (.tmp 7), none⟩,
      ⟨(some 9), .fieldAddr 87 (.tmp 3) 1, none⟩,
      ⟨none, .store 2 (.tmp 9) (.tmp 8), none⟩])
   (.seq (.reg [⟨(some 10), .fieldAddr 108 (.tmp 1) 2, none⟩,
       ⟨(some 11), .load 2 (.tmp 10), none⟩,
       ⟨(some 12), .fieldAddr 87 (.tmp 3) 2, none⟩,
       ⟨none, .store 2 (.tmp 12) (.tmp 11), none⟩])
    (.seq (.reg [⟨(some 13), .fieldAddr 108 (.tmp 1) 3, none⟩,
        ⟨(some 14), .load 4 (.tmp 13), none⟩,
        ⟨(some 15), .fieldAddr 87 (.tmp 3) 3, none⟩,
        ⟨none, .store 4 (.tmp 15) (.tmp 14), none⟩])
     (.seq (.reg [⟨(some 16), .load 87 (.tmp 3), none⟩,
         ⟨none, .store 87 (.tmp 2) (.tmp 16), none⟩])
      .ret)))))))
theorem s79 : slimF Try.f79 = some (c79, [.c 2 87], 17) := by kernel_rfl
theorem o79 : okF [] Try.f79 = true := by kernel_rfl
theorem p79 : Pure Try.prog 79 g79 := by
  refine semOf_pure fun ⟨τ, x⟩ n h2 hb => ?_
  have hT : Table Try.prog [] := .nil
  refine SatP.of_body hT hm Try.func79 s79 o79 h2 (by simp) ?_
  have hb' : 0 ≤ 1048576 := by
    have := hb
    simp only [tot_Rule] at this
    exact this
  have hn0 : n ≠ 0 := by omega
  simp (config := {maxSteps := 4000000, implicitDefEqProofs := false}) [c79, go_sem, hn0]
  all_goals omega
/- laws.toRuleS -/
noncomputable def g37 : Fsem := toSem enRule.list enRule.list
@[go_sem] theorem g37_eq {n τ : Nat} {x : List Rule} : g37 n [.sl τ 4 (x.map (enRule.av τ))] = ⟨x.length ≤ 1048576, .sl n 4 (x.map (enRule.av n))⟩ := by
  have h := toSem_eq (Ei := enRule.list) (Eo := enRule.list) (n := n) (τ := τ) (x := x)
  rw [tot_list, sum_flat (E := enRule) (fun x => tot_Rule), Nat.add_zero] at h
  exact h
theorem s37 : slimF Try.f37 = some (toDeepC 3 26 37 108 87 79, [.t 2], 23) := by kernel_rfl
theorem o37 : okF [(79, g79)] Try.f37 = true := by kernel_rfl
theorem p37 : Pure Try.prog 37 g37 := toDeep_ok hm Try.func37 s37 o37 (by omega) ty_26 ty_37 fit_108 fitz_87 p79 (fun n τ x => toSem_eq)
/- laws.toCode -/
noncomputable def g119 : Fsem := toSem enCode enCode
@[go_sem] theorem g119_eq {n : Nat} {x : Code} : g119 n [.agg [.int .i64 x.k, .int .i64 x.m]] = ⟨0 ≤ 1048576, .agg [.int .i64 x.k, .int .i64 x.m]⟩ := by
  have h := toSem_eq (Ei := enCode) (Eo := enCode) (n := n) (τ := 0) (x := x)
  rw [tot_Code] at h
  exact h
def c119 : SCode := (.seq (.reg [⟨(some 1), .box 110 (.tmp 0), none⟩,
   ⟨(some 2), .alloc 45, none⟩])
(.seq (.reg [⟨(some 3), .alloc 45, none⟩])
 (.seq (.reg [⟨(some 4), .fieldAddr 110 (.tmp 1) 0, none⟩,
     ⟨(some 5), .load 2 (.tmp 4), none⟩,
     ⟨(some 6), .fieldAddr 45 (.tmp 3) 0, none⟩,
     ⟨none, .store 2 (.tmp 6) (.tmp 5), none⟩])
  (.seq (.reg [⟨(some 7), .fieldAddr 110 (.tmp 1) 1, none⟩,
      ⟨(some 8), .load 2 (.tmp 7), none⟩,
      ⟨(some 9), .fieldAddr 45 (.tmp 3) 1, none⟩,
      ⟨none, .store 2 (.tmp 9) (.tmp 8), none⟩])
   (.seq (.reg [⟨(some 10), .load 45 (.tmp 3), none⟩,
       ⟨none, .store 45 (.tmp 2) (.tmp 10), none⟩])
    .ret)))))
theorem s119 : slimF Try.f119 = some (c119, [.c 2 45], 11) := by kernel_rfl
theorem o119 : okF [] Try.f119 = true := by kernel_rfl
theorem p119 : Pure Try.prog 119 g119 := by
  refine semOf_pure fun ⟨τ, x⟩ n h2 hb => ?_
  have hT : Table Try.prog [] := .nil
  refine SatP.of_body hT hm Try.func119 s119 o119 h2 (by simp) ?_
  have hb' : 0 ≤ 1048576 := by
    have := hb
    simp only [tot_Code] at this
    exact this
  have hn0 : n ≠ 0 := by omega
  simp (config := {maxSteps := 4000000, implicitDefEqProofs := false}) [c119, go_sem, hn0]
  all_goals omega
/- laws.toPool -/
noncomputable def g80 : Fsem := toSem enPool enPool
@[go_sem] theorem g80_eq {n : Nat} {x : Pool} : g80 n [.agg [.int .i64 x.id, .int .i64 x.code.k, .int .i64 x.code.m, .int .i64 x.min, .int .i64 x.pgs, .int .i64 x.rule]] = ⟨0 ≤ 1048576, .agg [.int .i64 x.id, .int .i64 x.code.k, .int .i64 x.code.m, .int .i64 x.min, .int .i64 x.pgs, .int .i64 x.rule]⟩ := by
  have h := toSem_eq (Ei := enPool) (Eo := enPool) (n := n) (τ := 0) (x := x)
  rw [tot_Pool] at h
  exact h
def c80 : SCode := (.seq (.reg [⟨(some 1), .box 112 (.tmp 0), none⟩,
   ⟨(some 2), .alloc 47, none⟩])
(.seq (.reg [⟨(some 3), .alloc 47, none⟩])
 (.seq (.reg [⟨(some 4), .fieldAddr 112 (.tmp 1) 0, none⟩,
     ⟨(some 5), .load 2 (.tmp 4), none⟩,
     ⟨(some 6), .fieldAddr 47 (.tmp 3) 0, none⟩,
     ⟨none, .store 2 (.tmp 6) (.tmp 5), none⟩])
  (.seq (.reg [⟨(some 7), .fieldAddr 112 (.tmp 1) 1, none⟩,
      ⟨(some 8), .load 110 (.tmp 7), none⟩,
      ⟨(some 9), .call ⟨(.value (.func 119)), #[(.tmp 8)], #[110]⟩, none⟩,
      ⟨(some 10), .fieldAddr 47 (.tmp 3) 1, none⟩,
      ⟨none, .store 45 (.tmp 10) (.tmp 9), none⟩])
   (.seq (.reg [⟨(some 11), .fieldAddr 112 (.tmp 1) 2, none⟩,
       ⟨(some 12), .load 2 (.tmp 11), none⟩,
       ⟨(some 13), .fieldAddr 47 (.tmp 3) 2, none⟩,
       ⟨none, .store 2 (.tmp 13) (.tmp 12), none⟩])
    (.seq (.reg [⟨(some 14), .fieldAddr 112 (.tmp 1) 3, none⟩,
        ⟨(some 15), .load 2 (.tmp 14), none⟩,
        ⟨(some 16), .fieldAddr 47 (.tmp 3) 3, none⟩,
        ⟨none, .store 2 (.tmp 16) (.tmp 15), none⟩])
     (.seq (.reg [⟨(some 17), .fieldAddr 112 (.tmp 1) 4, none⟩,
         ⟨(some 18), .load 2 (.tmp 17), none⟩,
         ⟨(some 19), .fieldAddr 47 (.tmp 3) 4, none⟩,
         ⟨none, .store 2 (.tmp 19) (.tmp 18), none⟩])
      (.seq (.reg [⟨(some 20), .load 47 (.tmp 3), none⟩,
          ⟨none, .store 47 (.tmp 2) (.tmp 20), none⟩])
       .ret))))))))
theorem s80 : slimF Try.f80 = some (c80, [.c 2 47], 21) := by kernel_rfl
theorem o80 : okF [(119, g119)] Try.f80 = true := by kernel_rfl
theorem p80 : Pure Try.prog 80 g80 := by
  refine semOf_pure fun ⟨τ, x⟩ n h2 hb => ?_
  have hT : Table Try.prog [(119, g119)] := (.cons p119 .nil)
  refine SatP.of_body hT hm Try.func80 s80 o80 h2 (by simp) ?_
  have hb' : 0 ≤ 1048576 := by
    have := hb
    simp only [tot_Pool] at this
    exact this
  have hn0 : n ≠ 0 := by omega
  simp (config := {maxSteps := 4000000, implicitDefEqProofs := false}) [c80, go_sem, hn0]
  all_goals omega
/- laws.toPoolS -/
noncomputable def g38 : Fsem := toSem enPool.list enPool.list
@[go_sem] theorem g38_eq {n τ : Nat} {x : List Pool} : g38 n [.sl τ 6 (x.map (enPool.av τ))] = ⟨x.length ≤ 1048576, .sl n 6 (x.map (enPool.av n))⟩ := by
  have h := toSem_eq (Ei := enPool.list) (Eo := enPool.list) (n := n) (τ := τ) (x := x)
  rw [tot_list, sum_flat (E := enPool) (fun x => tot_Pool), Nat.add_zero] at h
  exact h
theorem s38 : slimF Try.f38 = some (toDeepC 3 27 38 112 47 80, [.t 2], 23) := by kernel_rfl
theorem o38 : okF [(80, g80)] Try.f38 = true := by kernel_rfl
theorem p38 : Pure Try.prog 38 g38 := toDeep_ok hm Try.func38 s38 o38 (by omega) ty_27 ty_38 fit_112 fitz_47 p80 (fun n τ x => toSem_eq)
/- laws.toMap -/
noncomputable def g10 : Fsem := toSem enMp enMp
@[go_sem] theorem g10_eq {n τ : Nat} {x : Mp} : g10 n [.agg [.int .i64 x.epoch, .int .i64 x.term, .sl τ 2 (x.tree.devices.map (enDev.av τ)), .sl τ 3 (x.tree.buckets.map (enBkt.av τ)), .sl τ 4 (x.rules.map (enRule.av τ)), .sl τ 6 (x.pools.map (enPool.av τ)), .sl τ 1 (x.up.map (AV.int .i64)), .sl τ 1 (x.out.map (AV.int .i64))]] = ⟨((x.tree.devices.length + (x.tree.buckets.length + (x.tree.buckets.map enBkt.tot).sum)) + x.rules.length + x.pools.length + x.up.length + x.out.length) ≤ 1048576, .agg [.int .i64 x.epoch, .int .i64 x.term, .sl n 2 (x.tree.devices.map (enDev.av n)), .sl n 3 (x.tree.buckets.map (enBkt.av n)), .sl n 4 (x.rules.map (enRule.av n)), .sl n 6 (x.pools.map (enPool.av n)), .sl n 1 (x.up.map (AV.int .i64)), .sl n 1 (x.out.map (AV.int .i64))]⟩ := by
  have h := toSem_eq (Ei := enMp) (Eo := enMp) (n := n) (τ := τ) (x := x)
  rw [tot_Mp] at h
  exact h
def c10 : SCode := (.seq (.reg [⟨(some 1), .box 30 (.tmp 0), none⟩,
   ⟨(some 2), .alloc 40, none⟩])
(.seq (.reg [⟨(some 3), .alloc 40, none⟩])
 (.seq (.reg [⟨(some 4), .fieldAddr 30 (.tmp 1) 0, none⟩,
     ⟨(some 5), .load 2 (.tmp 4), none⟩,
     ⟨(some 6), .fieldAddr 40 (.tmp 3) 0, none⟩,
     ⟨none, .store 2 (.tmp 6) (.tmp 5), none⟩])
  (.seq (.reg [⟨(some 7), .fieldAddr 30 (.tmp 1) 1, none⟩,
      ⟨(some 8), .load 2 (.tmp 7), none⟩,
      ⟨(some 9), .fieldAddr 40 (.tmp 3) 1, none⟩,
      ⟨none, .store 2 (.tmp 9) (.tmp 8), none⟩])
   (.seq (.reg [⟨(some 10), .fieldAddr 30 (.tmp 1) 2, none⟩,
       ⟨(some 11), .load 25 (.tmp 10), none⟩,
       ⟨(some 12), .call ⟨(.value (.func 21)), #[(.tmp 11)], #[25]⟩, none⟩,
       ⟨(some 13), .fieldAddr 40 (.tmp 3) 2, none⟩,
       ⟨none, .store 36 (.tmp 13) (.tmp 12), none⟩])
    (.seq (.reg [⟨(some 14), .fieldAddr 30 (.tmp 1) 3, none⟩,
        ⟨(some 15), .load 26 (.tmp 14), none⟩,
        ⟨(some 16), .call ⟨(.value (.func 37)), #[(.tmp 15)], #[26]⟩, none⟩,
        ⟨(some 17), .fieldAddr 40 (.tmp 3) 3, none⟩,
        ⟨none, .store 37 (.tmp 17) (.tmp 16), none⟩])
     (.seq (.reg [⟨(some 18), .fieldAddr 30 (.tmp 1) 4, none⟩,
         ⟨(some 19), .load 27 (.tmp 18), none⟩,
         ⟨(some 20), .call ⟨(.value (.func 38)), #[(.tmp 19)], #[27]⟩, none⟩,
         ⟨(some 21), .fieldAddr 40 (.tmp 3) 4, none⟩,
         ⟨none, .store 38 (.tmp 21) (.tmp 20), none⟩])
      (.seq (.reg [⟨(some 22), .fieldAddr 30 (.tmp 1) 5, none⟩,
          ⟨(some 23), .load 28 (.tmp 22), none⟩,
          ⟨(some 24), .call ⟨(.value (.func 39)), #[(.tmp 23)], #[28]⟩, none⟩,
          ⟨(some 25), .fieldAddr 40 (.tmp 3) 5, none⟩,
          ⟨none, .store 28 (.tmp 25) (.tmp 24), none⟩])
       (.seq (.reg [⟨(some 26), .fieldAddr 30 (.tmp 1) 6, none⟩,
           ⟨(some 27), .load 28 (.tmp 26), none⟩,
           ⟨(some 28), .call ⟨(.value (.func 39)), #[(.tmp 27)], #[28]⟩, none⟩,
           ⟨(some 29), .fieldAddr 40 (.tmp 3) 6, none⟩,
           ⟨none, .store 28 (.tmp 29) (.tmp 28), none⟩])
        (.seq (.reg [⟨(some 30), .load 40 (.tmp 3), none⟩,
            ⟨none, .store 40 (.tmp 2) (.tmp 30), none⟩])
         .ret))))))))))
theorem s10 : slimF Try.f10 = some (c10, [.c 2 40], 31) := by kernel_rfl
theorem o10 : okF [(21, g21), (37, g37), (38, g38), (39, g39)] Try.f10 = true := by kernel_rfl
theorem p10 : Pure Try.prog 10 g10 := by
  refine semOf_pure fun ⟨τ, x⟩ n h2 hb => ?_
  have hT : Table Try.prog [(21, g21), (37, g37), (38, g38), (39, g39)] := (.cons p21 (.cons p37 (.cons p38 (.cons p39 .nil))))
  refine SatP.of_body hT hm Try.func10 s10 o10 h2 (by simp) ?_
  have hb' : ((x.tree.devices.length + (x.tree.buckets.length + (x.tree.buckets.map enBkt.tot).sum)) + x.rules.length + x.pools.length + x.up.length + x.out.length) ≤ 1048576 := by
    have := hb
    simp only [tot_Mp] at this
    exact this
  have hn0 : n ≠ 0 := by omega
  simp (config := {maxSteps := 4000000, implicitDefEqProofs := false}) [c10, go_sem, hn0]
  all_goals omega
/- laws.eqDevice -/
noncomputable def g110 : Fsem := eqSem enDev enDev
@[go_sem] theorem g110_eq {n : Nat} {x y : Dev} : g110 n [.agg [.int .i64 x.id, .int .i64 x.weight], .agg [.int .i64 y.id, .int .i64 y.weight]] = ⟨True, .bool (eqB x y)⟩ := eqSem_eq (E := enDev) (E' := enDev) (n := n) (τ := 0) (τ' := 0) (x := x) (y := y)
def c110 : SCode := (.seq (.reg [⟨(some 2), .box 125 (.tmp 0), none⟩,
   ⟨(some 3), .box 125 (.tmp 1), none⟩,
   ⟨(some 4), .assign (.const (.bool false)), none⟩])
(.seq (.seq (.reg [⟨(some 5), .fieldAddr 125 (.tmp 2) 0, none⟩,
     ⟨(some 6), .load 2 (.tmp 5), none⟩,
     ⟨(some 7), .fieldAddr 125 (.tmp 3) 0, none⟩,
     ⟨(some 8), .load 2 (.tmp 7), none⟩,
     ⟨(some 9), .binOp .neq 2 (.tmp 6) (.tmp 8) 2, none⟩])
  (.cond (.tmp 9) (.seq (.reg [⟨(some 4), .assign (.const (.bool false)), none⟩])
    .ret)
   .skip))
 (.seq (.seq (.reg [⟨(some 10), .fieldAddr 125 (.tmp 2) 1, none⟩,
      ⟨(some 11), .load 2 (.tmp 10), none⟩,
      ⟨(some 12), .fieldAddr 125 (.tmp 3) 1, none⟩,
      ⟨(some 13), .load 2 (.tmp 12), none⟩,
      ⟨(some 14), .binOp .neq 2 (.tmp 11) (.tmp 13) 2, none⟩])
   (.cond (.tmp 14) (.seq (.reg [⟨(some 4), .assign (.const (.bool false)), none⟩])
     .ret)
    .skip))
  (.seq (.reg [⟨(some 4), .assign (.const (.bool true)), none⟩])
   .ret))))
theorem s110 : slimF Try.f110 = some (c110, [.t 4], 15) := by kernel_rfl
theorem o110 : okF [] Try.f110 = true := by kernel_rfl
theorem p110 : Pure Try.prog 110 g110 := by
  refine semOf_pure fun ⟨τ, τ', x, y⟩ n h2 _ => ?_
  have hT : Table Try.prog [] := .nil
  refine SatP.of_body hT hm Try.func110 s110 o110 h2 (by simp) ?_
  rcases Bool.eq_false_or_eq_true (eqB x y) with hxy | hxy
  · rw [hxy]
    have h := eqB_iff.1 hxy
    subst h
    simp (config := {contextual := true, maxSteps := 4000000, implicitDefEqProofs := false}) [c110, go_sem, eqB_iff, eqB_not]
  · rw [hxy]
    have h := eqB_not.1 hxy
    rw [eq_Dev] at h
    simp (config := {contextual := true, maxSteps := 4000000, implicitDefEqProofs := false}) [c110, go_sem, eqB_iff, eqB_not]
    simpa using h
/- laws.eqDeviceS -/
noncomputable def g66 : Fsem := eqSem enDev.list enDev.list
@[go_sem] theorem g66_eq {n τ τ' : Nat} {x y : List Dev} : g66 n [.sl τ 2 (x.map (enDev.av τ)), .sl τ' 2 (y.map (enDev.av τ'))] = ⟨True, .bool (eqB x y)⟩ := eqSem_eq (E := enDev.list) (E' := enDev.list) (n := n) (τ := τ) (τ' := τ') (x := x) (y := y)
theorem s66 : slimF Try.f66 = some (eqDeepC 3 4 33 125 110, [.t 4], 27) := by kernel_rfl
theorem o66 : okF [(110, g110)] Try.f66 = true := by kernel_rfl
theorem p66 : Pure Try.prog 66 g66 := eqDeep_ok hm Try.func66 s66 o66 (by omega) ty_33 fit_125 fit_125 p110 (fun n τ x τ' x' => eqSem_eq)
/- laws.eqInt64S -/
noncomputable def g47 : Fsem := eqSem (En.int .i64).list (En.int .i64).list
@[go_sem] theorem g47_eq {n τ τ' : Nat} {x y : List Int} : g47 n [.sl τ 1 (x.map (AV.int .i64)), .sl τ' 1 (y.map (AV.int .i64))] = ⟨True, .bool (eqB x y)⟩ := eqSem_eq (E := (En.int .i64).list) (E' := (En.int .i64).list) (n := n) (τ := τ) (τ' := τ') (x := x) (y := y)
theorem s47 : slimF Try.f47 = some (eqFlatC 3 28 2, [.t 4], 26) := by kernel_rfl
theorem o47 : okF [] Try.f47 = true := by kernel_rfl
theorem p47 : Pure Try.prog 47 g47 := eqFlat_ok hm Try.func47 s47 o47 (by omega) ty_28 (fite_2) (fite_2) (fun τ x τ' x' => by simp [go_sem, eqB_dec])
/- laws.eqBucket -/
noncomputable def g111 : Fsem := eqSem enBkt enBkt
@[go_sem] theorem g111_eq {n τ τ' : Nat} {x y : Bkt} : g111 n [.agg [.int .i64 x.id, .int .i64 x.kind, .sl τ 1 (x.items.map (AV.int .i64))], .agg [.int .i64 y.id, .int .i64 y.kind, .sl τ' 1 (y.items.map (AV.int .i64))]] = ⟨True, .bool (eqB x y)⟩ := eqSem_eq (E := enBkt) (E' := enBkt) (n := n) (τ := τ) (τ' := τ') (x := x) (y := y)
def c111 : SCode := (.seq (.reg [⟨(some 2), .box 115 (.tmp 0), none⟩,
   ⟨(some 3), .box 115 (.tmp 1), none⟩,
   ⟨(some 4), .assign (.const (.bool false)), none⟩])
(.seq (.seq (.reg [⟨(some 5), .fieldAddr 115 (.tmp 2) 0, none⟩,
     ⟨(some 6), .load 2 (.tmp 5), none⟩,
     ⟨(some 7), .fieldAddr 115 (.tmp 3) 0, none⟩,
     ⟨(some 8), .load 2 (.tmp 7), none⟩,
     ⟨(some 9), .binOp .neq 2 (.tmp 6) (.tmp 8) 2, none⟩])
  (.cond (.tmp 9) (.seq (.reg [⟨(some 4), .assign (.const (.bool false)), none⟩])
    .ret)
   .skip))
 (.seq (.seq (.reg [⟨(some 10), .fieldAddr 115 (.tmp 2) 1, none⟩,
      ⟨(some 11), .load 2 (.tmp 10), none⟩,
      ⟨(some 12), .fieldAddr 115 (.tmp 3) 1, none⟩,
      ⟨(some 13), .load 2 (.tmp 12), none⟩,
      ⟨(some 14), .binOp .neq 2 (.tmp 11) (.tmp 13) 2, none⟩])
   (.cond (.tmp 14) (.seq (.reg [⟨(some 4), .assign (.const (.bool false)), none⟩])
     .ret)
    .skip))
  (.seq (.seq (.reg [⟨(some 15), .fieldAddr 115 (.tmp 2) 2, none⟩,
       ⟨(some 16), .load 28 (.tmp 15), none⟩,
       ⟨(some 17), .fieldAddr 115 (.tmp 3) 2, none⟩,
       ⟨(some 18), .load 28 (.tmp 17), none⟩,
       ⟨(some 19), .call ⟨(.value (.func 47)), #[(.tmp 16), (.tmp 18)], #[28, 28]⟩, none⟩,
       ⟨(some 20), .unOp .not 4 (.tmp 19), none⟩])
    (.cond (.tmp 20) (.seq (.reg [⟨(some 4), .assign (.const (.bool false)), none⟩])
      .ret)
     .skip))
   (.seq (.reg [⟨(some 4), .assign (.const (.bool true)), none⟩])
    .ret)))))
theorem s111 : slimF Try.f111 = some (c111, [.t 4], 21) := by kernel_rfl
theorem o111 : okF [(47, g47)] Try.f111 = true := by kernel_rfl
theorem p111 : Pure Try.prog 111 g111 := by
  refine semOf_pure fun ⟨τ, τ', x, y⟩ n h2 _ => ?_
  have hT : Table Try.prog [(47, g47)] := (.cons p47 .nil)
  refine SatP.of_body hT hm Try.func111 s111 o111 h2 (by simp) ?_
  rcases Bool.eq_false_or_eq_true (eqB x y) with hxy | hxy
  · rw [hxy]
    have h := eqB_iff.1 hxy
    subst h
    simp (config := {contextual := true, maxSteps := 4000000, implicitDefEqProofs := false}) [c111, go_sem, eqB_iff, eqB_not]
  · rw [hxy]
    have h := eqB_not.1 hxy
    rw [eq_Bkt] at h
    simp (config := {contextual := true, maxSteps := 4000000, implicitDefEqProofs := false}) [c111, go_sem, eqB_iff, eqB_not]
    simpa using h
/- laws.eqBucketS -/
noncomputable def g67 : Fsem := eqSem enBkt.list enBkt.list
@[go_sem] theorem g67_eq {n τ τ' : Nat} {x y : List Bkt} : g67 n [.sl τ 3 (x.map (enBkt.av τ)), .sl τ' 3 (y.map (enBkt.av τ'))] = ⟨True, .bool (eqB x y)⟩ := eqSem_eq (E := enBkt.list) (E' := enBkt.list) (n := n) (τ := τ) (τ' := τ') (x := x) (y := y)
theorem s67 : slimF Try.f67 = some (eqDeepC 3 4 34 115 111, [.t 4], 27) := by kernel_rfl
theorem o67 : okF [(111, g111)] Try.f67 = true := by kernel_rfl
theorem p67 : Pure Try.prog 67 g67 := eqDeep_ok hm Try.func67 s67 o67 (by omega) ty_34 fit_115 fit_115 p111 (fun n τ x τ' x' => eqSem_eq)
/- laws.eqTree -/
noncomputable def g25 : Fsem := eqSem enTree enTree
@[go_sem] theorem g25_eq {n τ τ' : Nat} {x y : Tree} : g25 n [.agg [.sl τ 2 (x.devices.map (enDev.av τ)), .sl τ 3 (x.buckets.map (enBkt.av τ))], .agg [.sl τ' 2 (y.devices.map (enDev.av τ')), .sl τ' 3 (y.buckets.map (enBkt.av τ'))]] = ⟨True, .bool (eqB x y)⟩ := eqSem_eq (E := enTree) (E' := enTree) (n := n) (τ := τ) (τ' := τ') (x := x) (y := y)
def c25 : SCode := (.seq (.reg [⟨(some 2), .box 36 (.tmp 0), none⟩,
   ⟨(some 3), .box 36 (.tmp 1), none⟩,
   ⟨(some 4), .assign (.const (.bool false)), none⟩])
(.seq (.seq (.reg [⟨(some 5), .fieldAddr 36 (.tmp 2) 0, none⟩,
     ⟨(some 6), .load 33 (.tmp 5), none⟩,
     ⟨(some 7), .fieldAddr 36 (.tmp 3) 0, none⟩,
     ⟨(some 8), .load 33 (.tmp 7), none⟩,
     ⟨(some 9), .call ⟨(.value (.func 66)), #[(.tmp 6), (.tmp 8)], #[33, 33]⟩, none⟩,
     ⟨(some 10), .unOp .not 4 (.tmp 9), none⟩])
  (.cond (.tmp 10) (.seq (.reg [⟨(some 4), .assign (.const (.bool false)), none⟩])
    .ret)
   .skip))
 (.seq (.seq (.reg [⟨(some 11), .fieldAddr 36 (.tmp 2) 1, none⟩,
      ⟨(some 12), .load 34 (.tmp 11), none⟩,
      ⟨(some 13), .fieldAddr 36 (.tmp 3) 1, none⟩,
      ⟨(some 14), .load 34 (.tmp 13), none⟩,
      ⟨(some 15), .call ⟨(.value (.func 67)), #[(.tmp 12), (.tmp 14)], #[34, 34]⟩, none⟩,
      ⟨(some 16), .unOp .not 4 (.tmp 15), none⟩])
   (.cond (.tmp 16) (.seq (.reg [⟨(some 4), .assign (.const (.bool false)), none⟩])
     .ret)
    .skip))
  (.seq (.reg [⟨(some 4), .assign (.const (.bool true)), none⟩])
   .ret))))
theorem s25 : slimF Try.f25 = some (c25, [.t 4], 17) := by kernel_rfl
theorem o25 : okF [(66, g66), (67, g67)] Try.f25 = true := by kernel_rfl
theorem p25 : Pure Try.prog 25 g25 := by
  refine semOf_pure fun ⟨τ, τ', x, y⟩ n h2 _ => ?_
  have hT : Table Try.prog [(66, g66), (67, g67)] := (.cons p66 (.cons p67 .nil))
  refine SatP.of_body hT hm Try.func25 s25 o25 h2 (by simp) ?_
  rcases Bool.eq_false_or_eq_true (eqB x y) with hxy | hxy
  · rw [hxy]
    have h := eqB_iff.1 hxy
    subst h
    simp (config := {contextual := true, maxSteps := 4000000, implicitDefEqProofs := false}) [c25, go_sem, eqB_iff, eqB_not]
  · rw [hxy]
    have h := eqB_not.1 hxy
    rw [eq_Tree] at h
    simp (config := {contextual := true, maxSteps := 4000000, implicitDefEqProofs := false}) [c25, go_sem, eqB_iff, eqB_not]
    simpa using h
/- laws.eqRule -/
noncomputable def g90 : Fsem := eqSem enRule enRule
@[go_sem] theorem g90_eq {n : Nat} {x y : Rule} : g90 n [.agg [.int .i64 x.id, .int .i64 x.root, .int .i64 x.kind, .bool x.indep], .agg [.int .i64 y.id, .int .i64 y.root, .int .i64 y.kind, .bool y.indep]] = ⟨True, .bool (eqB x y)⟩ := eqSem_eq (E := enRule) (E' := enRule) (n := n) (τ := 0) (τ' := 0) (x := x) (y := y)
def c90 : SCode := (.seq (.reg [⟨(some 2), .box 87 (.tmp 0), none⟩,
   ⟨(some 3), .box 87 (.tmp 1), none⟩,
   ⟨(some 4), .assign (.const (.bool false)), none⟩])
(.seq (.seq (.reg [⟨(some 5), .fieldAddr 87 (.tmp 2) 0, none⟩,
     ⟨(some 6), .load 2 (.tmp 5), none⟩,
     ⟨(some 7), .fieldAddr 87 (.tmp 3) 0, none⟩,
     ⟨(some 8), .load 2 (.tmp 7), none⟩,
     ⟨(some 9), .binOp .neq 2 (.tmp 6) (.tmp 8) 2, none⟩])
  (.cond (.tmp 9) (.seq (.reg [⟨(some 4), .assign (.const (.bool false)), none⟩])
    .ret)
   .skip))
 (.seq (.seq (.reg [⟨(some 10), .fieldAddr 87 (.tmp 2) 1, none⟩,
      ⟨(some 11), .load 2 (.tmp 10), none⟩,
      ⟨(some 12), .fieldAddr 87 (.tmp 3) 1, none⟩,
      ⟨(some 13), .load 2 (.tmp 12), none⟩,
      ⟨(some 14), .binOp .neq 2 (.tmp 11) (.tmp 13) 2, none⟩])
   (.cond (.tmp 14) (.seq (.reg [⟨(some 4), .assign (.const (.bool false)), none⟩])
     .ret)
    .skip))
  (.seq (.seq (.reg [⟨(some 15), .fieldAddr 87 (.tmp 2) 2, none⟩,
       ⟨(some 16), .load 2 (.tmp 15), none⟩,
       ⟨(some 17), .fieldAddr 87 (.tmp 3) 2, none⟩,
       ⟨(some 18), .load 2 (.tmp 17), none⟩,
       ⟨(some 19), .binOp .neq 2 (.tmp 16) (.tmp 18) 2, none⟩])
    (.cond (.tmp 19) (.seq (.reg [⟨(some 4), .assign (.const (.bool false)), none⟩])
      .ret)
     .skip))
   (.seq (.seq (.reg [⟨(some 20), .fieldAddr 87 (.tmp 2) 3, none⟩,
        ⟨(some 21), .load 4 (.tmp 20), none⟩,
        ⟨(some 22), .fieldAddr 87 (.tmp 3) 3, none⟩,
        ⟨(some 23), .load 4 (.tmp 22), none⟩,
        ⟨(some 24), .binOp .neq 4 (.tmp 21) (.tmp 23) 4, none⟩])
     (.cond (.tmp 24) (.seq (.reg [⟨(some 4), .assign (.const (.bool false)), none⟩])
       .ret)
      .skip))
    (.seq (.reg [⟨(some 4), .assign (.const (.bool true)), none⟩])
     .ret))))))
theorem s90 : slimF Try.f90 = some (c90, [.t 4], 25) := by kernel_rfl
theorem o90 : okF [] Try.f90 = true := by kernel_rfl
theorem p90 : Pure Try.prog 90 g90 := by
  refine semOf_pure fun ⟨τ, τ', x, y⟩ n h2 _ => ?_
  have hT : Table Try.prog [] := .nil
  refine SatP.of_body hT hm Try.func90 s90 o90 h2 (by simp) ?_
  rcases Bool.eq_false_or_eq_true (eqB x y) with hxy | hxy
  · rw [hxy]
    have h := eqB_iff.1 hxy
    subst h
    simp (config := {contextual := true, maxSteps := 4000000, implicitDefEqProofs := false}) [c90, go_sem, eqB_iff, eqB_not]
  · rw [hxy]
    have h := eqB_not.1 hxy
    rw [eq_Rule] at h
    simp (config := {contextual := true, maxSteps := 4000000, implicitDefEqProofs := false}) [c90, go_sem, eqB_iff, eqB_not]
    simpa using h
/- laws.eqRuleS -/
noncomputable def g45 : Fsem := eqSem enRule.list enRule.list
@[go_sem] theorem g45_eq {n τ τ' : Nat} {x y : List Rule} : g45 n [.sl τ 4 (x.map (enRule.av τ)), .sl τ' 4 (y.map (enRule.av τ'))] = ⟨True, .bool (eqB x y)⟩ := eqSem_eq (E := enRule.list) (E' := enRule.list) (n := n) (τ := τ) (τ' := τ') (x := x) (y := y)
theorem s45 : slimF Try.f45 = some (eqDeepC 3 4 37 87 90, [.t 4], 27) := by kernel_rfl
theorem o45 : okF [(90, g90)] Try.f45 = true := by kernel_rfl
theorem p45 : Pure Try.prog 45 g45 := eqDeep_ok hm Try.func45 s45 o45 (by omega) ty_37 fit_87 fit_87 p90 (fun n τ x τ' x' => eqSem_eq)
/- laws.eqCode -/
noncomputable def g50 : Fsem := eqSem enCode enCode
@[go_sem] theorem g50_eq {n : Nat} {x y : Code} : g50 n [.agg [.int .i64 x.k, .int .i64 x.m], .agg [.int .i64 y.k, .int .i64 y.m]] = ⟨True, .bool (eqB x y)⟩ := eqSem_eq (E := enCode) (E' := enCode) (n := n) (τ := 0) (τ' := 0) (x := x) (y := y)
def c50 : SCode := (.seq (.reg [⟨(some 2), .box 45 (.tmp 0), none⟩,
   ⟨(some 3), .box 45 (.tmp 1), none⟩,
   ⟨(some 4), .assign (.const (.bool false)), none⟩])
(.seq (.seq (.reg [⟨(some 5), .fieldAddr 45 (.tmp 2) 0, none⟩,
     ⟨(some 6), .load 2 (.tmp 5), none⟩,
     ⟨(some 7), .fieldAddr 45 (.tmp 3) 0, none⟩,
     ⟨(some 8), .load 2 (.tmp 7), none⟩,
     ⟨(some 9), .binOp .neq 2 (.tmp 6) (.tmp 8) 2, none⟩])
  (.cond (.tmp 9) (.seq (.reg [⟨(some 4), .assign (.const (.bool false)), none⟩])
    .ret)
   .skip))
 (.seq (.seq (.reg [⟨(some 10), .fieldAddr 45 (.tmp 2) 1, none⟩,
      ⟨(some 11), .load 2 (.tmp 10), none⟩,
      ⟨(some 12), .fieldAddr 45 (.tmp 3) 1, none⟩,
      ⟨(some 13), .load 2 (.tmp 12), none⟩,
      ⟨(some 14), .binOp .neq 2 (.tmp 11) (.tmp 13) 2, none⟩])
   (.cond (.tmp 14) (.seq (.reg [⟨(some 4), .assign (.const (.bool false)), none⟩])
     .ret)
    .skip))
  (.seq (.reg [⟨(some 4), .assign (.const (.bool true)), none⟩])
   .ret))))
theorem s50 : slimF Try.f50 = some (c50, [.t 4], 15) := by kernel_rfl
theorem o50 : okF [] Try.f50 = true := by kernel_rfl
theorem p50 : Pure Try.prog 50 g50 := by
  refine semOf_pure fun ⟨τ, τ', x, y⟩ n h2 _ => ?_
  have hT : Table Try.prog [] := .nil
  refine SatP.of_body hT hm Try.func50 s50 o50 h2 (by simp) ?_
  rcases Bool.eq_false_or_eq_true (eqB x y) with hxy | hxy
  · rw [hxy]
    have h := eqB_iff.1 hxy
    subst h
    simp (config := {contextual := true, maxSteps := 4000000, implicitDefEqProofs := false}) [c50, go_sem, eqB_iff, eqB_not]
  · rw [hxy]
    have h := eqB_not.1 hxy
    rw [eq_Code] at h
    simp (config := {contextual := true, maxSteps := 4000000, implicitDefEqProofs := false}) [c50, go_sem, eqB_iff, eqB_not]
    simpa using h
/- laws.eqPool -/
noncomputable def g15 : Fsem := eqSem enPool enPool
@[go_sem] theorem g15_eq {n : Nat} {x y : Pool} : g15 n [.agg [.int .i64 x.id, .int .i64 x.code.k, .int .i64 x.code.m, .int .i64 x.min, .int .i64 x.pgs, .int .i64 x.rule], .agg [.int .i64 y.id, .int .i64 y.code.k, .int .i64 y.code.m, .int .i64 y.min, .int .i64 y.pgs, .int .i64 y.rule]] = ⟨True, .bool (eqB x y)⟩ := eqSem_eq (E := enPool) (E' := enPool) (n := n) (τ := 0) (τ' := 0) (x := x) (y := y)
def c15 : SCode := (.seq (.reg [⟨(some 2), .box 47 (.tmp 0), none⟩,
   ⟨(some 3), .box 47 (.tmp 1), none⟩,
   ⟨(some 4), .assign (.const (.bool false)), none⟩])
(.seq (.seq (.reg [⟨(some 5), .fieldAddr 47 (.tmp 2) 0, none⟩,
     ⟨(some 6), .load 2 (.tmp 5), none⟩,
     ⟨(some 7), .fieldAddr 47 (.tmp 3) 0, none⟩,
     ⟨(some 8), .load 2 (.tmp 7), none⟩,
     ⟨(some 9), .binOp .neq 2 (.tmp 6) (.tmp 8) 2, none⟩])
  (.cond (.tmp 9) (.seq (.reg [⟨(some 4), .assign (.const (.bool false)), none⟩])
    .ret)
   .skip))
 (.seq (.seq (.reg [⟨(some 10), .fieldAddr 47 (.tmp 2) 1, none⟩,
      ⟨(some 11), .load 45 (.tmp 10), none⟩,
      ⟨(some 12), .fieldAddr 47 (.tmp 3) 1, none⟩,
      ⟨(some 13), .load 45 (.tmp 12), none⟩,
      ⟨(some 14), .call ⟨(.value (.func 50)), #[(.tmp 11), (.tmp 13)], #[45, 45]⟩, none⟩,
      ⟨(some 15), .unOp .not 4 (.tmp 14), none⟩])
   (.cond (.tmp 15) (.seq (.reg [⟨(some 4), .assign (.const (.bool false)), none⟩])
     .ret)
    .skip))
  (.seq (.seq (.reg [⟨(some 16), .fieldAddr 47 (.tmp 2) 2, none⟩,
       ⟨(some 17), .load 2 (.tmp 16), none⟩,
       ⟨(some 18), .fieldAddr 47 (.tmp 3) 2, none⟩,
       ⟨(some 19), .load 2 (.tmp 18), none⟩,
       ⟨(some 20), .binOp .neq 2 (.tmp 17) (.tmp 19) 2, none⟩])
    (.cond (.tmp 20) (.seq (.reg [⟨(some 4), .assign (.const (.bool false)), none⟩])
      .ret)
     .skip))
   (.seq (.seq (.reg [⟨(some 21), .fieldAddr 47 (.tmp 2) 3, none⟩,
        ⟨(some 22), .load 2 (.tmp 21), none⟩,
        ⟨(some 23), .fieldAddr 47 (.tmp 3) 3, none⟩,
        ⟨(some 24), .load 2 (.tmp 23), none⟩,
        ⟨(some 25), .binOp .neq 2 (.tmp 22) (.tmp 24) 2, none⟩])
     (.cond (.tmp 25) (.seq (.reg [⟨(some 4), .assign (.const (.bool false)), none⟩])
       .ret)
      .skip))
    (.seq (.seq (.reg [⟨(some 26), .fieldAddr 47 (.tmp 2) 4, none⟩,
         ⟨(some 27), .load 2 (.tmp 26), none⟩,
         ⟨(some 28), .fieldAddr 47 (.tmp 3) 4, none⟩,
         ⟨(some 29), .load 2 (.tmp 28), none⟩,
         ⟨(some 30), .binOp .neq 2 (.tmp 27) (.tmp 29) 2, none⟩])
      (.cond (.tmp 30) (.seq (.reg [⟨(some 4), .assign (.const (.bool false)), none⟩])
        .ret)
       .skip))
     (.seq (.reg [⟨(some 4), .assign (.const (.bool true)), none⟩])
      .ret)))))))
theorem s15 : slimF Try.f15 = some (c15, [.t 4], 31) := by kernel_rfl
theorem o15 : okF [(50, g50)] Try.f15 = true := by kernel_rfl
theorem p15 : Pure Try.prog 15 g15 := by
  refine semOf_pure fun ⟨τ, τ', x, y⟩ n h2 _ => ?_
  have hT : Table Try.prog [(50, g50)] := (.cons p50 .nil)
  refine SatP.of_body hT hm Try.func15 s15 o15 h2 (by simp) ?_
  rcases Bool.eq_false_or_eq_true (eqB x y) with hxy | hxy
  · rw [hxy]
    have h := eqB_iff.1 hxy
    subst h
    simp (config := {contextual := true, maxSteps := 4000000, implicitDefEqProofs := false}) [c15, go_sem, eqB_iff, eqB_not]
  · rw [hxy]
    have h := eqB_not.1 hxy
    rw [eq_Pool] at h
    simp (config := {contextual := true, maxSteps := 4000000, implicitDefEqProofs := false}) [c15, go_sem, eqB_iff, eqB_not]
    simpa using h
/- laws.eqPoolS -/
noncomputable def g46 : Fsem := eqSem enPool.list enPool.list
@[go_sem] theorem g46_eq {n τ τ' : Nat} {x y : List Pool} : g46 n [.sl τ 6 (x.map (enPool.av τ)), .sl τ' 6 (y.map (enPool.av τ'))] = ⟨True, .bool (eqB x y)⟩ := eqSem_eq (E := enPool.list) (E' := enPool.list) (n := n) (τ := τ) (τ' := τ') (x := x) (y := y)
theorem s46 : slimF Try.f46 = some (eqDeepC 3 4 38 47 15, [.t 4], 27) := by kernel_rfl
theorem o46 : okF [(15, g15)] Try.f46 = true := by kernel_rfl
theorem p46 : Pure Try.prog 46 g46 := eqDeep_ok hm Try.func46 s46 o46 (by omega) ty_38 fit_47 fit_47 p15 (fun n τ x τ' x' => eqSem_eq)
/- laws.eqMap -/
noncomputable def g12 : Fsem := eqSem enMp enMp
@[go_sem] theorem g12_eq {n τ τ' : Nat} {x y : Mp} : g12 n [.agg [.int .i64 x.epoch, .int .i64 x.term, .sl τ 2 (x.tree.devices.map (enDev.av τ)), .sl τ 3 (x.tree.buckets.map (enBkt.av τ)), .sl τ 4 (x.rules.map (enRule.av τ)), .sl τ 6 (x.pools.map (enPool.av τ)), .sl τ 1 (x.up.map (AV.int .i64)), .sl τ 1 (x.out.map (AV.int .i64))], .agg [.int .i64 y.epoch, .int .i64 y.term, .sl τ' 2 (y.tree.devices.map (enDev.av τ')), .sl τ' 3 (y.tree.buckets.map (enBkt.av τ')), .sl τ' 4 (y.rules.map (enRule.av τ')), .sl τ' 6 (y.pools.map (enPool.av τ')), .sl τ' 1 (y.up.map (AV.int .i64)), .sl τ' 1 (y.out.map (AV.int .i64))]] = ⟨True, .bool (eqB x y)⟩ := eqSem_eq (E := enMp) (E' := enMp) (n := n) (τ := τ) (τ' := τ') (x := x) (y := y)
def c12 : SCode := (.seq (.reg [⟨(some 2), .box 40 (.tmp 0), none⟩,
   ⟨(some 3), .box 40 (.tmp 1), none⟩,
   ⟨(some 4), .assign (.const (.bool false)), none⟩])
(.seq (.seq (.reg [⟨(some 5), .fieldAddr 40 (.tmp 2) 0, none⟩,
     ⟨(some 6), .load 2 (.tmp 5), none⟩,
     ⟨(some 7), .fieldAddr 40 (.tmp 3) 0, none⟩,
     ⟨(some 8), .load 2 (.tmp 7), none⟩,
     ⟨(some 9), .binOp .neq 2 (.tmp 6) (.tmp 8) 2, none⟩])
  (.cond (.tmp 9) (.seq (.reg [⟨(some 4), .assign (.const (.bool false)), none⟩])
    .ret)
   .skip))
 (.seq (.seq (.reg [⟨(some 10), .fieldAddr 40 (.tmp 2) 1, none⟩,
      ⟨(some 11), .load 2 (.tmp 10), none⟩,
      ⟨(some 12), .fieldAddr 40 (.tmp 3) 1, none⟩,
      ⟨(some 13), .load 2 (.tmp 12), none⟩,
      ⟨(some 14), .binOp .neq 2 (.tmp 11) (.tmp 13) 2, none⟩])
   (.cond (.tmp 14) (.seq (.reg [⟨(some 4), .assign (.const (.bool false)), none⟩])
     .ret)
    .skip))
  (.seq (.seq (.reg [⟨(some 15), .fieldAddr 40 (.tmp 2) 2, none⟩,
       ⟨(some 16), .load 36 (.tmp 15), none⟩,
       ⟨(some 17), .fieldAddr 40 (.tmp 3) 2, none⟩,
       ⟨(some 18), .load 36 (.tmp 17), none⟩,
       ⟨(some 19), .call ⟨(.value (.func 25)), #[(.tmp 16), (.tmp 18)], #[36, 36]⟩, none⟩,
       ⟨(some 20), .unOp .not 4 (.tmp 19), none⟩])
    (.cond (.tmp 20) (.seq (.reg [⟨(some 4), .assign (.const (.bool false)), none⟩])
      .ret)
     .skip))
   (.seq (.seq (.reg [⟨(some 21), .fieldAddr 40 (.tmp 2) 3, none⟩,
        ⟨(some 22), .load 37 (.tmp 21), none⟩,
        ⟨(some 23), .fieldAddr 40 (.tmp 3) 3, none⟩,
        ⟨(some 24), .load 37 (.tmp 23), none⟩,
        ⟨(some 25), .call ⟨(.value (.func 45)), #[(.tmp 22), (.tmp 24)], #[37, 37]⟩, none⟩,
        ⟨(some 26), .unOp .not 4 (.tmp 25), none⟩])
     (.cond (.tmp 26) (.seq (.reg [⟨(some 4), .assign (.const (.bool false)), none⟩])
       .ret)
      .skip))
    (.seq (.seq (.reg [⟨(some 27), .fieldAddr 40 (.tmp 2) 4, none⟩,
         ⟨(some 28), .load 38 (.tmp 27), none⟩,
         ⟨(some 29), .fieldAddr 40 (.tmp 3) 4, none⟩,
         ⟨(some 30), .load 38 (.tmp 29), none⟩,
         ⟨(some 31), .call ⟨(.value (.func 46)), #[(.tmp 28), (.tmp 30)], #[38, 38]⟩, none⟩,
         ⟨(some 32), .unOp .not 4 (.tmp 31), none⟩])
      (.cond (.tmp 32) (.seq (.reg [⟨(some 4), .assign (.const (.bool false)), none⟩])
        .ret)
       .skip))
     (.seq (.seq (.reg [⟨(some 33), .fieldAddr 40 (.tmp 2) 5, none⟩,
          ⟨(some 34), .load 28 (.tmp 33), none⟩,
          ⟨(some 35), .fieldAddr 40 (.tmp 3) 5, none⟩,
          ⟨(some 36), .load 28 (.tmp 35), none⟩,
          ⟨(some 37), .call ⟨(.value (.func 47)), #[(.tmp 34), (.tmp 36)], #[28, 28]⟩, none⟩,
          ⟨(some 38), .unOp .not 4 (.tmp 37), none⟩])
       (.cond (.tmp 38) (.seq (.reg [⟨(some 4), .assign (.const (.bool false)), none⟩])
         .ret)
        .skip))
      (.seq (.seq (.reg [⟨(some 39), .fieldAddr 40 (.tmp 2) 6, none⟩,
           ⟨(some 40), .load 28 (.tmp 39), none⟩,
           ⟨(some 41), .fieldAddr 40 (.tmp 3) 6, none⟩,
           ⟨(some 42), .load 28 (.tmp 41), none⟩,
           ⟨(some 43), .call ⟨(.value (.func 47)), #[(.tmp 40), (.tmp 42)], #[28, 28]⟩, none⟩,
           ⟨(some 44), .unOp .not 4 (.tmp 43), none⟩])
        (.cond (.tmp 44) (.seq (.reg [⟨(some 4), .assign (.const (.bool false)), none⟩])
          .ret)
         .skip))
       (.seq (.reg [⟨(some 4), .assign (.const (.bool true)), none⟩])
        .ret)))))))))
theorem s12 : slimF Try.f12 = some (c12, [.t 4], 45) := by kernel_rfl
theorem o12 : okF [(25, g25), (45, g45), (46, g46), (47, g47)] Try.f12 = true := by kernel_rfl
theorem p12 : Pure Try.prog 12 g12 := by
  refine semOf_pure fun ⟨τ, τ', x, y⟩ n h2 _ => ?_
  have hT : Table Try.prog [(25, g25), (45, g45), (46, g46), (47, g47)] := (.cons p25 (.cons p45 (.cons p46 (.cons p47 .nil))))
  refine SatP.of_body hT hm Try.func12 s12 o12 h2 (by simp) ?_
  rcases Bool.eq_false_or_eq_true (eqB x y) with hxy | hxy
  · rw [hxy]
    have h := eqB_iff.1 hxy
    subst h
    simp (config := {contextual := true, maxSteps := 4000000, implicitDefEqProofs := false}) [c12, go_sem, eqB_iff, eqB_not]
  · rw [hxy]
    have h := eqB_not.1 hxy
    rw [eq_Mp] at h
    simp (config := {contextual := true, maxSteps := 4000000, implicitDefEqProofs := false}) [c12, go_sem, eqB_iff, eqB_not]
    simpa using h
/- laws.szInt64SS -/
noncomputable def g19 : Fsem := szSem (En.int .i64).list.list
@[go_sem] theorem g19_eq {n τ : Nat} {x : List (List Int)} {b : Int} : g19 n [.sl τ 1 (x.map ((En.int .i64).list.av τ)), .int .i64 b] = ⟨0 ≤ b ∧ b ≤ bigB, .int .i64 (szR b ((x.length + (x.map (En.int .i64).list.tot).sum)))⟩ := by
  have h := szSem_eq (E := (En.int .i64).list.list) (n := n) (τ := τ) (x := x) (b := b)
  rw [tot_list] at h
  exact h
theorem s19 : slimF Try.f19 = some (szDeepC 3 53 28 35, [.t 4], 27) := by kernel_rfl
theorem o19 : okF [(35, g35)] Try.f19 = true := by kernel_rfl
theorem p19 : Pure Try.prog 19 g19 := szDeep_ok hm Try.func19 s19 o19 (by omega) ty_53 (fite_28) p35 (fun n τ x b => szSem_eq)
/- laws.toInt64SS -/
noncomputable def g22 : Fsem := toSem (En.int .i64).list.list (En.int .i64).list.list
@[go_sem] theorem g22_eq {n τ : Nat} {x : List (List Int)} : g22 n [.sl τ 1 (x.map ((En.int .i64).list.av τ))] = ⟨(x.length + (x.map (En.int .i64).list.tot).sum) ≤ 1048576, .sl n 1 (x.map ((En.int .i64).list.av n))⟩ := by
  have h := toSem_eq (Ei := (En.int .i64).list.list) (Eo := (En.int .i64).list.list) (n := n) (τ := τ) (x := x)
  rw [tot_list] at h
  exact h
theorem s22 : slimF Try.f22 = some (toDeepC 3 53 53 28 28 39, [.t 2], 23) := by kernel_rfl
theorem o22 : okF [(39, g39)] Try.f22 = true := by kernel_rfl
theorem p22 : Pure Try.prog 22 g22 := toDeep_ok hm Try.func22 s22 o22 (by omega) ty_53 ty_53 (fite_28) (fitze_28) p39 (fun n τ x => toSem_eq)
/- laws.eqLoad -/
noncomputable def g65 : Fsem := eqSem enLoad enLoad
@[go_sem] theorem g65_eq {n : Nat} {x y : Load} : g65 n [.agg [.int .i64 x.node, .int .i64 x.count], .agg [.int .i64 y.node, .int .i64 y.count]] = ⟨True, .bool (eqB x y)⟩ := eqSem_eq (E := enLoad) (E' := enLoad) (n := n) (τ := 0) (τ' := 0) (x := x) (y := y)
def c65 : SCode := (.seq (.reg [⟨(some 2), .box 97 (.tmp 0), none⟩,
   ⟨(some 3), .box 97 (.tmp 1), none⟩,
   ⟨(some 4), .assign (.const (.bool false)), none⟩])
(.seq (.seq (.reg [⟨(some 5), .fieldAddr 97 (.tmp 2) 0, none⟩,
     ⟨(some 6), .load 2 (.tmp 5), none⟩,
     ⟨(some 7), .fieldAddr 97 (.tmp 3) 0, none⟩,
     ⟨(some 8), .load 2 (.tmp 7), none⟩,
     ⟨(some 9), .binOp .neq 2 (.tmp 6) (.tmp 8) 2, none⟩])
  (.cond (.tmp 9) (.seq (.reg [⟨(some 4), .assign (.const (.bool false)), none⟩])
    .ret)
   .skip))
 (.seq (.seq (.reg [⟨(some 10), .fieldAddr 97 (.tmp 2) 1, none⟩,
      ⟨(some 11), .load 2 (.tmp 10), none⟩,
      ⟨(some 12), .fieldAddr 97 (.tmp 3) 1, none⟩,
      ⟨(some 13), .load 2 (.tmp 12), none⟩,
      ⟨(some 14), .binOp .neq 2 (.tmp 11) (.tmp 13) 2, none⟩])
   (.cond (.tmp 14) (.seq (.reg [⟨(some 4), .assign (.const (.bool false)), none⟩])
     .ret)
    .skip))
  (.seq (.reg [⟨(some 4), .assign (.const (.bool true)), none⟩])
   .ret))))
theorem s65 : slimF Try.f65 = some (c65, [.t 4], 15) := by kernel_rfl
theorem o65 : okF [] Try.f65 = true := by kernel_rfl
theorem p65 : Pure Try.prog 65 g65 := by
  refine semOf_pure fun ⟨τ, τ', x, y⟩ n h2 _ => ?_
  have hT : Table Try.prog [] := .nil
  refine SatP.of_body hT hm Try.func65 s65 o65 h2 (by simp) ?_
  rcases Bool.eq_false_or_eq_true (eqB x y) with hxy | hxy
  · rw [hxy]
    have h := eqB_iff.1 hxy
    subst h
    simp (config := {contextual := true, maxSteps := 4000000, implicitDefEqProofs := false}) [c65, go_sem, eqB_iff, eqB_not]
  · rw [hxy]
    have h := eqB_not.1 hxy
    rw [eq_Load] at h
    simp (config := {contextual := true, maxSteps := 4000000, implicitDefEqProofs := false}) [c65, go_sem, eqB_iff, eqB_not]
    simpa using h
/- laws.eqLoadS -/
noncomputable def g24 : Fsem := eqSem enLoad.list enLoad.list
@[go_sem] theorem g24_eq {n τ τ' : Nat} {x y : List Load} : g24 n [.sl τ 2 (x.map (enLoad.av τ)), .sl τ' 2 (y.map (enLoad.av τ'))] = ⟨True, .bool (eqB x y)⟩ := eqSem_eq (E := enLoad.list) (E' := enLoad.list) (n := n) (τ := τ) (τ' := τ') (x := x) (y := y)
theorem s24 : slimF Try.f24 = some (eqDeepC 3 4 56 97 65, [.t 4], 27) := by kernel_rfl
theorem o24 : okF [(65, g65)] Try.f24 = true := by kernel_rfl
theorem p24 : Pure Try.prog 24 g24 := eqDeep_ok hm Try.func24 s24 o24 (by omega) ty_56 fit_97 fit_97 p65 (fun n τ x τ' x' => eqSem_eq)
/- laws.eqInt64SS -/
noncomputable def g26 : Fsem := eqSem (En.int .i64).list.list (En.int .i64).list.list
@[go_sem] theorem g26_eq {n τ τ' : Nat} {x y : List (List Int)} : g26 n [.sl τ 1 (x.map ((En.int .i64).list.av τ)), .sl τ' 1 (y.map ((En.int .i64).list.av τ'))] = ⟨True, .bool (eqB x y)⟩ := eqSem_eq (E := (En.int .i64).list.list) (E' := (En.int .i64).list.list) (n := n) (τ := τ) (τ' := τ') (x := x) (y := y)
theorem s26 : slimF Try.f26 = some (eqDeepC 3 4 53 28 47, [.t 4], 27) := by kernel_rfl
theorem o26 : okF [(47, g47)] Try.f26 = true := by kernel_rfl
theorem p26 : Pure Try.prog 26 g26 := eqDeep_ok hm Try.func26 s26 o26 (by omega) ty_53 (fite_28) (fite_28) p47 (fun n τ x τ' x' => eqSem_eq)
end Go.Ve
