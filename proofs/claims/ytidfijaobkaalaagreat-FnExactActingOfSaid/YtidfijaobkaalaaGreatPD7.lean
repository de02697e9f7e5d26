/- The texts of this claim, part PD 7: the engine that runs the code on values, the data, the contracts. No condition. -/
import Derived.Test.YtidfijaobkaalaaGreatPD6
namespace Go.Ve
open Go.Proofs Go.RowKit
set_option linter.unusedVariables false
set_option linter.unusedSimpArgs false
set_option maxRecDepth 10000
set_option maxHeartbeats 4000000
theorem fite_2 : FitE Tryz.prog 2 (En.int .i64) := ⟨by simp only [go_sem], by simp only [go_sem], fun τ x => by simp [go_sem]⟩
theorem fitze_2 : FitZ Tryz.prog 2 (En.int .i64) := ⟨by simp only [go_sem], by simp only [go_sem], by simp only [go_sem], by simp [go_sem], by simp only [go_sem], by simp [go_sem], by simp [go_sem], fun τ x => by simp [go_sem, setEl]⟩
noncomputable def g41 : Fsem := szSem enDev.list
@[go_sem] theorem g41_eq {n τ : Nat} {x : List Dev} {b : Int} : g41 n [.sl τ 2 (x.map (enDev.av τ)), .int .i64 b] = ⟨0 ≤ b ∧ b ≤ bigB, .int .i64 (szR b x.length)⟩ := by
  have h := szSem_eq (E := enDev.list) (n := n) (τ := τ) (x := x) (b := b)
  rw [tot_list, sum_flat (E := enDev) (fun x => tot_Dev), Nat.add_zero] at h
  exact h
theorem s41 : slimF Tryz.f41 = some (szFlatC 3 22, [.t 4], 12) := by kernel_rfl
theorem o41 : okF [] Tryz.f41 = true := by kernel_rfl
theorem p41 : Pure Tryz.prog 41 g41 := szFlat_ok hm Tryz.func41 s41 o41 (by omega) ty_22 (fun x => tot_Dev)
noncomputable def g62 : Fsem := szSem (En.int .i64).list
@[go_sem] theorem g62_eq {n τ : Nat} {x : List Int} {b : Int} : g62 n [.sl τ 1 (x.map (AV.int .i64)), .int .i64 b] = ⟨0 ≤ b ∧ b ≤ bigB, .int .i64 (szR b x.length)⟩ := by
  have h := szSem_eq (E := (En.int .i64).list) (n := n) (τ := τ) (x := x) (b := b)
  rw [tot_list, sum_flat (E := (En.int .i64)) (fun x => rfl), Nat.add_zero] at h
  exact h
theorem s62 : slimF Tryz.f62 = some (szFlatC 3 28, [.t 4], 12) := by kernel_rfl
theorem o62 : okF [] Tryz.f62 = true := by kernel_rfl
theorem p62 : Pure Tryz.prog 62 g62 := szFlat_ok hm Tryz.func62 s62 o62 (by omega) ty_28 (fun x => rfl)
noncomputable def g88 : Fsem := szSem enBkt
def c88 : SCode := (.seq (.reg [⟨(some 2), .box 123 (.tmp 0), none⟩,
   ⟨(some 4), .assign (.const (.int .i64 0)), none⟩])
(.seq (.reg [⟨(some 5), .fieldAddr 123 (.tmp 2) 2, none⟩,
    ⟨(some 6), .load 28 (.tmp 5), none⟩,
    ⟨(some 7), .move (.tmp 1), none⟩,
    ⟨(some 8), .call ⟨(.value (.func 62)), #[(.tmp 6), (.tmp 7)], #[28, 3]⟩, none⟩,
    ⟨(some 1), .assign (.tmp 8), none⟩])
 (.seq (.seq (.reg [⟨(some 9), .move (.tmp 1), none⟩,
      ⟨(some 10), .binOp .lss 3 (.tmp 9) (.const (.int .i64 0)) 3, none⟩])
   (.cond (.tmp 10) (.seq (.reg [⟨(some 4), .assign (.const (.int .i64 (-1))), none⟩])
     .ret)
    .skip))
  (.seq (.reg [⟨(some 11), .move (.tmp 1), none⟩,
      ⟨(some 4), .assign (.tmp 11), none⟩])
   .ret))))
theorem s88 : slimF Tryz.f88 = some (c88, [.t 4], 12) := by kernel_rfl
theorem o88 : okF [(62, g62)] Tryz.f88 = true := by kernel_rfl
theorem p88 : Pure Tryz.prog 88 g88 := by
  refine semOf_pure fun ⟨τ, x, b⟩ n h2 ⟨hb1, hb2⟩ => ?_
  have hT : Table Tryz.prog [(62, g62)] := (.cons p62 .nil)
  refine SatP.of_body hT hm Tryz.func88 s88 o88 h2 (by simp) ?_
  simp only [bigB] at hb1 hb2
  simp (config := {contextual := true, maxSteps := 4000000, implicitDefEqProofs := false}) [c88, go_sem, tot_Bkt, bigB, hb1, hb2]
  have := szR_spec b x.items.length
  have := szR_spec b x.items.length
  omega
noncomputable def g42 : Fsem := szSem enBkt.list
@[go_sem] theorem g42_eq {n τ : Nat} {x : List Bkt} {b : Int} : g42 n [.sl τ 3 (x.map (enBkt.av τ)), .int .i64 b] = ⟨0 ≤ b ∧ b ≤ bigB, .int .i64 (szR b ((x.length + (x.map enBkt.tot).sum)))⟩ := by
  have h := szSem_eq (E := enBkt.list) (n := n) (τ := τ) (x := x) (b := b)
  rw [tot_list] at h
  exact h
theorem s42 : slimF Tryz.f42 = some (szDeepC 3 23 123 88, [.t 4], 27) := by kernel_rfl
theorem o42 : okF [(88, g88)] Tryz.f42 = true := by kernel_rfl
theorem p42 : Pure Tryz.prog 42 g42 := szDeep_ok hm Tryz.func42 s42 o42 (by omega) ty_23 fit_123 p88 (fun n τ x b => szSem_eq)
noncomputable def g7 : Fsem := szSem enTree
@[go_sem] theorem g7_eq {n τ : Nat} {x : Tree} {b : Int} : g7 n [.agg [.sl τ 2 (x.devices.map (enDev.av τ)), .sl τ 3 (x.buckets.map (enBkt.av τ))], .int .i64 b] = ⟨0 ≤ b ∧ b ≤ bigB, .int .i64 (szR b ((x.devices.length + (x.buckets.length + (x.buckets.map enBkt.tot).sum))))⟩ := by
  have h := szSem_eq (E := enTree) (n := n) (τ := τ) (x := x) (b := b)
  rw [tot_Tree] at h
  exact h
def c7 : SCode := (.seq (.reg [⟨(some 2), .box 25 (.tmp 0), none⟩,
   ⟨(some 4), .assign (.const (.int .i64 0)), none⟩])
(.seq (.reg [⟨(some 5), .fieldAddr 25 (.tmp 2) 0, none⟩,
    ⟨(some 6), .load 22 (.tmp 5), none⟩,
    ⟨(some 7), .move (.tmp 1), none⟩,
    ⟨(some 8), .call ⟨(.value (.func 41)), #[(.tmp 6), (.tmp 7)], #[22, 3]⟩, none⟩,
    ⟨(some 1), .assign (.tmp 8), none⟩])
 (.seq (.seq (.reg [⟨(some 9), .move (.tmp 1), none⟩,
      ⟨(some 10), .binOp .lss 3 (.tmp 9) (.const (.int .i64 0)) 3, none⟩])
   (.cond (.tmp 10) (.seq (.reg [⟨(some 4), .assign (.const (.int .i64 (-1))), none⟩])
     .ret)
    .skip))
  (.seq (.reg [⟨(some 11), .fieldAddr 25 (.tmp 2) 1, none⟩,
      ⟨(some 12), .load 23 (.tmp 11), none⟩,
      ⟨(some 13), .move (.tmp 1), none⟩,
      ⟨(some 14), .call ⟨(.value (.func 42)), #[(.tmp 12), (.tmp 13)], #[23, 3]⟩, none⟩,
      ⟨(some 1), .assign (.tmp 14), none⟩])
   (.seq (.seq (.reg [⟨(some 15), .move (.tmp 1), none⟩,
        ⟨(some 16), .binOp .lss 3 (.tmp 15) (.const (.int .i64 0)) 3, none⟩])
     (.cond (.tmp 16) (.seq (.reg [⟨(some 4), .assign (.const (.int .i64 (-1))), none⟩])
       .ret)
      .skip))
    (.seq (.reg [⟨(some 17), .move (.tmp 1), none⟩,
        ⟨(some 4), .assign (.tmp 17), none⟩])
     .ret))))))
theorem s7 : slimF Tryz.f7 = some (c7, [.t 4], 18) := by kernel_rfl
theorem o7 : okF [(41, g41), (42, g42)] Tryz.f7 = true := by kernel_rfl
theorem p7 : Pure Tryz.prog 7 g7 := by
  refine semOf_pure fun ⟨τ, x, b⟩ n h2 ⟨hb1, hb2⟩ => ?_
  have hT : Table Tryz.prog [(41, g41), (42, g42)] := (.cons p41 (.cons p42 .nil))
  refine SatP.of_body hT hm Tryz.func7 s7 o7 h2 (by simp) ?_
  simp only [bigB] at hb1 hb2
  simp (config := {contextual := true, maxSteps := 4000000, implicitDefEqProofs := false}) [c7, go_sem, tot_Tree, bigB, hb1, hb2]
  have := szR_spec b x.devices.length
  have := szR_spec (szR b x.devices.length) ((x.buckets.length + (x.buckets.map enBkt.tot).sum))
  have := szR_spec b ((x.devices.length + (x.buckets.length + (x.buckets.map enBkt.tot).sum)))
  omega
noncomputable def g8 : Fsem := szSem enExc.list
@[go_sem] theorem g8_eq {n τ : Nat} {x : List Exc} {b : Int} : g8 n [.sl τ 4 (x.map (enExc.av τ)), .int .i64 b] = ⟨0 ≤ b ∧ b ≤ bigB, .int .i64 (szR b x.length)⟩ := by
  have h := szSem_eq (E := enExc.list) (n := n) (τ := τ) (x := x) (b := b)
  rw [tot_list, sum_flat (E := enExc) (fun x => tot_Exc), Nat.add_zero] at h
  exact h
theorem s8 : slimF Tryz.f8 = some (szFlatC 3 31, [.t 4], 12) := by kernel_rfl
theorem o8 : okF [] Tryz.f8 = true := by kernel_rfl
theorem p8 : Pure Tryz.prog 8 g8 := szFlat_ok hm Tryz.func8 s8 o8 (by omega) ty_31 (fun x => tot_Exc)
noncomputable def g103 : Fsem := toSem enDev enDev
def c103 : SCode := (.seq (.reg [⟨(some 1), .box 137 (.tmp 0), none⟩,
   ⟨(some 2), .alloc 135, none⟩])
(.seq (.reg [⟨(some 3), .alloc 135, none⟩])
 (.seq (.reg [⟨(some 4), .fieldAddr 137 (.tmp 1) 0, none⟩,
     ⟨(some 5), .load 2 (.tmp 4), none⟩,
     ⟨(some 6), .fieldAddr 135 (.tmp 3) 0, none⟩,
     ⟨none, .store 2 (.tmp 6) (.tmp 5), none⟩])
  (.seq (.reg [⟨(some 7), .fieldAddr 137 (.tmp 1) 1, none⟩,
      ⟨(some 8), .load 2 (.tmp 7), none⟩,
      ⟨(some 9), .fieldAddr 135 (.tmp 3) 1, none⟩,
      ⟨none, .store 2 (.tmp 9) (.tmp 8), none⟩])
   (.seq (.reg [⟨(some 10), .load 135 (.tmp 3), none⟩,
       ⟨none, .store 135 (.tmp 2) (.tmp 10), none⟩])
    .ret)))))
theorem s103 : slimF Tryz.f103 = some (c103, [.c 2 135], 11) := by kernel_rfl
theorem o103 : okF [] Tryz.f103 = true := by kernel_rfl
theorem p103 : Pure Tryz.prog 103 g103 := by
  refine semOf_pure fun ⟨τ, x⟩ n h2 hb => ?_
  have hT : Table Tryz.prog [] := .nil
  refine SatP.of_body hT hm Tryz.func103 s103 o103 h2 (by simp) ?_
  have hb' : 0 ≤ 1048576 := by
    have := hb
    simp only [tot_Dev] at this
    exact this
  have hn0 : n ≠ 0 := by omega
  simp (config := {maxSteps := 4000000, implicitDefEqProofs := false}) [c103, go_sem, hn0]
  all_goals omega
noncomputable def g48 : Fsem := toSem enDev.list enDev.list
@[go_sem] theorem g48_eq {n τ : Nat} {x : List Dev} : g48 n [.sl τ 2 (x.map (enDev.av τ))] = ⟨x.length ≤ 1048576, .sl n 2 (x.map (enDev.av n))⟩ := by
  have h := toSem_eq (Ei := enDev.list) (Eo := enDev.list) (n := n) (τ := τ) (x := x)
  rw [tot_list, sum_flat (E := enDev) (fun x => tot_Dev), Nat.add_zero] at h
  exact h
theorem s48 : slimF Tryz.f48 = some (toDeepC 3 22 36 137 135 103, [.t 2], 23) := by kernel_rfl
theorem o48 : okF [(103, g103)] Tryz.f48 = true := by kernel_rfl
theorem p48 : Pure Tryz.prog 48 g48 := toDeep_ok hm Tryz.func48 s48 o48 (by omega) ty_22 ty_36 fit_137 fitz_135 p103 (fun n τ x => toSem_eq)
noncomputable def g12 : Fsem := toSem (En.int .i64).list (En.int .i64).list
@[go_sem] theorem g12_eq {n τ : Nat} {x : List Int} : g12 n [.sl τ 1 (x.map (AV.int .i64))] = ⟨x.length ≤ 1048576, .sl n 1 (x.map (AV.int .i64))⟩ := by
  have h := toSem_eq (Ei := (En.int .i64).list) (Eo := (En.int .i64).list) (n := n) (τ := τ) (x := x)
  rw [tot_list, sum_flat (E := (En.int .i64)) (fun x => rfl), Nat.add_zero] at h
  exact h
theorem s12 : slimF Tryz.f12 = some (toFlatC 3 28 2, [.t 2], 22) := by kernel_rfl
theorem o12 : okF [] Tryz.f12 = true := by kernel_rfl
theorem p12 : Pure Tryz.prog 12 g12 := toFlat_ok hm Tryz.func12 s12 o12 (by omega) ty_28 (fite_2) (fitze_2) rfl (fun _ _ _ => rfl)
noncomputable def g104 : Fsem := toSem enBkt enBkt
def c104 : SCode := (.seq (.reg [⟨(some 1), .box 123 (.tmp 0), none⟩,
   ⟨(some 2), .alloc 125, none⟩])
(.seq (.reg [⟨(some 3), .alloc 125, none⟩])
 (.seq (.reg [⟨(some 4), .fieldAddr 123 (.tmp 1) 0, none⟩,
     ⟨(some 5), .load 2 (.tmp 4), none⟩,
     ⟨(some 6), .fieldAddr 125 (.tmp 3) 0, none⟩,
     ⟨none, .store 2 (.tmp 6) (.tmp 5), none⟩])
  (.seq (.reg [⟨(some 7), .fieldAddr 123 (.tmp 1) 1, none⟩,
      ⟨(some 8), .load 2 (.tmp 7), none⟩,
      ⟨(some 9), .fieldAddr 125 (.tmp 3) 1, none⟩,
      ⟨none, .store 2 (.tmp 9) (.tmp 8), none⟩])
   (.seq (.reg [⟨(some 10), .fieldAddr 123 (.tmp 1) 2, none⟩,
       ⟨(some 11), .load 28 (.tmp 10), none⟩,
       ⟨(some 12), .call ⟨(.value (.func 12)), #[(.tmp 11)], #[28]⟩, none⟩,
       ⟨(some 13), .fieldAddr 125 (.tmp 3) 2, none⟩,
       ⟨none, .store 28 (.tmp 13) (.tmp 12), none⟩])
    (.seq (.reg [⟨(some 14), .load 125 (.tmp 3), none⟩,
        ⟨none, .store 125 (.tmp 2) (.tmp 14), none⟩])
     .ret))))))
theorem s104 : slimF Tryz.f104 = some (c104, [.c 2 125], 15) := by kernel_rfl
theorem o104 : okF [(12, g12)] Tryz.f104 = true := by kernel_rfl
theorem p104 : Pure Tryz.prog 104 g104 := by
  refine semOf_pure fun ⟨τ, x⟩ n h2 hb => ?_
  have hT : Table Tryz.prog [(12, g12)] := (.cons p12 .nil)
  refine SatP.of_body hT hm Tryz.func104 s104 o104 h2 (by simp) ?_
  have hb' : x.items.length ≤ 1048576 := by
    have := hb
    simp only [tot_Bkt] at this
    exact this
  have hn0 : n ≠ 0 := by omega
  simp (config := {maxSteps := 4000000, implicitDefEqProofs := false}) [c104, go_sem, hn0]
  all_goals omega
noncomputable def g49 : Fsem := toSem enBkt.list enBkt.list
@[go_sem] theorem g49_eq {n τ : Nat} {x : List Bkt} : g49 n [.sl τ 3 (x.map (enBkt.av τ))] = ⟨(x.length + (x.map enBkt.tot).sum) ≤ 1048576, .sl n 3 (x.map (enBkt.av n))⟩ := by
  have h := toSem_eq (Ei := enBkt.list) (Eo := enBkt.list) (n := n) (τ := τ) (x := x)
  rw [tot_list] at h
  exact h
theorem s49 : slimF Tryz.f49 = some (toDeepC 3 23 37 123 125 104, [.t 2], 23) := by kernel_rfl
theorem o49 : okF [(104, g104)] Tryz.f49 = true := by kernel_rfl
theorem p49 : Pure Tryz.prog 49 g49 := toDeep_ok hm Tryz.func49 s49 o49 (by omega) ty_23 ty_37 fit_123 fitz_125 p104 (fun n τ x => toSem_eq)
noncomputable def g10 : Fsem := toSem enTree enTree
@[go_sem] theorem g10_eq {n τ : Nat} {x : Tree} : g10 n [.agg [.sl τ 2 (x.devices.map (enDev.av τ)), .sl τ 3 (x.buckets.map (enBkt.av τ))]] = ⟨(x.devices.length + (x.buckets.length + (x.buckets.map enBkt.tot).sum)) ≤ 1048576, .agg [.sl n 2 (x.devices.map (enDev.av n)), .sl n 3 (x.buckets.map (enBkt.av n))]⟩ := by
  have h := toSem_eq (Ei := enTree) (Eo := enTree) (n := n) (τ := τ) (x := x)
  rw [tot_Tree] at h
  exact h
def c10 : SCode := (.seq (.reg [⟨(some 1), .box 25 (.tmp 0), none⟩,
   ⟨(some 2), .alloc 39, none⟩])
(.seq (.reg [⟨(some 3), .alloc 39, none⟩])
 (.seq (.reg [⟨(some 4), .fieldAddr 25 (.tmp 1) 0, none⟩,
     ⟨(some 5), .load 22 (.tmp 4), none⟩,
     ⟨(some 6), .call ⟨(.value (.func 48)), #[(.tmp 5)], #[22]⟩, none⟩,
     ⟨(some 7), .fieldAddr 39 (.tmp 3) 0, none⟩,
     ⟨none, .store 36 (.tmp 7) (.tmp 6), none⟩])
  (.seq (.reg [⟨(some 8), .fieldAddr 25 (.tmp 1) 1, none⟩,
      ⟨(some 9), .load 23 (.tmp 8), none⟩,
      ⟨(some 10), .call ⟨(.value (.func 49)), #[(.tmp 9)], #[23]⟩, none⟩,
      ⟨(some 11), .fieldAddr 39 (.tmp 3) 1, none⟩,
      ⟨none, .store 37 (.tmp 11) (.tmp 10), none⟩])
   (.seq (.reg [⟨(some 12), .load 39 (.tmp 3), none⟩,
       ⟨none, .store 39 (.tmp 2) (.tmp 12), none⟩])
    .ret)))))
theorem s10 : slimF Tryz.f10 = some (c10, [.c 2 39], 13) := by kernel_rfl
theorem o10 : okF [(48, g48), (49, g49)] Tryz.f10 = true := by kernel_rfl
theorem p10 : Pure Tryz.prog 10 g10 := by
  refine semOf_pure fun ⟨τ, x⟩ n h2 hb => ?_
  have hT : Table Tryz.prog [(48, g48), (49, g49)] := (.cons p48 (.cons p49 .nil))
  refine SatP.of_body hT hm Tryz.func10 s10 o10 h2 (by simp) ?_
  have hb' : (x.devices.length + (x.buckets.length + (x.buckets.map enBkt.tot).sum)) ≤ 1048576 := by
    have := hb
    simp only [tot_Tree] at this
    exact this
  have hn0 : n ≠ 0 := by omega
  simp (config := {maxSteps := 4000000, implicitDefEqProofs := false}) [c10, go_sem, hn0]
  all_goals omega
noncomputable def g11 : Fsem := toSem enRule enRule
@[go_sem] theorem g11_eq {n : Nat} {x : Rule} : g11 n [.agg [.int .i64 x.id, .int .i64 x.root, .int .i64 x.kind, .bool x.indep]] = ⟨0 ≤ 1048576, .agg [.int .i64 x.id, .int .i64 x.root, .int .i64 x.kind, .bool x.indep]⟩ := by
  have h := toSem_eq (Ei := enRule) (Eo := enRule) (n := n) (τ := 0) (x := x)
  rw [tot_Rule] at h
  exact h
def c11 : SCode := (.seq (.reg [⟨(some 1), .box 27 (.tmp 0), none⟩,
   ⟨(some 2), .alloc 41, none⟩])
(.seq (.reg [⟨(some 3), .alloc 41, none⟩])
 (.seq (.reg [⟨(some 4), .fieldAddr 27 (.tmp 1) 0, none⟩,
     ⟨(some 5), .load 2 (.tmp 4), none⟩,
     ⟨(some 6), .fieldAddr 41 (.tmp 3) 0, none⟩,
     ⟨none, .store 2 (.tmp 6) (.tmp 5), none⟩])
  (.seq (.reg [⟨(some 7), .fieldAddr 27 (.tmp 1) 1, none⟩,
      ⟨(some 8), .load 2 (.tmp 7), none⟩,
      ⟨(some 9), .fieldAddr 41 (.tmp 3) 1, none⟩,
      ⟨none, .store 2 (.tmp 9) (.tmp 8), none⟩])
   (.seq (.reg [⟨(some 10), .fieldAddr 27 (.tmp 1) 2, none⟩,
       ⟨(some 11), .load 2 (.tmp 10), none⟩,
       ⟨(some 12), .fieldAddr 41 (.tmp 3) 2, none⟩,
       ⟨none, .store 2 (.tmp 12) (.tmp 11), none⟩])
    (.seq (.reg [⟨(some 13), .fieldAddr 27 (.tmp 1) 3, none⟩,
        ⟨(some 14), .load 4 (.tmp 13), none⟩,
        ⟨(some 15), .fieldAddr 41 (.tmp 3) 3, none⟩,
        ⟨none, .store 4 (.tmp 15) (.tmp 14), none⟩])
     (.seq (.reg [⟨(some 16), .load 41 (.tmp 3), none⟩,
         ⟨none, .store 41 (.tmp 2) (.tmp 16), none⟩])
      .ret)))))))
theorem s11 : slimF Tryz.f11 = some (c11, [.c 2 41], 17) := by kernel_rfl
theorem o11 : okF [] Tryz.f11 = true := by kernel_rfl
theorem p11 : Pure Tryz.prog 11 g11 := by
  refine semOf_pure fun ⟨τ, x⟩ n h2 hb => ?_
  have hT : Table Tryz.prog [] := .nil
  refine SatP.of_body hT hm Tryz.func11 s11 o11 h2 (by simp) ?_
  have hb' : 0 ≤ 1048576 := by
    have := hb
    simp only [tot_Rule] at this
    exact this
  have hn0 : n ≠ 0 := by omega
  simp (config := {maxSteps := 4000000, implicitDefEqProofs := false}) [c11, go_sem, hn0]
  all_goals omega
noncomputable def g13 : Fsem := toSem enPg enPg
@[go_sem] theorem g13_eq {n : Nat} {x : Pg} : g13 n [.agg [.int .i64 x.pool, .int .i64 x.no]] = ⟨0 ≤ 1048576, .agg [.int .i64 x.pool, .int .i64 x.no]⟩ := by
  have h := toSem_eq (Ei := enPg) (Eo := enPg) (n := n) (τ := 0) (x := x)
  rw [tot_Pg] at h
  exact h
def c13 : SCode := (.seq (.reg [⟨(some 1), .box 30 (.tmp 0), none⟩,
   ⟨(some 2), .alloc 44, none⟩])
(.seq (.reg [⟨(some 3), .alloc 44, none⟩])
 (.seq (.reg [⟨(some 4), .fieldAddr 30 (.tmp 1) 0, none⟩,
     ⟨(some 5), .load 2 (.tmp 4), none⟩,
     ⟨(some 6), .fieldAddr 44 (.tmp 3) 0, none⟩,
     ⟨none, .store 2 (.tmp 6) (.tmp 5), none⟩])
  (.seq (.reg [⟨(some 7), .fieldAddr 30 (.tmp 1) 1, none⟩,
      ⟨(some 8), .load 2 (.tmp 7), none⟩,
      ⟨(some 9), .fieldAddr 44 (.tmp 3) 1, none⟩,
      ⟨none, .store 2 (.tmp 9) (.tmp 8), none⟩])
   (.seq (.reg [⟨(some 10), .load 44 (.tmp 3), none⟩,
       ⟨none, .store 44 (.tmp 2) (.tmp 10), none⟩])
    .ret)))))
theorem s13 : slimF Tryz.f13 = some (c13, [.c 2 44], 11) := by kernel_rfl
theorem o13 : okF [] Tryz.f13 = true := by kernel_rfl
theorem p13 : Pure Tryz.prog 13 g13 := by
  refine semOf_pure fun ⟨τ, x⟩ n h2 hb => ?_
  have hT : Table Tryz.prog [] := .nil
  refine SatP.of_body hT hm Tryz.func13 s13 o13 h2 (by simp) ?_
  have hb' : 0 ≤ 1048576 := by
    have := hb
    simp only [tot_Pg] at this
    exact this
  have hn0 : n ≠ 0 := by omega
  simp (config := {maxSteps := 4000000, implicitDefEqProofs := false}) [c13, go_sem, hn0]
  all_goals omega
noncomputable def g50 : Fsem := toSem enExc enExc
def c50 : SCode := (.seq (.reg [⟨(some 1), .box 96 (.tmp 0), none⟩,
   ⟨(some 2), .alloc 93, none⟩])
(.seq (.reg [⟨(some 3), .alloc 93, none⟩])
 (.seq (.reg [⟨(some 4), .fieldAddr 96 (.tmp 1) 0, none⟩,
     ⟨(some 5), .load 30 (.tmp 4), none⟩,
     ⟨(some 6), .call ⟨(.value (.func 13)), #[(.tmp 5)], #[30]⟩, none⟩,
     ⟨(some 7), .fieldAddr 93 (.tmp 3) 0, none⟩,
     ⟨none, .store 44 (.tmp 7) (.tmp 6), none⟩])
  (.seq (.reg [⟨(some 8), .fieldAddr 96 (.tmp 1) 1, none⟩,
      ⟨(some 9), .load 2 (.tmp 8), none⟩,
      ⟨(some 10), .fieldAddr 93 (.tmp 3) 1, none⟩,
      ⟨none, .store 2 (.tmp 10) (.tmp 9), none⟩])
   (.seq (.reg [⟨(some 11), .fieldAddr 96 (.tmp 1) 2, none⟩,
       ⟨(some 12), .load 2 (.tmp 11), none⟩,
       ⟨(some 13), .fieldAddr 93 (.tmp 3) 2, none⟩,
       ⟨none, .store 2 (.tmp 13) (.tmp 12), none⟩])
    (.seq (.reg [⟨(some 14), .load 93 (.tmp 3), none⟩,
        ⟨none, .store 93 (.tmp 2) (.tmp 14), none⟩])
     .ret))))))
theorem s50 : slimF Tryz.f50 = some (c50, [.c 2 93], 15) := by kernel_rfl
theorem o50 : okF [(13, g13)] Tryz.f50 = true := by kernel_rfl
theorem p50 : Pure Tryz.prog 50 g50 := by
  refine semOf_pure fun ⟨τ, x⟩ n h2 hb => ?_
  have hT : Table Tryz.prog [(13, g13)] := (.cons p13 .nil)
  refine SatP.of_body hT hm Tryz.func50 s50 o50 h2 (by simp) ?_
  have hb' : 0 ≤ 1048576 := by
    have := hb
    simp only [tot_Exc] at this
    exact this
  have hn0 : n ≠ 0 := by omega
  simp (config := {maxSteps := 4000000, implicitDefEqProofs := false}) [c50, go_sem, hn0]
  all_goals omega
noncomputable def g14 : Fsem := toSem enExc.list enExc.list
@[go_sem] theorem g14_eq {n τ : Nat} {x : List Exc} : g14 n [.sl τ 4 (x.map (enExc.av τ))] = ⟨x.length ≤ 1048576, .sl n 4 (x.map (enExc.av n))⟩ := by
  have h := toSem_eq (Ei := enExc.list) (Eo := enExc.list) (n := n) (τ := τ) (x := x)
  rw [tot_list, sum_flat (E := enExc) (fun x => tot_Exc), Nat.add_zero] at h
  exact h
theorem s14 : slimF Tryz.f14 = some (toDeepC 3 31 46 96 93 50, [.t 2], 23) := by kernel_rfl
theorem o14 : okF [(50, g50)] Tryz.f14 = true := by kernel_rfl
theorem p14 : Pure Tryz.prog 14 g14 := toDeep_ok hm Tryz.func14 s14 o14 (by omega) ty_31 ty_46 fit_96 fitz_93 p50 (fun n τ x => toSem_eq)
noncomputable def g16 : Fsem := eqSem (En.int .i64).list (En.int .i64).list
@[go_sem] theorem g16_eq {n τ τ' : Nat} {x y : List Int} : g16 n [.sl τ 1 (x.map (AV.int .i64)), .sl τ' 1 (y.map (AV.int .i64))] = ⟨True, .bool (eqB x y)⟩ := eqSem_eq (E := (En.int .i64).list) (E' := (En.int .i64).list) (n := n) (τ := τ) (τ' := τ') (x := x) (y := y)
theorem s16 : slimF Tryz.f16 = some (eqFlatC 3 28 2, [.t 4], 26) := by kernel_rfl
theorem o16 : okF [] Tryz.f16 = true := by kernel_rfl
theorem p16 : Pure Tryz.prog 16 g16 := eqFlat_ok hm Tryz.func16 s16 o16 (by omega) ty_28 (fite_2) (fite_2) (fun τ x τ' x' => by simp [go_sem, eqB_dec])
noncomputable def g115 : Fsem := eqSem enDev enDev
def c115 : SCode := (.seq (.reg [⟨(some 2), .box 135 (.tmp 0), none⟩,
   ⟨(some 3), .box 135 (.tmp 1), none⟩,
   ⟨(some 4), .assign (.const (.bool false)), none⟩])
(.seq (.seq (.reg [⟨(some 5), .fieldAddr 135 (.tmp 2) 0, none⟩,
     ⟨(some 6), .load 2 (.tmp 5), none⟩,
     ⟨(some 7), .fieldAddr 135 (.tmp 3) 0, none⟩,
     ⟨(some 8), .load 2 (.tmp 7), none⟩,
     ⟨(some 9), .binOp .neq 2 (.tmp 6) (.tmp 8) 2, none⟩])
  (.cond (.tmp 9) (.seq (.reg [⟨(some 4), .assign (.const (.bool false)), none⟩])
    .ret)
   .skip))
 (.seq (.seq (.reg [⟨(some 10), .fieldAddr 135 (.tmp 2) 1, none⟩,
      ⟨(some 11), .load 2 (.tmp 10), none⟩,
      ⟨(some 12), .fieldAddr 135 (.tmp 3) 1, none⟩,
      ⟨(some 13), .load 2 (.tmp 12), none⟩,
      ⟨(some 14), .binOp .neq 2 (.tmp 11) (.tmp 13) 2, none⟩])
   (.cond (.tmp 14) (.seq (.reg [⟨(some 4), .assign (.const (.bool false)), none⟩])
     .ret)
    .skip))
  (.seq (.reg [⟨(some 4), .assign (.const (.bool true)), none⟩])
   .ret))))
theorem s115 : slimF Tryz.f115 = some (c115, [.t 4], 15) := by kernel_rfl
theorem o115 : okF [] Tryz.f115 = true := by kernel_rfl
theorem p115 : Pure Tryz.prog 115 g115 := by
  refine semOf_pure fun ⟨τ, τ', x, y⟩ n h2 _ => ?_
  have hT : Table Tryz.prog [] := .nil
  refine SatP.of_body hT hm Tryz.func115 s115 o115 h2 (by simp) ?_
  rcases Bool.eq_false_or_eq_true (eqB x y) with hxy | hxy
  · rw [hxy]
    have h := eqB_iff.1 hxy
    subst h
    simp (config := {contextual := true, maxSteps := 4000000, implicitDefEqProofs := false}) [c115, go_sem, eqB_iff, eqB_not]
  · rw [hxy]
    have h := eqB_not.1 hxy
    rw [eq_Dev] at h
    simp (config := {contextual := true, maxSteps := 4000000, implicitDefEqProofs := false}) [c115, go_sem, eqB_iff, eqB_not]
    simpa using h
noncomputable def g55 : Fsem := eqSem enDev.list enDev.list
@[go_sem] theorem g55_eq {n τ τ' : Nat} {x y : List Dev} : g55 n [.sl τ 2 (x.map (enDev.av τ)), .sl τ' 2 (y.map (enDev.av τ'))] = ⟨True, .bool (eqB x y)⟩ := eqSem_eq (E := enDev.list) (E' := enDev.list) (n := n) (τ := τ) (τ' := τ') (x := x) (y := y)
theorem s55 : slimF Tryz.f55 = some (eqDeepC 3 4 36 135 115, [.t 4], 27) := by kernel_rfl
theorem o55 : okF [(115, g115)] Tryz.f55 = true := by kernel_rfl
theorem p55 : Pure Tryz.prog 55 g55 := eqDeep_ok hm Tryz.func55 s55 o55 (by omega) ty_36 fit_135 fit_135 p115 (fun n τ x τ' x' => eqSem_eq)
noncomputable def g116 : Fsem := eqSem enBkt enBkt
def c116 : SCode := (.seq (.reg [⟨(some 2), .box 125 (.tmp 0), none⟩,
   ⟨(some 3), .box 125 (.tmp 1), none⟩,
   ⟨(some 4), .assign (.const (.bool false)), none⟩])
(.seq (.seq (.reg [⟨(some 5), .fieldAddr 125 (.tmp 2) 0, none⟩,
     ⟨(some 6), .load 2 (.tmp 5), none⟩,
     ⟨(some 7), .fieldAddr 125 (.tmp 3) 0, none⟩,
     ⟨(some 8), .load 2 (.tmp 7), none⟩,
     ⟨(some 9), .binOp .neq 2 (.tmp 6) (.tmp 8) 2, none⟩])
  (.cond (.tmp 9) (.seq (.reg [⟨(some 4), .assign (.const (.bool false)), none⟩])
    .ret)
   .skip))
 (.seq (.seq (.reg [⟨(some 10), .fieldAddr 125 (.tmp 2) 1, none⟩,
      ⟨(some 11), .load 2 (.tmp 10), none⟩,
      ⟨(some 12), .fieldAddr 125 (.tmp 3) 1, none⟩,
      ⟨(some 13), .load 2 (.tmp 12), none⟩,
      ⟨(some 14), .binOp .neq 2 (.tmp 11) (.tmp 13) 2, none⟩])
   (.cond (.tmp 14) (.seq (.reg [⟨(some 4), .assign (.const (.bool false)), none⟩])
     .ret)
    .skip))
  (.seq (.seq (.reg [⟨(some 15), .fieldAddr 125 (.tmp 2) 2, none⟩,
       ⟨(some 16), .load 28 (.tmp 15), none⟩,
       ⟨(some 17), .fieldAddr 125 (.tmp 3) 2, none⟩,
       ⟨(some 18), .load 28 (.tmp 17), none⟩,
       ⟨(some 19), .call ⟨(.value (.func 16)), #[(.tmp 16), (.tmp 18)], #[28, 28]⟩, none⟩,
       ⟨(some 20), .unOp .not 4 (.tmp 19), none⟩])
    (.cond (.tmp 20) (.seq (.reg [⟨(some 4), .assign (.const (.bool false)), none⟩])
      .ret)
     .skip))
   (.seq (.reg [⟨(some 4), .assign (.const (.bool true)), none⟩])
    .ret)))))
theorem s116 : slimF Tryz.f116 = some (c116, [.t 4], 21) := by kernel_rfl
theorem o116 : okF [(16, g16)] Tryz.f116 = true := by kernel_rfl
theorem p116 : Pure Tryz.prog 116 g116 := by
  refine semOf_pure fun ⟨τ, τ', x, y⟩ n h2 _ => ?_
  have hT : Table Tryz.prog [(16, g16)] := (.cons p16 .nil)
  refine SatP.of_body hT hm Tryz.func116 s116 o116 h2 (by simp) ?_
  rcases Bool.eq_false_or_eq_true (eqB x y) with hxy | hxy
  · rw [hxy]
    have h := eqB_iff.1 hxy
    subst h
    simp (config := {contextual := true, maxSteps := 4000000, implicitDefEqProofs := false}) [c116, go_sem, eqB_iff, eqB_not]
  · rw [hxy]
    have h := eqB_not.1 hxy
    rw [eq_Bkt] at h
    simp (config := {contextual := true, maxSteps := 4000000, implicitDefEqProofs := false}) [c116, go_sem, eqB_iff, eqB_not]
    simpa using h
noncomputable def g56 : Fsem := eqSem enBkt.list enBkt.list
@[go_sem] theorem g56_eq {n τ τ' : Nat} {x y : List Bkt} : g56 n [.sl τ 3 (x.map (enBkt.av τ)), .sl τ' 3 (y.map (enBkt.av τ'))] = ⟨True, .bool (eqB x y)⟩ := eqSem_eq (E := enBkt.list) (E' := enBkt.list) (n := n) (τ := τ) (τ' := τ') (x := x) (y := y)
theorem s56 : slimF Tryz.f56 = some (eqDeepC 3 4 37 125 116, [.t 4], 27) := by kernel_rfl
theorem o56 : okF [(116, g116)] Tryz.f56 = true := by kernel_rfl
theorem p56 : Pure Tryz.prog 56 g56 := eqDeep_ok hm Tryz.func56 s56 o56 (by omega) ty_37 fit_125 fit_125 p116 (fun n τ x τ' x' => eqSem_eq)
noncomputable def g17 : Fsem := eqSem enTree enTree
@[go_sem] theorem g17_eq {n τ τ' : Nat} {x y : Tree} : g17 n [.agg [.sl τ 2 (x.devices.map (enDev.av τ)), .sl τ 3 (x.buckets.map (enBkt.av τ))], .agg [.sl τ' 2 (y.devices.map (enDev.av τ')), .sl τ' 3 (y.buckets.map (enBkt.av τ'))]] = ⟨True, .bool (eqB x y)⟩ := eqSem_eq (E := enTree) (E' := enTree) (n := n) (τ := τ) (τ' := τ') (x := x) (y := y)
def c17 : SCode := (.seq (.reg [⟨(some 2), .box 39 (.tmp 0), none⟩,
   ⟨(some 3), .box 39 (.tmp 1), none⟩,
   ⟨(some 4), .assign (.const (.bool false)), none⟩])
(.seq (.seq (.reg [⟨(some 5), .fieldAddr 39 (.tmp 2) 0, none⟩,
     ⟨(some 6), .load 36 (.tmp 5), none⟩,
     ⟨(some 7), .fieldAddr 39 (.tmp 3) 0, none⟩,
     ⟨(some 8), .load 36 (.tmp 7), none⟩,
     ⟨(some 9), .call ⟨(.value (.func 55)), #[(.tmp 6), (.tmp 8)], #[36, 36]⟩, none⟩,
     ⟨(some 10), .unOp .not 4 (.tmp 9), none⟩])
  (.cond (.tmp 10) (.seq (.reg [⟨(some 4), .assign (.const (.bool false)), none⟩])
    .ret)
   .skip))
 (.seq (.seq (.reg [⟨(some 11), .fieldAddr 39 (.tmp 2) 1, none⟩,
      ⟨(some 12), .load 37 (.tmp 11), none⟩,
      ⟨(some 13), .fieldAddr 39 (.tmp 3) 1, none⟩,
      ⟨(some 14), .load 37 (.tmp 13), none⟩,
      ⟨(some 15), .call ⟨(.value (.func 56)), #[(.tmp 12), (.tmp 14)], #[37, 37]⟩, none⟩,
      ⟨(some 16), .unOp .not 4 (.tmp 15), none⟩])
   (.cond (.tmp 16) (.seq (.reg [⟨(some 4), .assign (.const (.bool false)), none⟩])
     .ret)
    .skip))
  (.seq (.reg [⟨(some 4), .assign (.const (.bool true)), none⟩])
   .ret))))
theorem s17 : slimF Tryz.f17 = some (c17, [.t 4], 17) := by kernel_rfl
theorem o17 : okF [(55, g55), (56, g56)] Tryz.f17 = true := by kernel_rfl
theorem p17 : Pure Tryz.prog 17 g17 := by
  refine semOf_pure fun ⟨τ, τ', x, y⟩ n h2 _ => ?_
  have hT : Table Tryz.prog [(55, g55), (56, g56)] := (.cons p55 (.cons p56 .nil))
  refine SatP.of_body hT hm Tryz.func17 s17 o17 h2 (by simp) ?_
  rcases Bool.eq_false_or_eq_true (eqB x y) with hxy | hxy
  · rw [hxy]
    have h := eqB_iff.1 hxy
    subst h
    simp (config := {contextual := true, maxSteps := 4000000, implicitDefEqProofs := false}) [c17, go_sem, eqB_iff, eqB_not]
  · rw [hxy]
    have h := eqB_not.1 hxy
    rw [eq_Tree] at h
    simp (config := {contextual := true, maxSteps := 4000000, implicitDefEqProofs := false}) [c17, go_sem, eqB_iff, eqB_not]
    simpa using h
noncomputable def g117 : Fsem := eqSem enPg enPg
@[go_sem] theorem g117_eq {n : Nat} {x y : Pg} : g117 n [.agg [.int .i64 x.pool, .int .i64 x.no], .agg [.int .i64 y.pool, .int .i64 y.no]] = ⟨True, .bool (eqB x y)⟩ := eqSem_eq (E := enPg) (E' := enPg) (n := n) (τ := 0) (τ' := 0) (x := x) (y := y)
def c117 : SCode := (.seq (.reg [⟨(some 2), .box 44 (.tmp 0), none⟩,
   ⟨(some 3), .box 44 (.tmp 1), none⟩,
   ⟨(some 4), .assign (.const (.bool false)), none⟩])
(.seq (.seq (.reg [⟨(some 5), .fieldAddr 44 (.tmp 2) 0, none⟩,
     ⟨(some 6), .load 2 (.tmp 5), none⟩,
     ⟨(some 7), .fieldAddr 44 (.tmp 3) 0, none⟩,
     ⟨(some 8), .load 2 (.tmp 7), none⟩,
     ⟨(some 9), .binOp .neq 2 (.tmp 6) (.tmp 8) 2, none⟩])
  (.cond (.tmp 9) (.seq (.reg [⟨(some 4), .assign (.const (.bool false)), none⟩])
    .ret)
   .skip))
 (.seq (.seq (.reg [⟨(some 10), .fieldAddr 44 (.tmp 2) 1, none⟩,
      ⟨(some 11), .load 2 (.tmp 10), none⟩,
      ⟨(some 12), .fieldAddr 44 (.tmp 3) 1, none⟩,
      ⟨(some 13), .load 2 (.tmp 12), none⟩,
      ⟨(some 14), .binOp .neq 2 (.tmp 11) (.tmp 13) 2, none⟩])
   (.cond (.tmp 14) (.seq (.reg [⟨(some 4), .assign (.const (.bool false)), none⟩])
     .ret)
    .skip))
  (.seq (.reg [⟨(some 4), .assign (.const (.bool true)), none⟩])
   .ret))))
theorem s117 : slimF Tryz.f117 = some (c117, [.t 4], 15) := by kernel_rfl
theorem o117 : okF [] Tryz.f117 = true := by kernel_rfl
theorem p117 : Pure Tryz.prog 117 g117 := by
  refine semOf_pure fun ⟨τ, τ', x, y⟩ n h2 _ => ?_
  have hT : Table Tryz.prog [] := .nil
  refine SatP.of_body hT hm Tryz.func117 s117 o117 h2 (by simp) ?_
  rcases Bool.eq_false_or_eq_true (eqB x y) with hxy | hxy
  · rw [hxy]
    have h := eqB_iff.1 hxy
    subst h
    simp (config := {contextual := true, maxSteps := 4000000, implicitDefEqProofs := false}) [c117, go_sem, eqB_iff, eqB_not]
  · rw [hxy]
    have h := eqB_not.1 hxy
    rw [eq_Pg] at h
    simp (config := {contextual := true, maxSteps := 4000000, implicitDefEqProofs := false}) [c117, go_sem, eqB_iff, eqB_not]
    simpa using h
noncomputable def g57 : Fsem := eqSem enExc enExc
def c57 : SCode := (.seq (.reg [⟨(some 2), .box 93 (.tmp 0), none⟩,
   ⟨(some 3), .box 93 (.tmp 1), none⟩,
   ⟨(some 4), .assign (.const (.bool false)), none⟩])
(.seq (.seq (.reg [⟨(some 5), .fieldAddr 93 (.tmp 2) 0, none⟩,
     ⟨(some 6), .load 44 (.tmp 5), none⟩,
     ⟨(some 7), .fieldAddr 93 (.tmp 3) 0, none⟩,
     ⟨(some 8), .load 44 (.tmp 7), none⟩,
     ⟨(some 9), .call ⟨(.value (.func 117)), #[(.tmp 6), (.tmp 8)], #[44, 44]⟩, none⟩,
     ⟨(some 10), .unOp .not 4 (.tmp 9), none⟩])
  (.cond (.tmp 10) (.seq (.reg [⟨(some 4), .assign (.const (.bool false)), none⟩])
    .ret)
   .skip))
 (.seq (.seq (.reg [⟨(some 11), .fieldAddr 93 (.tmp 2) 1, none⟩,
      ⟨(some 12), .load 2 (.tmp 11), none⟩,
      ⟨(some 13), .fieldAddr 93 (.tmp 3) 1, none⟩,
      ⟨(some 14), .load 2 (.tmp 13), none⟩,
      ⟨(some 15), .binOp .neq 2 (.tmp 12) (.tmp 14) 2, none⟩])
   (.cond (.tmp 15) (.seq (.reg [⟨(some 4), .assign (.const (.bool false)), none⟩])
     .ret)
    .skip))
  (.seq (.seq (.reg [⟨(some 16), .fieldAddr 93 (.tmp 2) 2, none⟩,
       ⟨(some 17), .load 2 (.tmp 16), none⟩,
       ⟨(some 18), .fieldAddr 93 (.tmp 3) 2, none⟩,
       ⟨(some 19), .load 2 (.tmp 18), none⟩,
       ⟨(some 20), .binOp .neq 2 (.tmp 17) (.tmp 19) 2, none⟩])
    (.cond (.tmp 20) (.seq (.reg [⟨(some 4), .assign (.const (.bool false)), none⟩])
      .ret)
     .skip))
   (.seq (.reg [⟨(some 4), .assign (.const (.bool true)), none⟩])
    .ret)))))
theorem s57 : slimF Tryz.f57 = some (c57, [.t 4], 21) := by kernel_rfl
theorem o57 : okF [(117, g117)] Tryz.f57 = true := by kernel_rfl
theorem p57 : Pure Tryz.prog 57 g57 := by
  refine semOf_pure fun ⟨τ, τ', x, y⟩ n h2 _ => ?_
  have hT : Table Tryz.prog [(117, g117)] := (.cons p117 .nil)
  refine SatP.of_body hT hm Tryz.func57 s57 o57 h2 (by simp) ?_
  rcases Bool.eq_false_or_eq_true (eqB x y) with hxy | hxy
  · rw [hxy]
    have h := eqB_iff.1 hxy
    subst h
    simp (config := {contextual := true, maxSteps := 4000000, implicitDefEqProofs := false}) [c57, go_sem, eqB_iff, eqB_not]
  · rw [hxy]
    have h := eqB_not.1 hxy
    rw [eq_Exc] at h
    simp (config := {contextual := true, maxSteps := 4000000, implicitDefEqProofs := false}) [c57, go_sem, eqB_iff, eqB_not]
    simpa using h
noncomputable def g18 : Fsem := eqSem enExc.list enExc.list
@[go_sem] theorem g18_eq {n τ τ' : Nat} {x y : List Exc} : g18 n [.sl τ 4 (x.map (enExc.av τ)), .sl τ' 4 (y.map (enExc.av τ'))] = ⟨True, .bool (eqB x y)⟩ := eqSem_eq (E := enExc.list) (E' := enExc.list) (n := n) (τ := τ) (τ' := τ') (x := x) (y := y)
theorem s18 : slimF Tryz.f18 = some (eqDeepC 3 4 46 93 57, [.t 4], 27) := by kernel_rfl
theorem o18 : okF [(57, g57)] Tryz.f18 = true := by kernel_rfl
theorem p18 : Pure Tryz.prog 18 g18 := eqDeep_ok hm Tryz.func18 s18 o18 (by omega) ty_46 fit_93 fit_93 p57 (fun n τ x τ' x' => eqSem_eq)
noncomputable def g60 : Fsem := szSem enRule.list
@[go_sem] theorem g60_eq {n τ : Nat} {x : List Rule} {b : Int} : g60 n [.sl τ 4 (x.map (enRule.av τ)), .int .i64 b] = ⟨0 ≤ b ∧ b ≤ bigB, .int .i64 (szR b x.length)⟩ := by
  have h := szSem_eq (E := enRule.list) (n := n) (τ := τ) (x := x) (b := b)
  rw [tot_list, sum_flat (E := enRule) (fun x => tot_Rule), Nat.add_zero] at h
  exact h
theorem s60 : slimF Tryz.f60 = some (szFlatC 3 55, [.t 4], 12) := by kernel_rfl
theorem o60 : okF [] Tryz.f60 = true := by kernel_rfl
theorem p60 : Pure Tryz.prog 60 g60 := szFlat_ok hm Tryz.func60 s60 o60 (by omega) ty_55 (fun x => tot_Rule)
noncomputable def g61 : Fsem := szSem enPool.list
@[go_sem] theorem g61_eq {n τ : Nat} {x : List Pool} {b : Int} : g61 n [.sl τ 6 (x.map (enPool.av τ)), .int .i64 b] = ⟨0 ≤ b ∧ b ≤ bigB, .int .i64 (szR b x.length)⟩ := by
  have h := szSem_eq (E := enPool.list) (n := n) (τ := τ) (x := x) (b := b)
  rw [tot_list, sum_flat (E := enPool) (fun x => tot_Pool), Nat.add_zero] at h
  exact h
theorem s61 : slimF Tryz.f61 = some (szFlatC 3 56, [.t 4], 12) := by kernel_rfl
theorem o61 : okF [] Tryz.f61 = true := by kernel_rfl
theorem p61 : Pure Tryz.prog 61 g61 := szFlat_ok hm Tryz.func61 s61 o61 (by omega) ty_56 (fun x => tot_Pool)
noncomputable def g23 : Fsem := szSem enMp
@[go_sem] theorem g23_eq {n τ : Nat} {x : Mp} {b : Int} : g23 n [.agg [.int .i64 x.epoch, .int .i64 x.term, .sl τ 2 (x.tree.devices.map (enDev.av τ)), .sl τ 3 (x.tree.buckets.map (enBkt.av τ)), .sl τ 4 (x.rules.map (enRule.av τ)), .sl τ 6 (x.pools.map (enPool.av τ)), .sl τ 1 (x.up.map (AV.int .i64)), .sl τ 1 (x.out.map (AV.int .i64))], .int .i64 b] = ⟨0 ≤ b ∧ b ≤ bigB, .int .i64 (szR b (((x.tree.devices.length + (x.tree.buckets.length + (x.tree.buckets.map enBkt.tot).sum)) + x.rules.length + x.pools.length + x.up.length + x.out.length)))⟩ := by
  have h := szSem_eq (E := enMp) (n := n) (τ := τ) (x := x) (b := b)
  rw [tot_Mp] at h
  exact h
def c23 : SCode := (.seq (.reg [⟨(some 2), .box 58 (.tmp 0), none⟩,
   ⟨(some 4), .assign (.const (.int .i64 0)), none⟩])
(.seq (.reg [⟨(some 5), .fieldAddr 58 (.tmp 2) 2, none⟩,
    ⟨(some 6), .load 25 (.tmp 5), none⟩,
    ⟨(some 7), .move (.tmp 1), none⟩,
    ⟨(some 8), .call ⟨(.value (.func 7)), #[(.tmp 6), (.tmp 7)], #[25, 3]⟩, none⟩,
    ⟨(some 1), .assign (.tmp 8), none⟩])
 (.seq (.seq (.reg [⟨(some 9), .move (.tmp 1), none⟩,
      ⟨(some 10), .binOp .lss 3 (.tmp 9) (.const (.int .i64 0)) 3, none⟩])
   (.cond (.tmp 10) (.seq (.reg [⟨(some 4), .assign (.const (.int .i64 (-1))), none⟩])
     .ret)
    .skip))
  (.seq (.reg [⟨(some 11), .fieldAddr 58 (.tmp 2) 3, none⟩,
      ⟨(some 12), .load 55 (.tmp 11), none⟩,
      ⟨(some 13), .move (.tmp 1), none⟩,
      ⟨(some 14), .call ⟨(.value (.func 60)), #[(.tmp 12), (.tmp 13)], #[55, 3]⟩, none⟩,
      ⟨(some 1), .assign (.tmp 14), none⟩])
   (.seq (.seq (.reg [⟨(some 15), .move (.tmp 1), none⟩,
        ⟨(some 16), .binOp .lss 3 (.tmp 15) (.const (.int .i64 0)) 3, none⟩])
     (.cond (.tmp 16) (.seq (.reg [⟨(some 4), .assign (.const (.int .i64 (-1))), none⟩])
       .ret)
      .skip))
    (.seq (.reg [⟨(some 17), .fieldAddr 58 (.tmp 2) 4, none⟩,
        ⟨(some 18), .load 56 (.tmp 17), none⟩,
        ⟨(some 19), .move (.tmp 1), none⟩,
        ⟨(some 20), .call ⟨(.value (.func 61)), #[(.tmp 18), (.tmp 19)], #[56, 3]⟩, none⟩,
        ⟨(some 1), .assign (.tmp 20), none⟩])
     (.seq (.seq (.reg [⟨(some 21), .move (.tmp 1), none⟩,
          ⟨(some 22), .binOp .lss 3 (.tmp 21) (.const (.int .i64 0)) 3, none⟩])
       (.cond (.tmp 22) (.seq (.reg [⟨(some 4), .assign (.const (.int .i64 (-1))), none⟩])
         .ret)
        .skip))
      (.seq (.reg [⟨(some 23), .fieldAddr 58 (.tmp 2) 5, none⟩,
          ⟨(some 24), .load 28 (.tmp 23), none⟩,
          ⟨(some 25), .move (.tmp 1), none⟩,
          ⟨(some 26), .call ⟨(.value (.func 62)), #[(.tmp 24), (.tmp 25)], #[28, 3]⟩, none⟩,
          ⟨(some 1), .assign (.tmp 26), none⟩])
       (.seq (.seq (.reg [⟨(some 27), .move (.tmp 1), none⟩,
            ⟨(some 28), .binOp .lss 3 (.tmp 27) (.const (.int .i64 0)) 3, none⟩])
         (.cond (.tmp 28) (.seq (.reg [⟨(some 4), .assign (.const (.int .i64 (-1))), none⟩])
           .ret)
          .skip))
        (.seq (.reg [⟨(some 29), .fieldAddr 58 (.tmp 2) 6, none⟩,
            ⟨(some 30), .load 28 (.tmp 29), none⟩,
            ⟨(some 31), .move (.tmp 1), none⟩,
            ⟨(some 32), .call ⟨(.value (.func 62)), #[(.tmp 30), (.tmp 31)], #[28, 3]⟩, none⟩,
            ⟨(some 1), .assign (.tmp 32), none⟩])
         (.seq (.seq (.reg [⟨(some 33), .move (.tmp 1), none⟩,
              ⟨(some 34), .binOp .lss 3 (.tmp 33) (.const (.int .i64 0)) 3, none⟩])
           (.cond (.tmp 34) (.seq (.reg [⟨(some 4), .assign (.const (.int .i64 (-1))), none⟩])
             .ret)
            .skip))
          (.seq (.reg [⟨(some 35), .move (.tmp 1), none⟩,
              ⟨(some 4), .assign (.tmp 35), none⟩])
           .ret))))))))))))
theorem s23 : slimF Tryz.f23 = some (c23, [.t 4], 36) := by kernel_rfl
theorem o23 : okF [(7, g7), (60, g60), (61, g61), (62, g62)] Tryz.f23 = true := by kernel_rfl
theorem p23 : Pure Tryz.prog 23 g23 := by
  refine semOf_pure fun ⟨τ, x, b⟩ n h2 ⟨hb1, hb2⟩ => ?_
  have hT : Table Tryz.prog [(7, g7), (60, g60), (61, g61), (62, g62)] := (.cons p7 (.cons p60 (.cons p61 (.cons p62 .nil))))
  refine SatP.of_body hT hm Tryz.func23 s23 o23 h2 (by simp) ?_
  simp only [bigB] at hb1 hb2
  simp (config := {contextual := true, maxSteps := 4000000, implicitDefEqProofs := false}) [c23, go_sem, tot_Mp, bigB, hb1, hb2]
  have := szR_spec b ((x.tree.devices.length + (x.tree.buckets.length + (x.tree.buckets.map enBkt.tot).sum)))
  have := szR_spec (szR b ((x.tree.devices.length + (x.tree.buckets.length + (x.tree.buckets.map enBkt.tot).sum)))) x.rules.length
  have := szR_spec (szR (szR b ((x.tree.devices.length + (x.tree.buckets.length + (x.tree.buckets.map enBkt.tot).sum)))) x.rules.length) x.pools.length
  have := szR_spec (szR (szR (szR b ((x.tree.devices.length + (x.tree.buckets.length + (x.tree.buckets.map enBkt.tot).sum)))) x.rules.length) x.pools.length) x.up.length
  have := szR_spec (szR (szR (szR (szR b ((x.tree.devices.length + (x.tree.buckets.length + (x.tree.buckets.map enBkt.tot).sum)))) x.rules.length) x.pools.length) x.up.length) x.out.length
  have := szR_spec b (((x.tree.devices.length + (x.tree.buckets.length + (x.tree.buckets.map enBkt.tot).sum)) + x.rules.length + x.pools.length + x.up.length + x.out.length))
  omega
noncomputable def g66 : Fsem := toSem enRule.list enRule.list
@[go_sem] theorem g66_eq {n τ : Nat} {x : List Rule} : g66 n [.sl τ 4 (x.map (enRule.av τ))] = ⟨x.length ≤ 1048576, .sl n 4 (x.map (enRule.av n))⟩ := by
  have h := toSem_eq (Ei := enRule.list) (Eo := enRule.list) (n := n) (τ := τ) (x := x)
  rw [tot_list, sum_flat (E := enRule) (fun x => tot_Rule), Nat.add_zero] at h
  exact h
theorem s66 : slimF Tryz.f66 = some (toDeepC 3 55 62 27 41 11, [.t 2], 23) := by kernel_rfl
theorem o66 : okF [(11, g11)] Tryz.f66 = true := by kernel_rfl
theorem p66 : Pure Tryz.prog 66 g66 := toDeep_ok hm Tryz.func66 s66 o66 (by omega) ty_55 ty_62 fit_27 fitz_41 p11 (fun n τ x => toSem_eq)
noncomputable def g172 : Fsem := toSem enCode enCode
@[go_sem] theorem g172_eq {n : Nat} {x : Code} : g172 n [.agg [.int .i64 x.k, .int .i64 x.m]] = ⟨0 ≤ 1048576, .agg [.int .i64 x.k, .int .i64 x.m]⟩ := by
  have h := toSem_eq (Ei := enCode) (Eo := enCode) (n := n) (τ := 0) (x := x)
  rw [tot_Code] at h
  exact h
def c172 : SCode := (.seq (.reg [⟨(some 1), .box 158 (.tmp 0), none⟩,
   ⟨(some 2), .alloc 150, none⟩])
(.seq (.reg [⟨(some 3), .alloc 150, none⟩])
 (.seq (.reg [⟨(some 4), .fieldAddr 158 (.tmp 1) 0, none⟩,
     ⟨(some 5), .load 2 (.tmp 4), none⟩,
     ⟨(some 6), .fieldAddr 150 (.tmp 3) 0, none⟩,
     ⟨none, .store 2 (.tmp 6) (.tmp 5), none⟩])
  (.seq (.reg [⟨(some 7), .fieldAddr 158 (.tmp 1) 1, none⟩,
      ⟨(some 8), .load 2 (.tmp 7), none⟩,
      ⟨(some 9), .fieldAddr 150 (.tmp 3) 1, none⟩,
      ⟨none, .store 2 (.tmp 9) (.tmp 8), none⟩])
   (.seq (.reg [⟨(some 10), .load 150 (.tmp 3), none⟩,
       ⟨none, .store 150 (.tmp 2) (.tmp 10), none⟩])
    .ret)))))
theorem s172 : slimF Tryz.f172 = some (c172, [.c 2 150], 11) := by kernel_rfl
theorem o172 : okF [] Tryz.f172 = true := by kernel_rfl
theorem p172 : Pure Tryz.prog 172 g172 := by
  refine semOf_pure fun ⟨τ, x⟩ n h2 hb => ?_
  have hT : Table Tryz.prog [] := .nil
  refine SatP.of_body hT hm Tryz.func172 s172 o172 h2 (by simp) ?_
  have hb' : 0 ≤ 1048576 := by
    have := hb
    simp only [tot_Code] at this
    exact this
  have hn0 : n ≠ 0 := by omega
  simp (config := {maxSteps := 4000000, implicitDefEqProofs := false}) [c172, go_sem, hn0]
  all_goals omega
noncomputable def g127 : Fsem := toSem enPool enPool
def c127 : SCode := (.seq (.reg [⟨(some 1), .box 160 (.tmp 0), none⟩,
   ⟨(some 2), .alloc 152, none⟩])
(.seq (.reg [⟨(some 3), .alloc 152, none⟩])
 (.seq (.reg [⟨(some 4), .fieldAddr 160 (.tmp 1) 0, none⟩,
     ⟨(some 5), .load 2 (.tmp 4), none⟩,
     ⟨(some 6), .fieldAddr 152 (.tmp 3) 0, none⟩,
     ⟨none, .store 2 (.tmp 6) (.tmp 5), none⟩])
  (.seq (.reg [⟨(some 7), .fieldAddr 160 (.tmp 1) 1, none⟩,
      ⟨(some 8), .load 158 (.tmp 7), none⟩,
      ⟨(some 9), .call ⟨(.value (.func 172)), #[(.tmp 8)], #[158]⟩, none⟩,
      ⟨(some 10), .fieldAddr 152 (.tmp 3) 1, none⟩,
      ⟨none, .store 150 (.tmp 10) (.tmp 9), none⟩])
   (.seq (.reg [⟨(some 11), .fieldAddr 160 (.tmp 1) 2, none⟩,
       ⟨(some 12), .load 2 (.tmp 11), none⟩,
       ⟨(some 13), .fieldAddr 152 (.tmp 3) 2, none⟩,
       ⟨none, .store 2 (.tmp 13) (.tmp 12), none⟩])
    (.seq (.reg [⟨(some 14), .fieldAddr 160 (.tmp 1) 3, none⟩,
        ⟨(some 15), .load 2 (.tmp 14), none⟩,
        ⟨(some 16), .fieldAddr 152 (.tmp 3) 3, none⟩,
        ⟨none, .store 2 (.tmp 16) (.tmp 15), none⟩])
     (.seq (.reg [⟨(some 17), .fieldAddr 160 (.tmp 1) 4, none⟩,
         ⟨(some 18), .load 2 (.tmp 17), none⟩,
         ⟨(some 19), .fieldAddr 152 (.tmp 3) 4, none⟩,
         ⟨none, .store 2 (.tmp 19) (.tmp 18), none⟩])
      (.seq (.reg [⟨(some 20), .load 152 (.tmp 3), none⟩,
          ⟨none, .store 152 (.tmp 2) (.tmp 20), none⟩])
       .ret))))))))
theorem s127 : slimF Tryz.f127 = some (c127, [.c 2 152], 21) := by kernel_rfl
theorem o127 : okF [(172, g172)] Tryz.f127 = true := by kernel_rfl
theorem p127 : Pure Tryz.prog 127 g127 := by
  refine semOf_pure fun ⟨τ, x⟩ n h2 hb => ?_
  have hT : Table Tryz.prog [(172, g172)] := (.cons p172 .nil)
  refine SatP.of_body hT hm Tryz.func127 s127 o127 h2 (by simp) ?_
  have hb' : 0 ≤ 1048576 := by
    have := hb
    simp only [tot_Pool] at this
    exact this
  have hn0 : n ≠ 0 := by omega
  simp (config := {maxSteps := 4000000, implicitDefEqProofs := false}) [c127, go_sem, hn0]
  all_goals omega
noncomputable def g67 : Fsem := toSem enPool.list enPool.list
@[go_sem] theorem g67_eq {n τ : Nat} {x : List Pool} : g67 n [.sl τ 6 (x.map (enPool.av τ))] = ⟨x.length ≤ 1048576, .sl n 6 (x.map (enPool.av n))⟩ := by
  have h := toSem_eq (Ei := enPool.list) (Eo := enPool.list) (n := n) (τ := τ) (x := x)
  rw [tot_list, sum_flat (E := enPool) (fun x => tot_Pool), Nat.add_zero] at h
  exact h
theorem s67 : slimF Tryz.f67 = some (toDeepC 3 56 63 160 152 127, [.t 2], 23) := by kernel_rfl
theorem o67 : okF [(127, g127)] Tryz.f67 = true := by kernel_rfl
theorem p67 : Pure Tryz.prog 67 g67 := toDeep_ok hm Tryz.func67 s67 o67 (by omega) ty_56 ty_63 fit_160 fitz_152 p127 (fun n τ x => toSem_eq)
noncomputable def g25 : Fsem := toSem enMp enMp
@[go_sem] theorem g25_eq {n τ : Nat} {x : Mp} : g25 n [.agg [.int .i64 x.epoch, .int .i64 x.term, .sl τ 2 (x.tree.devices.map (enDev.av τ)), .sl τ 3 (x.tree.buckets.map (enBkt.av τ)), .sl τ 4 (x.rules.map (enRule.av τ)), .sl τ 6 (x.pools.map (enPool.av τ)), .sl τ 1 (x.up.map (AV.int .i64)), .sl τ 1 (x.out.map (AV.int .i64))]] = ⟨((x.tree.devices.length + (x.tree.buckets.length + (x.tree.buckets.map enBkt.tot).sum)) + x.rules.length + x.pools.length + x.up.length + x.out.length) ≤ 1048576, .agg [.int .i64 x.epoch, .int .i64 x.term, .sl n 2 (x.tree.devices.map (enDev.av n)), .sl n 3 (x.tree.buckets.map (enBkt.av n)), .sl n 4 (x.rules.map (enRule.av n)), .sl n 6 (x.pools.map (enPool.av n)), .sl n 1 (x.up.map (AV.int .i64)), .sl n 1 (x.out.map (AV.int .i64))]⟩ := by
  have h := toSem_eq (Ei := enMp) (Eo := enMp) (n := n) (τ := τ) (x := x)
  rw [tot_Mp] at h
  exact h
def c25 : SCode := (.seq (.reg [⟨(some 1), .box 58 (.tmp 0), none⟩,
   ⟨(some 2), .alloc 65, none⟩])
(.seq (.reg [⟨(some 3), .alloc 65, none⟩])
 (.seq (.reg [⟨(some 4), .fieldAddr 58 (.tmp 1) 0, none⟩,
     ⟨(some 5), .load 2 (.tmp 4), none⟩,
     ⟨(some 6), .fieldAddr 65 (.tmp 3) 0, none⟩,
     ⟨none, .store 2 (.tmp 6) (.tmp 5), none⟩])
  (.seq (.reg [⟨(some 7), .fieldAddr 58 (.tmp 1) 1, none⟩,
      ⟨(some 8), .load 2 (.tmp 7), none⟩,
      ⟨(some 9), .fieldAddr 65 (.tmp 3) 1, none⟩,
      ⟨none, .store 2 (.tmp 9) (.tmp 8), none⟩])
   (.seq (.reg [⟨(some 10), .fieldAddr 58 (.tmp 1) 2, none⟩,
       ⟨(some 11), .load 25 (.tmp 10), none⟩,
       ⟨(some 12), .call ⟨(.value (.func 10)), #[(.tmp 11)], #[25]⟩, none⟩,
       ⟨(some 13), .fieldAddr 65 (.tmp 3) 2, none⟩,
       ⟨none, .store 39 (.tmp 13) (.tmp 12), none⟩])
    (.seq (.reg [⟨(some 14), .fieldAddr 58 (.tmp 1) 3, none⟩,
        ⟨(some 15), .load 55 (.tmp 14), none⟩,
        ⟨(some 16), .call ⟨(.value (.func 66)), #[(.tmp 15)], #[55]⟩, none⟩,
        ⟨(some 17), .fieldAddr 65 (.tmp 3) 3, none⟩,
        ⟨none, .store 62 (.tmp 17) (.tmp 16), none⟩])
     (.seq (.reg [⟨(some 18), .fieldAddr 58 (.tmp 1) 4, none⟩,
         ⟨(some 19), .load 56 (.tmp 18), none⟩,
         ⟨(some 20), .call ⟨(.value (.func 67)), #[(.tmp 19)], #[56]⟩, none⟩,
         ⟨(some 21), .fieldAddr 65 (.tmp 3) 4, none⟩,
         ⟨none, .store 63 (.tmp 21) (.tmp 20), none⟩])
      (.seq (.reg [⟨(some 22), .fieldAddr 58 (.tmp 1) 5, none⟩,
          ⟨(some 23), .load 28 (.tmp 22), none⟩,
          ⟨(some 24), .call ⟨(.value (.func 12)), #[(.tmp 23)], #[28]⟩, none⟩,
          ⟨(some 25), .fieldAddr 65 (.tmp 3) 5, none⟩,
          ⟨none, .store 28 (.tmp 25) (.tmp 24), none⟩])
       (.seq (.reg [⟨(some 26), .fieldAddr 58 (.tmp 1) 6, none⟩,
           ⟨(some 27), .load 28 (.tmp 26), none⟩,
           ⟨(some 28), .call ⟨(.value (.func 12)), #[(.tmp 27)], #[28]⟩, none⟩,
           ⟨(some 29), .fieldAddr 65 (.tmp 3) 6, none⟩,
           ⟨none, .store 28 (.tmp 29) (.tmp 28), none⟩])
        (.seq (.reg [⟨(some 30), .load 65 (.tmp 3), none⟩,
            ⟨none, .store 65 (.tmp 2) (.tmp 30), none⟩])
         .ret))))))))))
theorem s25 : slimF Tryz.f25 = some (c25, [.c 2 65], 31) := by kernel_rfl
theorem o25 : okF [(10, g10), (66, g66), (67, g67), (12, g12)] Tryz.f25 = true := by kernel_rfl
theorem p25 : Pure Tryz.prog 25 g25 := by
  refine semOf_pure fun ⟨τ, x⟩ n h2 hb => ?_
  have hT : Table Tryz.prog [(10, g10), (66, g66), (67, g67), (12, g12)] := (.cons p10 (.cons p66 (.cons p67 (.cons p12 .nil))))
  refine SatP.of_body hT hm Tryz.func25 s25 o25 h2 (by simp) ?_
  have hb' : ((x.tree.devices.length + (x.tree.buckets.length + (x.tree.buckets.map enBkt.tot).sum)) + x.rules.length + x.pools.length + x.up.length + x.out.length) ≤ 1048576 := by
    have := hb
    simp only [tot_Mp] at this
    exact this
  have hn0 : n ≠ 0 := by omega
  simp (config := {maxSteps := 4000000, implicitDefEqProofs := false}) [c25, go_sem, hn0]
  all_goals omega
noncomputable def g136 : Fsem := eqSem enRule enRule
def c136 : SCode := (.seq (.reg [⟨(some 2), .box 41 (.tmp 0), none⟩,
   ⟨(some 3), .box 41 (.tmp 1), none⟩,
   ⟨(some 4), .assign (.const (.bool false)), none⟩])
(.seq (.seq (.reg [⟨(some 5), .fieldAddr 41 (.tmp 2) 0, none⟩,
     ⟨(some 6), .load 2 (.tmp 5), none⟩,
     ⟨(some 7), .fieldAddr 41 (.tmp 3) 0, none⟩,
     ⟨(some 8), .load 2 (.tmp 7), none⟩,
     ⟨(some 9), .binOp .neq 2 (.tmp 6) (.tmp 8) 2, none⟩])
  (.cond (.tmp 9) (.seq (.reg [⟨(some 4), .assign (.const (.bool false)), none⟩])
    .ret)
   .skip))
 (.seq (.seq (.reg [⟨(some 10), .fieldAddr 41 (.tmp 2) 1, none⟩,
      ⟨(some 11), .load 2 (.tmp 10), none⟩,
      ⟨(some 12), .fieldAddr 41 (.tmp 3) 1, none⟩,
      ⟨(some 13), .load 2 (.tmp 12), none⟩,
      ⟨(some 14), .binOp .neq 2 (.tmp 11) (.tmp 13) 2, none⟩])
   (.cond (.tmp 14) (.seq (.reg [⟨(some 4), .assign (.const (.bool false)), none⟩])
     .ret)
    .skip))
  (.seq (.seq (.reg [⟨(some 15), .fieldAddr 41 (.tmp 2) 2, none⟩,
       ⟨(some 16), .load 2 (.tmp 15), none⟩,
       ⟨(some 17), .fieldAddr 41 (.tmp 3) 2, none⟩,
       ⟨(some 18), .load 2 (.tmp 17), none⟩,
       ⟨(some 19), .binOp .neq 2 (.tmp 16) (.tmp 18) 2, none⟩])
    (.cond (.tmp 19) (.seq (.reg [⟨(some 4), .assign (.const (.bool false)), none⟩])
      .ret)
     .skip))
   (.seq (.seq (.reg [⟨(some 20), .fieldAddr 41 (.tmp 2) 3, none⟩,
        ⟨(some 21), .load 4 (.tmp 20), none⟩,
        ⟨(some 22), .fieldAddr 41 (.tmp 3) 3, none⟩,
        ⟨(some 23), .load 4 (.tmp 22), none⟩,
        ⟨(some 24), .binOp .neq 4 (.tmp 21) (.tmp 23) 4, none⟩])
     (.cond (.tmp 24) (.seq (.reg [⟨(some 4), .assign (.const (.bool false)), none⟩])
       .ret)
      .skip))
    (.seq (.reg [⟨(some 4), .assign (.const (.bool true)), none⟩])
     .ret))))))
theorem s136 : slimF Tryz.f136 = some (c136, [.t 4], 25) := by kernel_rfl
theorem o136 : okF [] Tryz.f136 = true := by kernel_rfl
theorem p136 : Pure Tryz.prog 136 g136 := by
  refine semOf_pure fun ⟨τ, τ', x, y⟩ n h2 _ => ?_
  have hT : Table Tryz.prog [] := .nil
  refine SatP.of_body hT hm Tryz.func136 s136 o136 h2 (by simp) ?_
  rcases Bool.eq_false_or_eq_true (eqB x y) with hxy | hxy
  · rw [hxy]
    have h := eqB_iff.1 hxy
    subst h
    simp (config := {contextual := true, maxSteps := 4000000, implicitDefEqProofs := false}) [c136, go_sem, eqB_iff, eqB_not]
  · rw [hxy]
    have h := eqB_not.1 hxy
    rw [eq_Rule] at h
    simp (config := {contextual := true, maxSteps := 4000000, implicitDefEqProofs := false}) [c136, go_sem, eqB_iff, eqB_not]
    simpa using h
noncomputable def g71 : Fsem := eqSem enRule.list enRule.list
@[go_sem] theorem g71_eq {n τ τ' : Nat} {x y : List Rule} : g71 n [.sl τ 4 (x.map (enRule.av τ)), .sl τ' 4 (y.map (enRule.av τ'))] = ⟨True, .bool (eqB x y)⟩ := eqSem_eq (E := enRule.list) (E' := enRule.list) (n := n) (τ := τ) (τ' := τ') (x := x) (y := y)
theorem s71 : slimF Tryz.f71 = some (eqDeepC 3 4 62 41 136, [.t 4], 27) := by kernel_rfl
theorem o71 : okF [(136, g136)] Tryz.f71 = true := by kernel_rfl
theorem p71 : Pure Tryz.prog 71 g71 := eqDeep_ok hm Tryz.func71 s71 o71 (by omega) ty_62 fit_41 fit_41 p136 (fun n τ x τ' x' => eqSem_eq)
noncomputable def g187 : Fsem := eqSem enCode enCode
@[go_sem] theorem g187_eq {n : Nat} {x y : Code} : g187 n [.agg [.int .i64 x.k, .int .i64 x.m], .agg [.int .i64 y.k, .int .i64 y.m]] = ⟨True, .bool (eqB x y)⟩ := eqSem_eq (E := enCode) (E' := enCode) (n := n) (τ := 0) (τ' := 0) (x := x) (y := y)
def c187 : SCode := (.seq (.reg [⟨(some 2), .box 150 (.tmp 0), none⟩,
   ⟨(some 3), .box 150 (.tmp 1), none⟩,
   ⟨(some 4), .assign (.const (.bool false)), none⟩])
(.seq (.seq (.reg [⟨(some 5), .fieldAddr 150 (.tmp 2) 0, none⟩,
     ⟨(some 6), .load 2 (.tmp 5), none⟩,
     ⟨(some 7), .fieldAddr 150 (.tmp 3) 0, none⟩,
     ⟨(some 8), .load 2 (.tmp 7), none⟩,
     ⟨(some 9), .binOp .neq 2 (.tmp 6) (.tmp 8) 2, none⟩])
  (.cond (.tmp 9) (.seq (.reg [⟨(some 4), .assign (.const (.bool false)), none⟩])
    .ret)
   .skip))
 (.seq (.seq (.reg [⟨(some 10), .fieldAddr 150 (.tmp 2) 1, none⟩,
      ⟨(some 11), .load 2 (.tmp 10), none⟩,
      ⟨(some 12), .fieldAddr 150 (.tmp 3) 1, none⟩,
      ⟨(some 13), .load 2 (.tmp 12), none⟩,
      ⟨(some 14), .binOp .neq 2 (.tmp 11) (.tmp 13) 2, none⟩])
   (.cond (.tmp 14) (.seq (.reg [⟨(some 4), .assign (.const (.bool false)), none⟩])
     .ret)
    .skip))
  (.seq (.reg [⟨(some 4), .assign (.const (.bool true)), none⟩])
   .ret))))
theorem s187 : slimF Tryz.f187 = some (c187, [.t 4], 15) := by kernel_rfl
theorem o187 : okF [] Tryz.f187 = true := by kernel_rfl
theorem p187 : Pure Tryz.prog 187 g187 := by
  refine semOf_pure fun ⟨τ, τ', x, y⟩ n h2 _ => ?_
  have hT : Table Tryz.prog [] := .nil
  refine SatP.of_body hT hm Tryz.func187 s187 o187 h2 (by simp) ?_
  rcases Bool.eq_false_or_eq_true (eqB x y) with hxy | hxy
  · rw [hxy]
    have h := eqB_iff.1 hxy
    subst h
    simp (config := {contextual := true, maxSteps := 4000000, implicitDefEqProofs := false}) [c187, go_sem, eqB_iff, eqB_not]
  · rw [hxy]
    have h := eqB_not.1 hxy
    rw [eq_Code] at h
    simp (config := {contextual := true, maxSteps := 4000000, implicitDefEqProofs := false}) [c187, go_sem, eqB_iff, eqB_not]
    simpa using h
noncomputable def g137 : Fsem := eqSem enPool enPool
def c137 : SCode := (.seq (.reg [⟨(some 2), .box 152 (.tmp 0), none⟩,
   ⟨(some 3), .box 152 (.tmp 1), none⟩,
   ⟨(some 4), .assign (.const (.bool false)), none⟩])
(.seq (.seq (.reg [⟨(some 5), .fieldAddr 152 (.tmp 2) 0, none⟩,
     ⟨(some 6), .load 2 (.tmp 5), none⟩,
     ⟨(some 7), .fieldAddr 152 (.tmp 3) 0, none⟩,
     ⟨(some 8), .load 2 (.tmp 7), none⟩,
     ⟨(some 9), .binOp .neq 2 (.tmp 6) (.tmp 8) 2, none⟩])
  (.cond (.tmp 9) (.seq (.reg [⟨(some 4), .assign (.const (.bool false)), none⟩])
    .ret)
   .skip))
 (.seq (.seq (.reg [⟨(some 10), .fieldAddr 152 (.tmp 2) 1, none⟩,
      ⟨(some 11), .load 150 (.tmp 10), none⟩,
      ⟨(some 12), .fieldAddr 152 (.tmp 3) 1, none⟩,
      ⟨(some 13), .load 150 (.tmp 12), none⟩,
      ⟨(some 14), .call ⟨(.value (.func 187)), #[(.tmp 11), (.tmp 13)], #[150, 150]⟩, none⟩,
      ⟨(some 15), .unOp .not 4 (.tmp 14), none⟩])
   (.cond (.tmp 15) (.seq (.reg [⟨(some 4), .assign (.const (.bool false)), none⟩])
     .ret)
    .skip))
  (.seq (.seq (.reg [⟨(some 16), .fieldAddr 152 (.tmp 2) 2, none⟩,
       ⟨(some 17), .load 2 (.tmp 16), none⟩,
       ⟨(some 18), .fieldAddr 152 (.tmp 3) 2, none⟩,
       ⟨(some 19), .load 2 (.tmp 18), none⟩,
       ⟨(some 20), .binOp .neq 2 (.tmp 17) (.tmp 19) 2, none⟩])
    (.cond (.tmp 20) (.seq (.reg [⟨(some 4), .assign (.const (.bool false)), none⟩])
      .ret)
     .skip))
   (.seq (.seq (.reg [⟨(some 21), .fieldAddr 152 (.tmp 2) 3, none⟩,
        ⟨(some 22), .load 2 (.tmp 21), none⟩,
        ⟨(some 23), .fieldAddr 152 (.tmp 3) 3, none⟩,
        ⟨(some 24), .load 2 (.tmp 23), none⟩,
        ⟨(some 25), .binOp .neq 2 (.tmp 22) (.tmp 24) 2, none⟩])
     (.cond (.tmp 25) (.seq (.reg [⟨(some 4), .assign (.const (.bool false)), none⟩])
       .ret)
      .skip))
    (.seq (.seq (.reg [⟨(some 26), .fieldAddr 152 (.tmp 2) 4, none⟩,
         ⟨(some 27), .load 2 (.tmp 26), none⟩,
         ⟨(some 28), .fieldAddr 152 (.tmp 3) 4, none⟩,
         ⟨(some 29), .load 2 (.tmp 28), none⟩,
         ⟨(some 30), .binOp .neq 2 (.tmp 27) (.tmp 29) 2, none⟩])
      (.cond (.tmp 30) (.seq (.reg [⟨(some 4), .assign (.const (.bool false)), none⟩])
        .ret)
       .skip))
     (.seq (.reg [⟨(some 4), .assign (.const (.bool true)), none⟩])
      .ret)))))))
theorem s137 : slimF Tryz.f137 = some (c137, [.t 4], 31) := by kernel_rfl
theorem o137 : okF [(187, g187)] Tryz.f137 = true := by kernel_rfl
theorem p137 : Pure Tryz.prog 137 g137 := by
  refine semOf_pure fun ⟨τ, τ', x, y⟩ n h2 _ => ?_
  have hT : Table Tryz.prog [(187, g187)] := (.cons p187 .nil)
  refine SatP.of_body hT hm Tryz.func137 s137 o137 h2 (by simp) ?_
  rcases Bool.eq_false_or_eq_true (eqB x y) with hxy | hxy
  · rw [hxy]
    have h := eqB_iff.1 hxy
    subst h
    simp (config := {contextual := true, maxSteps := 4000000, implicitDefEqProofs := false}) [c137, go_sem, eqB_iff, eqB_not]
  · rw [hxy]
    have h := eqB_not.1 hxy
    rw [eq_Pool] at h
    simp (config := {contextual := true, maxSteps := 4000000, implicitDefEqProofs := false}) [c137, go_sem, eqB_iff, eqB_not]
    simpa using h
noncomputable def g72 : Fsem := eqSem enPool.list enPool.list
@[go_sem] theorem g72_eq {n τ τ' : Nat} {x y : List Pool} : g72 n [.sl τ 6 (x.map (enPool.av τ)), .sl τ' 6 (y.map (enPool.av τ'))] = ⟨True, .bool (eqB x y)⟩ := eqSem_eq (E := enPool.list) (E' := enPool.list) (n := n) (τ := τ) (τ' := τ') (x := x) (y := y)
theorem s72 : slimF Tryz.f72 = some (eqDeepC 3 4 63 152 137, [.t 4], 27) := by kernel_rfl
theorem o72 : okF [(137, g137)] Tryz.f72 = true := by kernel_rfl
theorem p72 : Pure Tryz.prog 72 g72 := eqDeep_ok hm Tryz.func72 s72 o72 (by omega) ty_63 fit_152 fit_152 p137 (fun n τ x τ' x' => eqSem_eq)
noncomputable def g27 : Fsem := eqSem enMp enMp
@[go_sem] theorem g27_eq {n τ τ' : Nat} {x y : Mp} : g27 n [.agg [.int .i64 x.epoch, .int .i64 x.term, .sl τ 2 (x.tree.devices.map (enDev.av τ)), .sl τ 3 (x.tree.buckets.map (enBkt.av τ)), .sl τ 4 (x.rules.map (enRule.av τ)), .sl τ 6 (x.pools.map (enPool.av τ)), .sl τ 1 (x.up.map (AV.int .i64)), .sl τ 1 (x.out.map (AV.int .i64))], .agg [.int .i64 y.epoch, .int .i64 y.term, .sl τ' 2 (y.tree.devices.map (enDev.av τ')), .sl τ' 3 (y.tree.buckets.map (enBkt.av τ')), .sl τ' 4 (y.rules.map (enRule.av τ')), .sl τ' 6 (y.pools.map (enPool.av τ')), .sl τ' 1 (y.up.map (AV.int .i64)), .sl τ' 1 (y.out.map (AV.int .i64))]] = ⟨True, .bool (eqB x y)⟩ := eqSem_eq (E := enMp) (E' := enMp) (n := n) (τ := τ) (τ' := τ') (x := x) (y := y)
def c27 : SCode := (.seq (.reg [⟨(some 2), .box 65 (.tmp 0), none⟩,
   ⟨(some 3), .box 65 (.tmp 1), none⟩,
   ⟨(some 4), .assign (.const (.bool false)), none⟩])
(.seq (.seq (.reg [⟨(some 5), .fieldAddr 65 (.tmp 2) 0, none⟩,
     ⟨(some 6), .load 2 (.tmp 5), none⟩,
     ⟨(some 7), .fieldAddr 65 (.tmp 3) 0, none⟩,
     ⟨(some 8), .load 2 (.tmp 7), none⟩,
     ⟨(some 9), .binOp .neq 2 (.tmp 6) (.tmp 8) 2, none⟩])
  (.cond (.tmp 9) (.seq (.reg [⟨(some 4), .assign (.const (.bool false)), none⟩])
    .ret)
   .skip))
 (.seq (.seq (.reg [⟨(some 10), .fieldAddr 65 (.tmp 2) 1, none⟩,
      ⟨(some 11), .load 2 (.tmp 10), none⟩,
      ⟨(some 12), .fieldAddr 65 (.tmp 3) 1, none⟩,
      ⟨(some 13), .load 2 (.tmp 12), none⟩,
      ⟨(some 14), .binOp .neq 2 (.tmp 11) (.tmp 13) 2, none⟩])
   (.cond (.tmp 14) (.seq (.reg [⟨(some 4), .assign (.const (.bool false)), none⟩])
     .ret)
    .skip))
  (.seq (.seq (.reg [⟨(some 15), .fieldAddr 65 (.tmp 2) 2, none⟩,
       ⟨(some 16), .load 39 (.tmp 15), none⟩,
       ⟨(some 17), .fieldAddr 65 (.tmp 3) 2, none⟩,
       ⟨(some 18), .load 39 (.tmp 17), none⟩,
       ⟨(some 19), .call ⟨(.value (.func 17)), #[(.tmp 16), (.tmp 18)], #[39, 39]⟩, none⟩,
       ⟨(some 20), .unOp .not 4 (.tmp 19), none⟩])
    (.cond (.tmp 20) (.seq (.reg [⟨(some 4), .assign (.const (.bool false)), none⟩])
      .ret)
     .skip))
   (.seq (.seq (.reg [⟨(some 21), .fieldAddr 65 (.tmp 2) 3, none⟩,
        ⟨(some 22), .load 62 (.tmp 21), none⟩,
        ⟨(some 23), .fieldAddr 65 (.tmp 3) 3, none⟩,
        ⟨(some 24), .load 62 (.tmp 23), none⟩,
        ⟨(some 25), .call ⟨(.value (.func 71)), #[(.tmp 22), (.tmp 24)], #[62, 62]⟩, none⟩,
        ⟨(some 26), .unOp .not 4 (.tmp 25), none⟩])
     (.cond (.tmp 26) (.seq (.reg [⟨(some 4), .assign (.const (.bool false)), none⟩])
       .ret)
      .skip))
    (.seq (.seq (.reg [⟨(some 27), .fieldAddr 65 (.tmp 2) 4, none⟩,
         ⟨(some 28), .load 63 (.tmp 27), none⟩,
         ⟨(some 29), .fieldAddr 65 (.tmp 3) 4, none⟩,
         ⟨(some 30), .load 63 (.tmp 29), none⟩,
         ⟨(some 31), .call ⟨(.value (.func 72)), #[(.tmp 28), (.tmp 30)], #[63, 63]⟩, none⟩,
         ⟨(some 32), .unOp .not 4 (.tmp 31), none⟩])
      (.cond (.tmp 32) (.seq (.reg [⟨(some 4), .assign (.const (.bool false)), none⟩])
        .ret)
       .skip))
     (.seq (.seq (.reg [⟨(some 33), .fieldAddr 65 (.tmp 2) 5, none⟩,
          ⟨(some 34), .load 28 (.tmp 33), none⟩,
          ⟨(some 35), .fieldAddr 65 (.tmp 3) 5, none⟩,
          ⟨(some 36), .load 28 (.tmp 35), none⟩,
          ⟨(some 37), .call ⟨(.value (.func 16)), #[(.tmp 34), (.tmp 36)], #[28, 28]⟩, none⟩,
          ⟨(some 38), .unOp .not 4 (.tmp 37), none⟩])
       (.cond (.tmp 38) (.seq (.reg [⟨(some 4), .assign (.const (.bool false)), none⟩])
         .ret)
        .skip))
      (.seq (.seq (.reg [⟨(some 39), .fieldAddr 65 (.tmp 2) 6, none⟩,
           ⟨(some 40), .load 28 (.tmp 39), none⟩,
           ⟨(some 41), .fieldAddr 65 (.tmp 3) 6, none⟩,
           ⟨(some 42), .load 28 (.tmp 41), none⟩,
           ⟨(some 43), .call ⟨(.value (.func 16)), #[(.tmp 40), (.tmp 42)], #[28, 28]⟩, none⟩,
           ⟨(some 44), .unOp .not 4 (.tmp 43), none⟩])
        (.cond (.tmp 44) (.seq (.reg [⟨(some 4), .assign (.const (.bool false)), none⟩])
          .ret)
         .skip))
       (.seq (.reg [⟨(some 4), .assign (.const (.bool true)), none⟩])
        .ret)))))))))
theorem s27 : slimF Tryz.f27 = some (c27, [.t 4], 45) := by kernel_rfl
theorem o27 : okF [(17, g17), (71, g71), (72, g72), (16, g16)] Tryz.f27 = true := by kernel_rfl
theorem p27 : Pure Tryz.prog 27 g27 := by
  refine semOf_pure fun ⟨τ, τ', x, y⟩ n h2 _ => ?_
  have hT : Table Tryz.prog [(17, g17), (71, g71), (72, g72), (16, g16)] := (.cons p17 (.cons p71 (.cons p72 (.cons p16 .nil))))
  refine SatP.of_body hT hm Tryz.func27 s27 o27 h2 (by simp) ?_
  rcases Bool.eq_false_or_eq_true (eqB x y) with hxy | hxy
  · rw [hxy]
    have h := eqB_iff.1 hxy
    subst h
    simp (config := {contextual := true, maxSteps := 4000000, implicitDefEqProofs := false}) [c27, go_sem, eqB_iff, eqB_not]
  · rw [hxy]
    have h := eqB_not.1 hxy
    rw [eq_Mp] at h
    simp (config := {contextual := true, maxSteps := 4000000, implicitDefEqProofs := false}) [c27, go_sem, eqB_iff, eqB_not]
    simpa using h
end Go.Ve
namespace Go.Ve
open Go.Proofs Go.RowKit
set_option linter.unusedVariables false
set_option linter.unusedSimpArgs false
set_option maxRecDepth 10000
set_option maxHeartbeats 4000000
def btw (n lo hi : Int) : Bool := decide (lo ≤ n) && decide (n ≤ hi)
theorem seen_Tree : Seen enTree := fun τ τ' x y h => by
  have := congrArg (fun v => match v with | AV.agg (.sl t _ _ :: _) => t | _ => 0) h
  exact this
theorem seen_Mp : Seen enMp := fun τ τ' x y h => by
  have := congrArg (fun v => match v with | AV.agg (_ :: _ :: .sl t _ _ :: _) => t | _ => 0) h
  exact this
def devI (t : Tree) (id : Int) : Int := idx (fun d : Dev => decide (d.id = id)) t.devices
def bktI (t : Tree) (id : Int) : Int := idx (fun b : Bkt => decide (b.id = id)) t.buckets
def bktO (t : Tree) (id : Int) : Option Bkt := t.buckets.find? (fun b : Bkt => decide (b.id = id))
def kindOf (t : Tree) (id : Int) : Int := if 0 ≤ devI t id then 0 else match bktO t id with
  | some b => b.kind
  | none => -1
/-- Each against the one ahead of it. -/
def chk {α : Type} (p : Option α → α → Bool) : Option α → List α → Bool
  | _, [] => true
  | o, x :: l => p o x && chk p (some x) l
def c82 : SCode := (.seq (.reg [⟨(some 6), .assign (.const (.bool false)), none⟩])
(.seq (.reg [⟨(some 7), .move (.tmp 0), none⟩,
    ⟨(some 8), .move (.tmp 1), none⟩,
    ⟨(some 9), .binOp .geq 2 (.tmp 7) (.tmp 8) 2, none⟩,
    ⟨(some 10), .move (.tmp 9), none⟩,
    ⟨(some 11), .move (.tmp 0), (some (10, true))⟩,
    ⟨(some 12), .move (.tmp 2), (some (10, true))⟩,
    ⟨(some 13), .binOp .leq 2 (.tmp 11) (.tmp 12) 2, (some (10, true))⟩,
    ⟨(some 14), .pick (.tmp 10) (.tmp 13) (.const (.bool false)), none⟩,
    ⟨(some 6), .assign (.tmp 14), none⟩])
 .ret))
theorem s82 : slimF Tryz.f82 = some (c82, [.t 6], 15) := by kernel_rfl
theorem o82 : okF [] Tryz.f82 = true := by kernel_rfl
noncomputable def g82 : Fsem := sem3 (En.int .i64) (En.int .i64) (En.int .i64) (fun n0 lo hi => True) (fun n n0 lo hi => .bool (btw n0 lo hi))
@[go_sem] theorem g82_eq {n : Nat} {n0 : Int} {lo : Int} {hi : Int} : g82 n [.int .i64 n0, .int .i64 lo, .int .i64 hi] = ⟨True, .bool (btw n0 lo hi)⟩ := sem3_eq (τ := 0) (τ' := 0) (τ'' := 0) (E := (En.int .i64)) (F := (En.int .i64)) (G := (En.int .i64))
theorem p82 : Pure Tryz.prog 82 g82 := by
  refine sem3_pure fun τ τ' τ'' n0 lo hi n h2 hpre => ?_
  have hT : Table Tryz.prog [] := .nil
  have hn0 : n ≠ 0 := by omega
  refine SatP.of_body hT hm Tryz.func82 s82 o82 h2 (by simp) ?_
  simp (config := {contextual := true, maxSteps := 2000000, implicitDefEqProofs := false}) [c82, go_sem, btw]
def c93 : SCode := (.seq (.reg [⟨(some 6), .assign (.const (.bool false)), none⟩])
(.seq (.reg [⟨(some 7), .move (.tmp 0), none⟩,
    ⟨(some 8), .move (.tmp 1), none⟩,
    ⟨(some 9), .binOp .geq 2 (.tmp 7) (.tmp 8) 2, none⟩,
    ⟨(some 10), .move (.tmp 9), none⟩,
    ⟨(some 11), .move (.tmp 0), (some (10, true))⟩,
    ⟨(some 12), .move (.tmp 2), (some (10, true))⟩,
    ⟨(some 13), .binOp .leq 2 (.tmp 11) (.tmp 12) 2, (some (10, true))⟩,
    ⟨(some 14), .pick (.tmp 10) (.tmp 13) (.const (.bool false)), none⟩,
    ⟨(some 6), .assign (.tmp 14), none⟩])
 .ret))
theorem s93 : slimF Tryz.f93 = some (c93, [.t 6], 15) := by kernel_rfl
theorem o93 : okF [] Tryz.f93 = true := by kernel_rfl
noncomputable def g93 : Fsem := sem3 (En.int .i64) (En.int .i64) (En.int .i64) (fun n0 lo hi => True) (fun n n0 lo hi => .bool (btw n0 lo hi))
@[go_sem] theorem g93_eq {n : Nat} {n0 : Int} {lo : Int} {hi : Int} : g93 n [.int .i64 n0, .int .i64 lo, .int .i64 hi] = ⟨True, .bool (btw n0 lo hi)⟩ := sem3_eq (τ := 0) (τ' := 0) (τ'' := 0) (E := (En.int .i64)) (F := (En.int .i64)) (G := (En.int .i64))
theorem p93 : Pure Tryz.prog 93 g93 := by
  refine sem3_pure fun τ τ' τ'' n0 lo hi n h2 hpre => ?_
  have hT : Table Tryz.prog [] := .nil
  have hn0 : n ≠ 0 := by omega
  refine SatP.of_body hT hm Tryz.func93 s93 o93 h2 (by simp) ?_
  simp (config := {contextual := true, maxSteps := 2000000, implicitDefEqProofs := false}) [c93, go_sem, btw]
def c159 : SCode := (.seq (.reg [⟨(some 2), .assign (.const (.bool false)), none⟩])
(.seq (.reg [⟨(some 3), .move (.tmp 0), none⟩,
    ⟨(some 4), .call ⟨(.value (.func 82)), #[(.tmp 3), (.const (.int .i64 0)), (.const (.int .i64 15))], #[2, 2, 2]⟩, none⟩,
    ⟨(some 2), .assign (.tmp 4), none⟩])
 .ret))
theorem s159 : slimF Tryz.f159 = some (c159, [.t 2], 5) := by kernel_rfl
theorem o159 : okF [(82, g82)] Tryz.f159 = true := by kernel_rfl
noncomputable def g159 : Fsem := sem1 (En.int .i64) (fun n0 => True) (fun n n0 => .bool (btw n0 0 15))
@[go_sem] theorem g159_eq {n : Nat} {n0 : Int} : g159 n [.int .i64 n0] = ⟨True, .bool (btw n0 0 15)⟩ := sem1_eq (τ := 0) (E := (En.int .i64))
theorem p159 : Pure Tryz.prog 159 g159 := by
  refine sem1_pure fun τ n0 n h2 hpre => ?_
  have hT : Table Tryz.prog [(82, g82)] := (.cons p82 .nil)
  have hn0 : n ≠ 0 := by omega
  refine SatP.of_body hT hm Tryz.func159 s159 o159 h2 (by simp) ?_
  simp (config := {contextual := true, maxSteps := 2000000, implicitDefEqProofs := false}) [c159, go_sem]
def c204 : SCode := (.seq (.reg [⟨(some 1), .box 150 (.tmp 0), none⟩,
   ⟨(some 2), .assign (.const (.bool false)), none⟩])
(.seq (.reg [⟨(some 3), .fieldAddr 150 (.tmp 1) 0, none⟩,
    ⟨(some 4), .load 2 (.tmp 3), none⟩,
    ⟨(some 5), .call ⟨(.value (.func 82)), #[(.tmp 4), (.const (.int .i64 1)), (.const (.int .i64 4))], #[2, 2, 2]⟩, none⟩,
    ⟨(some 6), .move (.tmp 5), none⟩,
    ⟨(some 7), .fieldAddr 150 (.tmp 1) 1, (some (6, true))⟩,
    ⟨(some 8), .load 2 (.tmp 7), (some (6, true))⟩,
    ⟨(some 9), .call ⟨(.value (.func 82)), #[(.tmp 8), (.const (.int .i64 0)), (.const (.int .i64 3))], #[2, 2, 2]⟩, (some (6, true))⟩,
    ⟨(some 10), .pick (.tmp 6) (.tmp 9) (.const (.bool false)), none⟩,
    ⟨(some 2), .assign (.tmp 10), none⟩])
 .ret))
theorem s204 : slimF Tryz.f204 = some (c204, [.t 2], 11) := by kernel_rfl
theorem o204 : okF [(82, g82)] Tryz.f204 = true := by kernel_rfl
noncomputable def g204 : Fsem := sem1 enCode (fun c => True) (fun n c => .bool (btw c.k 1 4 && btw c.m 0 3))
@[go_sem] theorem g204_eq {n : Nat} {c : Code} : g204 n [.agg [.int .i64 c.k, .int .i64 c.m]] = ⟨True, .bool (btw c.k 1 4 && btw c.m 0 3)⟩ := sem1_eq (τ := 0) (E := enCode)
theorem p204 : Pure Tryz.prog 204 g204 := by
  refine sem1_pure fun τ c n h2 hpre => ?_
  have hT : Table Tryz.prog [(82, g82)] := (.cons p82 .nil)
  have hn0 : n ≠ 0 := by omega
  refine SatP.of_body hT hm Tryz.func204 s204 o204 h2 (by simp) ?_
  simp (config := {contextual := true, maxSteps := 2000000, implicitDefEqProofs := false}) [c204, go_sem]
def c199 : SCode := (.seq (.reg [⟨(some 1), .box 150 (.tmp 0), none⟩,
   ⟨(some 2), .assign (.const (.bool false)), none⟩])
(.seq (.reg [⟨(some 3), .fieldAddr 150 (.tmp 1) 0, none⟩,
    ⟨(some 4), .load 2 (.tmp 3), none⟩,
    ⟨(some 5), .call ⟨(.value (.func 93)), #[(.tmp 4), (.const (.int .i64 1)), (.const (.int .i64 4))], #[2, 2, 2]⟩, none⟩,
    ⟨(some 6), .move (.tmp 5), none⟩,
    ⟨(some 7), .fieldAddr 150 (.tmp 1) 1, (some (6, true))⟩,
    ⟨(some 8), .load 2 (.tmp 7), (some (6, true))⟩,
    ⟨(some 9), .call ⟨(.value (.func 93)), #[(.tmp 8), (.const (.int .i64 0)), (.const (.int .i64 3))], #[2, 2, 2]⟩, (some (6, true))⟩,
    ⟨(some 10), .pick (.tmp 6) (.tmp 9) (.const (.bool false)), none⟩,
    ⟨(some 2), .assign (.tmp 10), none⟩])
 .ret))
theorem s199 : slimF Tryz.f199 = some (c199, [.t 2], 11) := by kernel_rfl
theorem o199 : okF [(93, g93)] Tryz.f199 = true := by kernel_rfl
noncomputable def g199 : Fsem := sem1 enCode (fun c => True) (fun n c => .bool (btw c.k 1 4 && btw c.m 0 3))
@[go_sem] theorem g199_eq {n : Nat} {c : Code} : g199 n [.agg [.int .i64 c.k, .int .i64 c.m]] = ⟨True, .bool (btw c.k 1 4 && btw c.m 0 3)⟩ := sem1_eq (τ := 0) (E := enCode)
theorem p199 : Pure Tryz.prog 199 g199 := by
  refine sem1_pure fun τ c n h2 hpre => ?_
  have hT : Table Tryz.prog [(93, g93)] := (.cons p93 .nil)
  have hn0 : n ≠ 0 := by omega
  refine SatP.of_body hT hm Tryz.func199 s199 o199 h2 (by simp) ?_
  simp (config := {contextual := true, maxSteps := 2000000, implicitDefEqProofs := false}) [c199, go_sem]
def c198 : SCode := (.seq (.reg [⟨(some 2), .box 135 (.tmp 0), none⟩,
   ⟨(some 3), .assign (.const (.bool false)), none⟩])
(.seq (.reg [⟨(some 4), .fieldAddr 135 (.tmp 2) 0, none⟩,
    ⟨(some 5), .load 2 (.tmp 4), none⟩,
    ⟨(some 6), .load 2 (.tmp 1), none⟩,
    ⟨(some 7), .binOp .eql 2 (.tmp 5) (.tmp 6) 2, none⟩,
    ⟨(some 3), .assign (.tmp 7), none⟩])
 .ret))
theorem s198 : slimF Tryz.f198 = some (c198, [.t 3], 8) := by kernel_rfl
theorem o198 : okF [] Tryz.f198 = true := by kernel_rfl
noncomputable def g198 : Fsem := semOf (fun i : Nat × Nat × Dev × Int => [enDev.av i.1 i.2.2.1, .dptr i.2.1 [.int .i64 i.2.2.2]]) (fun _ => True) (fun _ i => .bool (decide (i.2.2.1.id = i.2.2.2)))
@[go_sem] theorem g198_eq {n τ' : Nat} {x : Dev} {i : Int} : g198 n [.agg [.int .i64 x.id, .int .i64 x.weight], .dptr τ' [.int .i64 i]] = ⟨True, .bool (decide (x.id = i))⟩ :=
  semOf_eq (0, τ', x, i) rfl fun ⟨_, _, y, j⟩ h => by
    obtain ⟨h1, h⟩ := cons_inj h
    obtain ⟨h2, _⟩ := cons_inj h
    have h3 : y = x := enDev.inj h1
    simp at h2
    simp [h3, h2.2]
theorem p198 : Pure Tryz.prog 198 g198 := by
  refine semOf_pure fun ⟨τ, τ', x, i⟩ n h2 _ => ?_
  refine SatP.of_body Table.nil hm Tryz.func198 s198 o198 h2 (by simp) ?_
  simp (config := {contextual := true}) [c198, go_sem]
theorem s197 : slimF Tryz.f197 = some (idxC 36 135, [.t 4], 19) := by kernel_rfl
theorem o197_198 : okF [(198, g198)] Tryz.f197 = true := by kernel_rfl
noncomputable def g197_198 : Fsem := idxSem (ι := Nat × Int) enDev 198 (fun i => [.dptr i.1 [.int .i64 i.2]]) (fun i x => decide (x.id = i.2))
@[go_sem] theorem g197_198_eq {n τ τ' : Nat} {l : List Dev} {i : Int} : g197_198 n [.sl τ 2 (l.map (enDev.av τ)), .fn 198 [.dptr τ' [.int .i64 i]]] = ⟨True, .int .i64 (idx (fun x => decide (x.id = i)) l)⟩ :=
  idxSem_eq (E := enDev) (caps := fun i : Nat × Int => [.dptr i.1 [.int .i64 i.2]]) (p := fun i x => decide (x.id = i.2)) (τ', i) (fun j h => by first | (simp at h; simp [h]; done) | (simp only [List.cons.injEq, AV.dptr.injEq, and_true] at h; skip))
theorem p197_198 : Pure Tryz.prog 197 g197_198 := idxSem_pure hm Tryz.func197 s197 o197_198 (by omega) ty_36 fit_135 p198 (fun i c hc => by simp at hc; subst hc; rfl) (fun i n τ x => by simp [go_sem])
noncomputable def g197 : Fsem := dsp [(198, g197_198)]
theorem p197 : Pure Tryz.prog 197 g197 := dsp_pure (by simp only [List.mem_cons, List.not_mem_nil, or_false, forall_eq_or_imp, forall_eq]; exact p197_198)
@[go_sem] theorem g197_dsp : g197 = dsp [(198, g197_198)] := rfl
def c163 : SCode := (.seq (.reg [⟨(some 2), .box 39 (.tmp 0), none⟩,
   ⟨(some 3), .box 2 (.tmp 1), none⟩,
   ⟨(some 4), .assign (.const (.int .i64 0)), none⟩])
(.seq (.reg [⟨(some 5), .fieldAddr 39 (.tmp 2) 0, none⟩,
    ⟨(some 6), .load 36 (.tmp 5), none⟩,
    ⟨(some 7), .makeFunc (Fn.func 198) #[] #[(.tmp 3)], none⟩,
    ⟨(some 8), .call ⟨(.value (.func 197)), #[(.tmp 6), (.tmp 7)], #[36, 213]⟩, none⟩,
    ⟨(some 4), .assign (.tmp 8), none⟩])
 .ret))
theorem s163 : slimF Tryz.f163 = some (c163, [.t 4], 9) := by kernel_rfl
theorem o163 : okF [(197, g197)] Tryz.f163 = true := by kernel_rfl
noncomputable def g163 : Fsem := sem2 enTree (En.int .i64) (fun t id => True) (fun n t id => .int .i64 (devI t id))
@[go_sem] theorem g163_eq {n τ : Nat} {t : Tree} {id : Int} : g163 n [.agg [.sl τ 2 (t.devices.map (enDev.av τ)), .sl τ 3 (t.buckets.map (enBkt.av τ))], .int .i64 id] = ⟨True, .int .i64 (devI t id)⟩ := sem2_eq (τ' := 0) (E := enTree) (F := (En.int .i64))
theorem p163 : Pure Tryz.prog 163 g163 := by
  refine sem2_pure fun τ τ' t id n h2 hpre => ?_
  have hT : Table Tryz.prog [(197, g197)] := (.cons p197 .nil)
  have hn0 : n ≠ 0 := by omega
  refine SatP.of_body hT hm Tryz.func163 s163 o163 h2 (by simp) ?_
  simp (config := {contextual := true, maxSteps := 2000000, implicitDefEqProofs := false}) [c163, go_sem, devI]
def c219 : SCode := (.seq (.reg [⟨(some 2), .box 125 (.tmp 0), none⟩,
   ⟨(some 3), .assign (.const (.bool false)), none⟩])
(.seq (.reg [⟨(some 4), .fieldAddr 125 (.tmp 2) 0, none⟩,
    ⟨(some 5), .load 2 (.tmp 4), none⟩,
    ⟨(some 6), .load 2 (.tmp 1), none⟩,
    ⟨(some 7), .binOp .eql 2 (.tmp 5) (.tmp 6) 2, none⟩,
    ⟨(some 3), .assign (.tmp 7), none⟩])
 .ret))
theorem s219 : slimF Tryz.f219 = some (c219, [.t 3], 8) := by kernel_rfl
theorem o219 : okF [] Tryz.f219 = true := by kernel_rfl
noncomputable def g219 : Fsem := semOf (fun i : Nat × Nat × Bkt × Int => [enBkt.av i.1 i.2.2.1, .dptr i.2.1 [.int .i64 i.2.2.2]]) (fun _ => True) (fun _ i => .bool (decide (i.2.2.1.id = i.2.2.2)))
@[go_sem] theorem g219_eq {n τ τ' : Nat} {x : Bkt} {i : Int} : g219 n [.agg [.int .i64 x.id, .int .i64 x.kind, .sl τ 1 (x.items.map (AV.int .i64))], .dptr τ' [.int .i64 i]] = ⟨True, .bool (decide (x.id = i))⟩ :=
  semOf_eq (τ, τ', x, i) rfl fun ⟨_, _, y, j⟩ h => by
    obtain ⟨h1, h⟩ := cons_inj h
    obtain ⟨h2, _⟩ := cons_inj h
    have h3 : y = x := enBkt.inj h1
    simp at h2
    simp [h3, h2.2]
theorem p219 : Pure Tryz.prog 219 g219 := by
  refine semOf_pure fun ⟨τ, τ', x, i⟩ n h2 _ => ?_
  refine SatP.of_body Table.nil hm Tryz.func219 s219 o219 h2 (by simp) ?_
  simp (config := {contextual := true}) [c219, go_sem]
theorem s218 : slimF Tryz.f218 = some (idxC 37 125, [.t 4], 19) := by kernel_rfl
theorem o218_219 : okF [(219, g219)] Tryz.f218 = true := by kernel_rfl
noncomputable def g218_219 : Fsem := idxSem (ι := Nat × Int) enBkt 219 (fun i => [.dptr i.1 [.int .i64 i.2]]) (fun i x => decide (x.id = i.2))
@[go_sem] theorem g218_219_eq {n τ τ' : Nat} {l : List Bkt} {i : Int} : g218_219 n [.sl τ 3 (l.map (enBkt.av τ)), .fn 219 [.dptr τ' [.int .i64 i]]] = ⟨True, .int .i64 (idx (fun x => decide (x.id = i)) l)⟩ :=
  idxSem_eq (E := enBkt) (caps := fun i : Nat × Int => [.dptr i.1 [.int .i64 i.2]]) (p := fun i x => decide (x.id = i.2)) (τ', i) (fun j h => by first | (simp at h; simp [h]; done) | (simp only [List.cons.injEq, AV.dptr.injEq, and_true] at h; skip))
theorem p218_219 : Pure Tryz.prog 218 g218_219 := idxSem_pure hm Tryz.func218 s218 o218_219 (by omega) ty_37 fit_125 p219 (fun i c hc => by simp at hc; subst hc; rfl) (fun i n τ x => by simp [go_sem])
noncomputable def g218 : Fsem := dsp [(219, g218_219)]
theorem p218 : Pure Tryz.prog 218 g218 := dsp_pure (by simp only [List.mem_cons, List.not_mem_nil, or_false, forall_eq_or_imp, forall_eq]; exact p218_219)
@[go_sem] theorem g218_dsp : g218 = dsp [(219, g218_219)] := rfl
def c195 : SCode := (.seq (.reg [⟨(some 2), .box 39 (.tmp 0), none⟩,
   ⟨(some 3), .box 2 (.tmp 1), none⟩,
   ⟨(some 4), .assign (.const (.pointer none)), none⟩])
(.seq (.reg [⟨(some 6), .fieldAddr 39 (.tmp 2) 1, none⟩,
    ⟨(some 7), .load 37 (.tmp 6), none⟩,
    ⟨(some 8), .makeFunc (Fn.func 219) #[] #[(.tmp 3)], none⟩,
    ⟨(some 9), .call ⟨(.value (.func 218)), #[(.tmp 7), (.tmp 8)], #[37, 185]⟩, none⟩,
    ⟨(some 5), .assign (.tmp 9), none⟩])
 (.seq (.seq (.reg [⟨(some 10), .move (.tmp 5), none⟩,
      ⟨(some 11), .binOp .lss 3 (.tmp 10) (.const (.int .i64 0)) 3, none⟩])
   (.cond (.tmp 11) (.seq (.reg [⟨(some 4), .assign (.const (.pointer none)), none⟩])
     .ret)
    .skip))
  (.seq (.reg [⟨(some 12), .fieldAddr 39 (.tmp 2) 1, none⟩,
      ⟨(some 13), .load 37 (.tmp 12), none⟩,
      ⟨(some 14), .move (.tmp 5), none⟩,
      ⟨(some 15), .indexAddr 37 (.tmp 13) (.tmp 14), none⟩,
      ⟨(some 4), .assign (.tmp 15), none⟩])
   .ret))))
theorem s195 : slimF Tryz.f195 = some (c195, [.t 4], 16) := by kernel_rfl
theorem o195 : okF [(218, g218)] Tryz.f195 = true := by kernel_rfl
noncomputable def g195 : Fsem := semT2 enTree (En.int .i64) (fun τ t id => τ ≠ 0) (fun n τ t id => match bktO t id with | some b => .dptr τ [.int .i64 b.id, .int .i64 b.kind, .sl τ 1 (b.items.map (AV.int .i64))] | none => .nilp)
@[go_sem] theorem g195_eq {n τ : Nat} {t : Tree} {id : Int} : g195 n [.agg [.sl τ 2 (t.devices.map (enDev.av τ)), .sl τ 3 (t.buckets.map (enBkt.av τ))], .int .i64 id] = ⟨τ ≠ 0, match bktO t id with | some b => .dptr τ [.int .i64 b.id, .int .i64 b.kind, .sl τ 1 (b.items.map (AV.int .i64))] | none => .nilp⟩ := semT2_eq (τ' := 0) (E := enTree) (F := (En.int .i64)) (seen_Tree)
theorem p195 : Pure Tryz.prog 195 g195 := by
  refine semT2_pure fun τ τ' t id n h2 hpre => ?_
  have hT : Table Tryz.prog [(218, g218)] := (.cons p218 .nil)
  have hn0 : n ≠ 0 := by omega
  refine SatP.of_body hT hm Tryz.func195 s195 o195 h2 (by simp) ?_
  have hp : τ ≠ 0 := hpre
  rcases idx_spec (fun b : Bkt => decide (b.id = id)) t.buckets with ⟨h1, hb⟩ | ⟨a, x, b, hl, h2, h3, hb⟩
  · simp [c195, go_sem, h1, bktO, hb]
  · have h4 : (0 : Int) ≤ a.length := by omega
    have h5 : ¬ (a.length : Int) < 0 := by omega
    have h6 : (a.length : Int) < (a.length : Int) + ((b.length : Int) + 1) := by omega
    simp only [bktO, hb]
    simp [c195, go_sem, h3]
    simp [go_sem, hl, h4, h5, h6, hp]
def c158 : SCode := (.seq (.reg [⟨(some 2), .box 39 (.tmp 0), none⟩,
   ⟨(some 4), .assign (.const (.int .i64 0)), none⟩])
(.seq (.seq (.reg [⟨(some 6), .load 39 (.tmp 2), none⟩,
     ⟨(some 7), .move (.tmp 1), none⟩,
     ⟨(some 8), .call ⟨(.value (.func 163)), #[(.tmp 6), (.tmp 7)], #[39, 2]⟩, none⟩,
     ⟨(some 9), .binOp .geq 3 (.tmp 8) (.const (.int .i64 0)) 3, none⟩])
  (.cond (.tmp 9) (.seq (.reg [⟨(some 4), .assign (.const (.int .i64 0)), none⟩])
    .ret)
   .skip))
 (.seq (.seq (.reg [⟨(some 10), .load 39 (.tmp 2), none⟩,
      ⟨(some 11), .move (.tmp 1), none⟩,
      ⟨(some 12), .call ⟨(.value (.func 195)), #[(.tmp 10), (.tmp 11)], #[39, 2]⟩, none⟩,
      ⟨(some 5), .assign (.tmp 12), none⟩])
   (.seq (.reg [⟨(some 13), .move (.tmp 5), none⟩,
       ⟨(some 14), .binOp .neq 209 (.tmp 13) (.const (.pointer none)) 209, none⟩])
    (.cond (.tmp 14) (.seq (.reg [⟨(some 15), .move (.tmp 5), none⟩,
         ⟨(some 16), .nilCheck (.tmp 15), none⟩,
         ⟨(some 17), .fieldAddr 125 (.tmp 16) 1, none⟩,
         ⟨(some 18), .load 2 (.tmp 17), none⟩,
         ⟨(some 4), .assign (.tmp 18), none⟩])
      .ret)
     .skip)))
  (.seq (.reg [⟨(some 4), .assign (.const (.int .i64 (-1))), none⟩])
   .ret))))
theorem s158 : slimF Tryz.f158 = some (c158, [.t 4], 19) := by kernel_rfl
theorem o158 : okF [(163, g163), (195, g195)] Tryz.f158 = true := by kernel_rfl
noncomputable def g158 : Fsem := semT2 enTree (En.int .i64) (fun τ t id => τ ≠ 0) (fun n τ t id => .int .i64 (kindOf t id))
@[go_sem] theorem g158_eq {n τ : Nat} {t : Tree} {id : Int} : g158 n [.agg [.sl τ 2 (t.devices.map (enDev.av τ)), .sl τ 3 (t.buckets.map (enBkt.av τ))], .int .i64 id] = ⟨τ ≠ 0, .int .i64 (kindOf t id)⟩ := semT2_eq (τ' := 0) (E := enTree) (F := (En.int .i64)) (seen_Tree)
theorem p158 : Pure Tryz.prog 158 g158 := by
  refine semT2_pure fun τ τ' t id n h2 hpre => ?_
  have hT : Table Tryz.prog [(163, g163), (195, g195)] := (.cons p163 (.cons p195 .nil))
  have hn0 : n ≠ 0 := by omega
  refine SatP.of_body hT hm Tryz.func158 s158 o158 h2 (by simp) ?_
  have hp : τ ≠ 0 := hpre
  cases hb : bktO t id with
  | none => simp (config := {contextual := true, maxSteps := 2000000, implicitDefEqProofs := false}) [c158, go_sem, hb, hp, kindOf]
  | some b =>
    simp (config := {contextual := true, maxSteps := 2000000, implicitDefEqProofs := false}) [c158, go_sem, hb, hp, kindOf]
    grind
def c97 : SCode := (.seq (.reg [⟨(some 2), .box 39 (.tmp 0), none⟩,
   ⟨(some 4), .assign (.const (.int .i64 0)), none⟩])
(.seq (.seq (.reg [⟨(some 5), .assign (.const (.int .i64 0)), none⟩])
  (.block 0 (.loop (.seq (.seq (.reg [⟨(some 6), .move (.tmp 5), none⟩,
         ⟨(some 7), .fieldAddr 39 (.tmp 2) 0, none⟩,
         ⟨(some 8), .load 36 (.tmp 7), none⟩,
         ⟨(some 9), .call ⟨(.builtin .len), #[(.tmp 8)], #[36]⟩, none⟩,
         ⟨(some 10), .binOp .lss 3 (.tmp 6) (.tmp 9) 3, none⟩])
      (.cond (.tmp 10) .skip
       (.exit 0)))
     (.seq (.block 1 (.seq (.reg [⟨(some 13), .fieldAddr 39 (.tmp 2) 0, none⟩,
           ⟨(some 14), .load 36 (.tmp 13), none⟩,
           ⟨(some 15), .move (.tmp 5), none⟩,
           ⟨(some 16), .indexAddr 36 (.tmp 14) (.tmp 15), none⟩,
           ⟨(some 17), .fieldAddr 135 (.tmp 16) 0, none⟩,
           ⟨(some 18), .load 2 (.tmp 17), none⟩,
           ⟨(some 19), .move (.tmp 1), none⟩,
           ⟨(some 20), .binOp .eql 2 (.tmp 18) (.tmp 19) 2, none⟩])
        (.cond (.tmp 20) (.seq (.reg [⟨(some 21), .move (.tmp 5), none⟩,
             ⟨(some 4), .assign (.tmp 21), none⟩])
          .ret)
         .skip)))
      (.reg [⟨(some 11), .move (.tmp 5), none⟩,
         ⟨(some 12), .binOp .add 3 (.tmp 11) (.const (.int .i64 1)) 3, none⟩,
         ⟨(some 5), .assign (.tmp 12), none⟩]))))))
 (.seq (.reg [⟨(some 4), .assign (.const (.int .i64 (-1))), none⟩])
  .ret)))
theorem s97 : slimF Tryz.f97 = some (c97, [.t 4], 22) := by kernel_rfl
theorem o97 : okF [] Tryz.f97 = true := by kernel_rfl
noncomputable def g97 : Fsem := sem2 enTree (En.int .i64) (fun t id => True) (fun n t id => .int .i64 (devI t id))
@[go_sem] theorem g97_eq {n τ : Nat} {t : Tree} {id : Int} : g97 n [.agg [.sl τ 2 (t.devices.map (enDev.av τ)), .sl τ 3 (t.buckets.map (enBkt.av τ))], .int .i64 id] = ⟨True, .int .i64 (devI t id)⟩ := sem2_eq (τ' := 0) (E := enTree) (F := (En.int .i64))
theorem p97 : Pure Tryz.prog 97 g97 := by
  refine sem2_pure fun τ τ' t id n h2 hpre => ?_
  have hT : Table Tryz.prog [] := .nil
  have hn0 : n ≠ 0 := by omega
  refine SatP.of_body hT hm Tryz.func97 s97 o97 h2 (by simp) ?_
  simp (config := {contextual := true, maxSteps := 2000000, implicitDefEqProofs := false}) [c97, go_sem]
  refine VW_listK hT h2 hm t.devices [1, 2] (fun pre post (u0 : Unit) => [(5, .int .i64 pre.length)]) (fun pre post (u0 : Unit) => idxF (fun d : Dev => decide (d.id = id)) post pre.length = devI t id) () ?_ ?_ ?_ ?_
  · rfl
  · simp [SubI, go_sem]
  · rintro u0 hR
    simp (config := {contextual := true, maxSteps := 2000000, implicitDefEqProofs := false}) [go_sem]
    simp [idxF] at hR; grind
  · rintro pre x post u0 hl hlen hR
    have hw : pre.length + (post.length + 1) ≤ maxLen → IntKind.i64.wrap ((pre.length : Int) + 1) = (pre.length : Int) + 1 := fun h => wrap_next h (by omega)
    have h3 : (0 : Int) ≤ pre.length := by omega
    have h4 : (pre.length : Int) < (pre.length : Int) + ((post.length : Int) + 1) := by omega
    have h5 : ¬ (pre.length : Int) + ((post.length : Int) + 1) ≤ (pre.length : Int) := by omega
    simp only [idxF] at hR
    by_cases hp : x.id = id
    · simp [hp] at hR
      simp (config := {contextual := true, maxSteps := 2000000, implicitDefEqProofs := false}) [go_sem, hw, h3, h4, h5, ← hl, SubI, hp] <;> grind
    · simp [hp] at hR
      simp (config := {contextual := true, maxSteps := 2000000, implicitDefEqProofs := false}) [go_sem, hw, h3, h4, h5, ← hl, SubI, hp] <;> grind
def c153 : SCode := (.seq (.reg [⟨(some 2), .box 39 (.tmp 0), none⟩,
   ⟨(some 4), .assign (.const (.int .i64 0)), none⟩])
(.seq (.seq (.reg [⟨(some 5), .assign (.const (.int .i64 0)), none⟩])
  (.block 0 (.loop (.seq (.seq (.reg [⟨(some 6), .move (.tmp 5), none⟩,
         ⟨(some 7), .fieldAddr 39 (.tmp 2) 1, none⟩,
         ⟨(some 8), .load 37 (.tmp 7), none⟩,
         ⟨(some 9), .call ⟨(.builtin .len), #[(.tmp 8)], #[37]⟩, none⟩,
         ⟨(some 10), .binOp .lss 3 (.tmp 6) (.tmp 9) 3, none⟩])
      (.cond (.tmp 10) .skip
       (.exit 0)))
     (.seq (.block 1 (.seq (.reg [⟨(some 13), .fieldAddr 39 (.tmp 2) 1, none⟩,
           ⟨(some 14), .load 37 (.tmp 13), none⟩,
           ⟨(some 15), .move (.tmp 5), none⟩,
           ⟨(some 16), .indexAddr 37 (.tmp 14) (.tmp 15), none⟩,
           ⟨(some 17), .fieldAddr 125 (.tmp 16) 0, none⟩,
           ⟨(some 18), .load 2 (.tmp 17), none⟩,
           ⟨(some 19), .move (.tmp 1), none⟩,
           ⟨(some 20), .binOp .eql 2 (.tmp 18) (.tmp 19) 2, none⟩])
        (.cond (.tmp 20) (.seq (.reg [⟨(some 21), .move (.tmp 5), none⟩,
             ⟨(some 4), .assign (.tmp 21), none⟩])
          .ret)
         .skip)))
      (.reg [⟨(some 11), .move (.tmp 5), none⟩,
         ⟨(some 12), .binOp .add 3 (.tmp 11) (.const (.int .i64 1)) 3, none⟩,
         ⟨(some 5), .assign (.tmp 12), none⟩]))))))
 (.seq (.reg [⟨(some 4), .assign (.const (.int .i64 (-1))), none⟩])
  .ret)))
theorem s153 : slimF Tryz.f153 = some (c153, [.t 4], 22) := by kernel_rfl
theorem o153 : okF [] Tryz.f153 = true := by kernel_rfl
noncomputable def g153 : Fsem := sem2 enTree (En.int .i64) (fun t id => True) (fun n t id => .int .i64 (bktI t id))
@[go_sem] theorem g153_eq {n τ : Nat} {t : Tree} {id : Int} : g153 n [.agg [.sl τ 2 (t.devices.map (enDev.av τ)), .sl τ 3 (t.buckets.map (enBkt.av τ))], .int .i64 id] = ⟨True, .int .i64 (bktI t id)⟩ := sem2_eq (τ' := 0) (E := enTree) (F := (En.int .i64))
theorem p153 : Pure Tryz.prog 153 g153 := by
  refine sem2_pure fun τ τ' t id n h2 hpre => ?_
  have hT : Table Tryz.prog [] := .nil
  have hn0 : n ≠ 0 := by omega
  refine SatP.of_body hT hm Tryz.func153 s153 o153 h2 (by simp) ?_
  simp (config := {contextual := true, maxSteps := 2000000, implicitDefEqProofs := false}) [c153, go_sem]
  refine VW_listK hT h2 hm t.buckets [1, 2] (fun pre post (u0 : Unit) => [(5, .int .i64 pre.length)]) (fun pre post (u0 : Unit) => idxF (fun d : Bkt => decide (d.id = id)) post pre.length = bktI t id) () ?_ ?_ ?_ ?_
  · rfl
  · simp [SubI, go_sem]
  · rintro u0 hR
    simp (config := {contextual := true, maxSteps := 2000000, implicitDefEqProofs := false}) [go_sem]
    simp [idxF] at hR; grind
  · rintro pre x post u0 hl hlen hR
    have hw : pre.length + (post.length + 1) ≤ maxLen → IntKind.i64.wrap ((pre.length : Int) + 1) = (pre.length : Int) + 1 := fun h => wrap_next h (by omega)
    have h3 : (0 : Int) ≤ pre.length := by omega
    have h4 : (pre.length : Int) < (pre.length : Int) + ((post.length : Int) + 1) := by omega
    have h5 : ¬ (pre.length : Int) + ((post.length : Int) + 1) ≤ (pre.length : Int) := by omega
    simp only [idxF] at hR
    by_cases hp : x.id = id
    · simp [hp] at hR
      simp (config := {contextual := true, maxSteps := 2000000, implicitDefEqProofs := false}) [go_sem, hw, h3, h4, h5, ← hl, SubI, hp] <;> grind
    · simp [hp] at hR
      simp (config := {contextual := true, maxSteps := 2000000, implicitDefEqProofs := false}) [go_sem, hw, h3, h4, h5, ← hl, SubI, hp] <;> grind
def c144 : SCode := (.seq (.reg [⟨(some 2), .box 39 (.tmp 0), none⟩,
   ⟨(some 4), .assign (.const (.int .i64 0)), none⟩])
(.seq (.seq (.reg [⟨(some 5), .assign (.const (.int .i64 0)), none⟩])
  (.block 0 (.loop (.seq (.seq (.reg [⟨(some 6), .move (.tmp 5), none⟩,
         ⟨(some 7), .fieldAddr 39 (.tmp 2) 0, none⟩,
         ⟨(some 8), .load 36 (.tmp 7), none⟩,
         ⟨(some 9), .call ⟨(.builtin .len), #[(.tmp 8)], #[36]⟩, none⟩,
         ⟨(some 10), .binOp .lss 3 (.tmp 6) (.tmp 9) 3, none⟩])
      (.cond (.tmp 10) .skip
       (.exit 0)))
     (.seq (.block 1 (.seq (.reg [⟨(some 13), .fieldAddr 39 (.tmp 2) 0, none⟩,
           ⟨(some 14), .load 36 (.tmp 13), none⟩,
           ⟨(some 15), .move (.tmp 5), none⟩,
           ⟨(some 16), .indexAddr 36 (.tmp 14) (.tmp 15), none⟩,
           ⟨(some 17), .fieldAddr 135 (.tmp 16) 0, none⟩,
           ⟨(some 18), .load 2 (.tmp 17), none⟩,
           ⟨(some 19), .move (.tmp 1), none⟩,
           ⟨(some 20), .binOp .eql 2 (.tmp 18) (.tmp 19) 2, none⟩])
        (.cond (.tmp 20) (.seq (.reg [⟨(some 21), .move (.tmp 5), none⟩,
             ⟨(some 4), .assign (.tmp 21), none⟩])
          .ret)
         .skip)))
      (.reg [⟨(some 11), .move (.tmp 5), none⟩,
         ⟨(some 12), .binOp .add 3 (.tmp 11) (.const (.int .i64 1)) 3, none⟩,
         ⟨(some 5), .assign (.tmp 12), none⟩]))))))
 (.seq (.reg [⟨(some 4), .assign (.const (.int .i64 (-1))), none⟩])
  .ret)))
theorem s144 : slimF Tryz.f144 = some (c144, [.t 4], 22) := by kernel_rfl
theorem o144 : okF [] Tryz.f144 = true := by kernel_rfl
noncomputable def g144 : Fsem := sem2 enTree (En.int .i64) (fun t id => True) (fun n t id => .int .i64 (devI t id))
@[go_sem] theorem g144_eq {n τ : Nat} {t : Tree} {id : Int} : g144 n [.agg [.sl τ 2 (t.devices.map (enDev.av τ)), .sl τ 3 (t.buckets.map (enBkt.av τ))], .int .i64 id] = ⟨True, .int .i64 (devI t id)⟩ := sem2_eq (τ' := 0) (E := enTree) (F := (En.int .i64))
theorem p144 : Pure Tryz.prog 144 g144 := by
  refine sem2_pure fun τ τ' t id n h2 hpre => ?_
  have hT : Table Tryz.prog [] := .nil
  have hn0 : n ≠ 0 := by omega
  refine SatP.of_body hT hm Tryz.func144 s144 o144 h2 (by simp) ?_
  simp (config := {contextual := true, maxSteps := 2000000, implicitDefEqProofs := false}) [c144, go_sem]
  refine VW_listK hT h2 hm t.devices [1, 2] (fun pre post (u0 : Unit) => [(5, .int .i64 pre.length)]) (fun pre post (u0 : Unit) => idxF (fun d : Dev => decide (d.id = id)) post pre.length = devI t id) () ?_ ?_ ?_ ?_
  · rfl
  · simp [SubI, go_sem]
  · rintro u0 hR
    simp (config := {contextual := true, maxSteps := 2000000, implicitDefEqProofs := false}) [go_sem]
    simp [idxF] at hR; grind
  · rintro pre x post u0 hl hlen hR
    have hw : pre.length + (post.length + 1) ≤ maxLen → IntKind.i64.wrap ((pre.length : Int) + 1) = (pre.length : Int) + 1 := fun h => wrap_next h (by omega)
    have h3 : (0 : Int) ≤ pre.length := by omega
    have h4 : (pre.length : Int) < (pre.length : Int) + ((post.length : Int) + 1) := by omega
    have h5 : ¬ (pre.length : Int) + ((post.length : Int) + 1) ≤ (pre.length : Int) := by omega
    simp only [idxF] at hR
    by_cases hp : x.id = id
    · simp [hp] at hR
      simp (config := {contextual := true, maxSteps := 2000000, implicitDefEqProofs := false}) [go_sem, hw, h3, h4, h5, ← hl, SubI, hp] <;> grind
    · simp [hp] at hR
      simp (config := {contextual := true, maxSteps := 2000000, implicitDefEqProofs := false}) [go_sem, hw, h3, h4, h5, ← hl, SubI, hp] <;> grind
end Go.Ve
namespace Go.Ve
open Go.Proofs Go.RowKit
set_option linter.unusedVariables false
set_option linter.unusedSimpArgs false
set_option maxRecDepth 10000
set_option maxHeartbeats 4000000
def has (l : List Int) (x : Int) : Bool := l.any fun y => decide (y = x)
theorem has_iff {l : List Int} {x : Int} : has l x = true ↔ x ∈ l := by simp [has]
def devOk (o : Option Dev) (d : Dev) : Bool := btw d.id 0 15 && btw d.weight 0 8 && (match o with
  | some y => decide (y.id < d.id)
  | none => true)
def devsOk (t : Tree) : Bool := chk devOk none t.devices && decide (t.devices.length ≤ 16)
def kinds (t : Tree) (l : List Int) (a : List Int) : List Int := l.foldl (fun a id => ins a (kindOf t id)) a
def itemsOk (t : Tree) (b : Bkt) : Bool :=
  if b.items = [] then true else if 1 < (kinds t b.items []).length then false
  else if b.kind = 3 then decide (1 ∈ kinds t b.items []) || decide (2 ∈ kinds t b.items []) else decide (IntKind.i64.wrap (b.kind - 1) ∈ kinds t b.items [])
def bktOk (t : Tree) (o : Option Bkt) (b : Bkt) : Bool := btw b.id (-12) (-1) && (match o with
  | some y => decide (b.id < y.id)
  | none => true) && btw b.kind 1 3 && decide (b.items.length ≤ 8) && itemsOk t b
/-- Items are marked as used, none twice. -/
def useB : List Int → List Int → Option (List Int)
  | acc, [] => some acc
  | acc, id :: l => if id ∈ acc then none else useB (ins acc id) l
def treeL (t : Tree) : Option Bkt → List Int → List Bkt → Bool
  | _, _, [] => true
  | o, acc, b :: l => bktOk t o b && (useB acc b.items).elim false (fun acc' => treeL t (some b) acc' l)
def treeOkI (t : Tree) : Bool := devsOk t && decide (t.buckets.length ≤ 12) && treeL t none [] t.buckets
theorem last_concat {α : Type} {q : List α} {y : α} : (q ++ [y]).getLast? = some y := by simp
def c94 : SCode := (.seq (.reg [⟨(some 2), .box 39 (.tmp 0), none⟩,
   ⟨(some 4), .assign (.const (.int .i64 0)), none⟩])
(.seq (.seq (.reg [⟨(some 6), .load 39 (.tmp 2), none⟩,
     ⟨(some 7), .move (.tmp 1), none⟩,
     ⟨(some 8), .call ⟨(.value (.func 97)), #[(.tmp 6), (.tmp 7)], #[39, 2]⟩, none⟩,
     ⟨(some 9), .binOp .geq 3 (.tmp 8) (.const (.int .i64 0)) 3, none⟩])
  (.cond (.tmp 9) (.seq (.reg [⟨(some 4), .assign (.const (.int .i64 0)), none⟩])
    .ret)
   .skip))
 (.seq (.seq (.reg [⟨(some 10), .load 39 (.tmp 2), none⟩,
      ⟨(some 11), .move (.tmp 1), none⟩,
      ⟨(some 12), .call ⟨(.value (.func 153)), #[(.tmp 10), (.tmp 11)], #[39, 2]⟩, none⟩,
      ⟨(some 5), .assign (.tmp 12), none⟩])
   (.seq (.reg [⟨(some 13), .move (.tmp 5), none⟩,
       ⟨(some 14), .binOp .geq 3 (.tmp 13) (.const (.int .i64 0)) 3, none⟩])
    (.cond (.tmp 14) (.seq (.reg [⟨(some 15), .fieldAddr 39 (.tmp 2) 1, none⟩,
         ⟨(some 16), .load 37 (.tmp 15), none⟩,
         ⟨(some 17), .move (.tmp 5), none⟩,
         ⟨(some 18), .indexAddr 37 (.tmp 16) (.tmp 17), none⟩,
         ⟨(some 19), .fieldAddr 125 (.tmp 18) 1, none⟩,
         ⟨(some 20), .load 2 (.tmp 19), none⟩,
         ⟨(some 4), .assign (.tmp 20), none⟩])
      .ret)
     .skip)))
  (.seq (.reg [⟨(some 4), .assign (.const (.int .i64 (-1))), none⟩])
   .ret))))
theorem s94 : slimF Tryz.f94 = some (c94, [.t 4], 21) := by kernel_rfl
theorem o94 : okF [(97, g97), (153, g153)] Tryz.f94 = true := by kernel_rfl
noncomputable def g94 : Fsem := sem2 enTree (En.int .i64) (fun t id => True) (fun n t id => .int .i64 (kindOf t id))
@[go_sem] theorem g94_eq {n τ : Nat} {t : Tree} {id : Int} : g94 n [.agg [.sl τ 2 (t.devices.map (enDev.av τ)), .sl τ 3 (t.buckets.map (enBkt.av τ))], .int .i64 id] = ⟨True, .int .i64 (kindOf t id)⟩ := sem2_eq (τ' := 0) (E := enTree) (F := (En.int .i64))
theorem p94 : Pure Tryz.prog 94 g94 := by
  refine sem2_pure fun τ τ' t id n h2 hpre => ?_
  have hT : Table Tryz.prog [(97, g97), (153, g153)] := (.cons p97 (.cons p153 .nil))
  have hn0 : n ≠ 0 := by omega
  refine SatP.of_body hT hm Tryz.func94 s94 o94 h2 (by simp) ?_
  rcases idx_spec (fun b : Bkt => decide (b.id = id)) t.buckets with ⟨h1, hb⟩ | ⟨a, x, b, hl, h2, h3, hb⟩
  · simp (config := {contextual := true, maxSteps := 2000000, implicitDefEqProofs := false}) [c94, go_sem, bktI, h1, kindOf, bktO, hb] <;> grind
  · have h4 : (0 : Int) ≤ a.length := by omega
    have h6 : (a.length : Int) < (a.length : Int) + ((b.length : Int) + 1) := by omega
    simp only [kindOf, bktO, hb]
    simp (config := {contextual := true, maxSteps := 2000000, implicitDefEqProofs := false}) [c94, go_sem, bktI, h3]
    simp (config := {contextual := true, maxSteps := 2000000, implicitDefEqProofs := false}) [go_sem, hl, h4, h6] <;> grind
def c126 : SCode := (.seq (.reg [⟨(some 4), .assign (.const (.bool false)), none⟩])
(.seq (.seq (.reg [⟨(some 5), .assign (.const (.int .i64 0)), none⟩])
  (.block 0 (.loop (.seq (.seq (.reg [⟨(some 6), .move (.tmp 5), none⟩,
         ⟨(some 7), .move (.tmp 0), none⟩,
         ⟨(some 8), .call ⟨(.builtin .len), #[(.tmp 7)], #[28]⟩, none⟩,
         ⟨(some 9), .binOp .lss 3 (.tmp 6) (.tmp 8) 3, none⟩])
      (.cond (.tmp 9) .skip
       (.exit 0)))
     (.seq (.block 1 (.seq (.reg [⟨(some 12), .move (.tmp 0), none⟩,
           ⟨(some 13), .move (.tmp 5), none⟩,
           ⟨(some 14), .indexAddr 28 (.tmp 12) (.tmp 13), none⟩,
           ⟨(some 15), .load 2 (.tmp 14), none⟩,
           ⟨(some 16), .move (.tmp 1), none⟩,
           ⟨(some 17), .binOp .eql 2 (.tmp 15) (.tmp 16) 2, none⟩])
        (.cond (.tmp 17) (.seq (.reg [⟨(some 4), .assign (.const (.bool true)), none⟩])
          .ret)
         .skip)))
      (.reg [⟨(some 10), .move (.tmp 5), none⟩,
         ⟨(some 11), .binOp .add 3 (.tmp 10) (.const (.int .i64 1)) 3, none⟩,
         ⟨(some 5), .assign (.tmp 11), none⟩]))))))
 (.seq (.reg [⟨(some 4), .assign (.const (.bool false)), none⟩])
  .ret)))
theorem s126 : slimF Tryz.f126 = some (c126, [.t 4], 18) := by kernel_rfl
theorem o126 : okF [] Tryz.f126 = true := by kernel_rfl
noncomputable def g126 : Fsem := sem2 (En.int .i64).list (En.int .i64) (fun l x => True) (fun n l x => .bool (has l x))
@[go_sem] theorem g126_eq {n τ : Nat} {l : List Int} {x : Int} : g126 n [.sl τ 1 (l.map (AV.int .i64)), .int .i64 x] = ⟨True, .bool (has l x)⟩ := sem2_eq (τ' := 0) (E := (En.int .i64).list) (F := (En.int .i64))
theorem p126 : Pure Tryz.prog 126 g126 := by
  refine sem2_pure fun τ τ' l x n h2 hpre => ?_
  have hT : Table Tryz.prog [] := .nil
  have hn0 : n ≠ 0 := by omega
  refine SatP.of_body hT hm Tryz.func126 s126 o126 h2 (by simp) ?_
  simp (config := {contextual := true, maxSteps := 2000000, implicitDefEqProofs := false}) [c126, go_sem]
  refine VW_listK hT h2 hm l [0, 1] (fun pre post (u0 : Unit) => [(5, .int .i64 pre.length)]) (fun pre post (u0 : Unit) => post.any (fun y => decide (y = x)) = has l x) () ?_ ?_ ?_ ?_
  · rfl
  · simp [SubI, go_sem]
  · rintro u0 hR
    simp (config := {contextual := true, maxSteps := 2000000, implicitDefEqProofs := false}) [go_sem]
    simp at hR; grind
  · rintro pre x0 post u0 hl hlen hR
    have hw : pre.length + (post.length + 1) ≤ maxLen → IntKind.i64.wrap ((pre.length : Int) + 1) = (pre.length : Int) + 1 := fun h => wrap_next h (by omega)
    have h3 : (0 : Int) ≤ pre.length := by omega
    have h4 : (pre.length : Int) < (pre.length : Int) + ((post.length : Int) + 1) := by omega
    have h5 : ¬ (pre.length : Int) + ((post.length : Int) + 1) ≤ (pre.length : Int) := by omega
    by_cases hp : x0 = x
    · simp [hp] at hR
      simp (config := {contextual := true, maxSteps := 2000000, implicitDefEqProofs := false}) [go_sem, hw, h3, h4, h5, ← hl, SubI, hp] <;> grind
    · simp [hp] at hR
      simp (config := {contextual := true, maxSteps := 2000000, implicitDefEqProofs := false}) [go_sem, hw, h3, h4, h5, ← hl, SubI, hp] <;> grind
def c156 : SCode := (.seq (.reg [⟨(some 1), .box 39 (.tmp 0), none⟩,
   ⟨(some 2), .assign (.const (.bool false)), none⟩])
(.seq (.seq (.reg [⟨(some 5), .fieldAddr 39 (.tmp 1) 0, none⟩,
     ⟨(some 6), .load 36 (.tmp 5), none⟩,
     ⟨(some 7), .call ⟨(.builtin .len), #[(.tmp 6)], #[36]⟩, none⟩,
     ⟨(some 8), .move (.const (.int .i64 0)), none⟩])
  (.block 0 (.loop (.seq (.reg [⟨(some 9), .binOp .lss 3 (.tmp 8) (.tmp 7) 3, none⟩])
     (.seq (.cond (.tmp 9) .skip
       (.exit 0))
      (.seq (.block 1 (.seq (.reg [⟨(some 10), .move (.tmp 8), none⟩,
            ⟨(some 11), .indexAddr 36 (.tmp 6) (.tmp 8), none⟩,
            ⟨(some 12), .load 135 (.tmp 11), none⟩,
            ⟨(some 4), .alloc 135, none⟩,
            ⟨(some 3), .assign (.tmp 10), none⟩,
            ⟨none, .store 135 (.tmp 4) (.tmp 12), none⟩])
         (.seq (.draw [⟨(some 13), .fieldAddr 135 (.tmp 4) 0, none⟩,
             ⟨(some 14), .load 2 (.tmp 13), none⟩,
             ⟨(some 15), .call ⟨(.value (.func 159)), #[(.tmp 14)], #[2]⟩, none⟩,
             ⟨(some 16), .unOp .not 4 (.tmp 15), none⟩,
             ⟨(some 17), .move (.tmp 16), none⟩,
             ⟨(some 18), .move (.tmp 3), (some (17, false))⟩,
             ⟨(some 19), .binOp .gtr 3 (.tmp 18) (.const (.int .i64 0)) 3, (some (17, false))⟩,
             ⟨(some 20), .move (.tmp 19), (some (17, false))⟩,
             ⟨(some 21), .fieldAddr 135 (.tmp 4) 0, (some (20, true))⟩,
             ⟨(some 22), .load 2 (.tmp 21), (some (20, true))⟩,
             ⟨(some 23), .fieldAddr 39 (.tmp 1) 0, (some (20, true))⟩,
             ⟨(some 24), .load 36 (.tmp 23), (some (20, true))⟩,
             ⟨(some 25), .move (.tmp 3), (some (20, true))⟩,
             ⟨(some 26), .binOp .sub 3 (.tmp 25) (.const (.int .i64 1)) 3, (some (20, true))⟩,
             ⟨(some 27), .indexAddr 36 (.tmp 24) (.tmp 26), (some (20, true))⟩,
             ⟨(some 28), .fieldAddr 135 (.tmp 27) 0, (some (20, true))⟩,
             ⟨(some 29), .load 2 (.tmp 28), (some (20, true))⟩,
             ⟨(some 30), .binOp .leq 2 (.tmp 22) (.tmp 29) 2, (some (20, true))⟩,
             ⟨(some 31), .pick (.tmp 20) (.tmp 30) (.const (.bool false)), (some (17, false))⟩,
             ⟨(some 32), .pick (.tmp 17) (.const (.bool true)) (.tmp 31), none⟩,
             ⟨(some 33), .move (.tmp 32), none⟩,
             ⟨(some 34), .fieldAddr 135 (.tmp 4) 1, (some (33, false))⟩,
             ⟨(some 35), .load 2 (.tmp 34), (some (33, false))⟩,
             ⟨(some 36), .call ⟨(.value (.func 82)), #[(.tmp 35), (.const (.int .i64 0)), (.const (.int .i64 8))], #[2, 2, 2]⟩, (some (33, false))⟩,
             ⟨(some 37), .unOp .not 4 (.tmp 36), (some (33, false))⟩,
             ⟨(some 38), .pick (.tmp 33) (.const (.bool true)) (.tmp 37), none⟩] [[], [0], [0, 1], [0, 1, 2], [0, 1, 2, 3], [0, 1, 2, 3, 4], [0, 1, 2, 3, 4, 5], [0, 1, 2, 3, 4, 5, 6], [0, 1, 2, 3, 4, 5, 6, 7], [0, 1, 2, 3, 4, 5, 6, 7, 8], [0, 1, 2, 3, 4, 5, 6, 7], [0, 1, 2, 3, 4, 5, 6, 7, 10], [0, 1, 2, 3, 4, 5, 6, 7], [0, 1, 2, 3, 4, 5, 6, 7, 12], [0, 1, 2, 3, 4, 5, 6, 7, 10, 11, 12, 13], [0, 1, 2, 3, 4, 5, 6, 7, 10, 11, 12, 13, 14], [0, 1, 2, 3, 4, 5, 6, 7, 10, 11, 12, 13, 14, 15], [0, 1, 2, 3, 4, 5, 6, 7, 8, 9, 10, 11, 12, 13, 14, 15, 16], [0, 1, 2, 3, 4, 5, 6, 7, 8, 9, 10, 11, 12, 13, 14, 15, 16, 17], [0, 1, 2, 3, 4, 5, 6, 7, 8, 9, 10, 11, 12, 13, 14, 15, 16, 17, 18], [0, 1, 2, 3, 4, 5, 6, 7, 8, 9, 10, 11, 12, 13, 14, 15, 16, 17, 18, 19], [0, 1, 2, 3, 4, 5, 6, 7, 8, 9, 10, 11, 12, 13, 14, 15, 16, 17, 18, 19, 20], [0, 1, 2, 3, 4, 5, 6, 7, 8, 9, 10, 11, 12, 13, 14, 15, 16, 17, 18, 19, 20, 21], [0, 1, 2, 3, 4, 5, 6, 7, 8, 9, 10, 11, 12, 13, 14, 15, 16, 17, 18, 19, 20, 21, 22], [0, 1, 2, 3, 4, 5, 6, 7, 8, 9, 10, 11, 12, 13, 14, 15, 16, 17, 18, 19, 20, 21, 22, 23], [0, 1, 2, 3, 4, 5, 6, 7, 8, 9, 10, 11, 12, 13, 14, 15, 16, 17, 18, 19, 20, 21, 22, 23, 24]])
          (.cond (.tmp 38) (.seq (.reg [⟨(some 2), .assign (.const (.bool false)), none⟩])
            .ret)
           .skip))))
       (.reg [⟨(some 39), .binOp .add 3 (.tmp 8) (.const (.int .i64 1)) 3, none⟩,
          ⟨(some 8), .move (.tmp 39), none⟩])))))))
 (.seq (.reg [⟨(some 40), .fieldAddr 39 (.tmp 1) 0, none⟩,
     ⟨(some 41), .load 36 (.tmp 40), none⟩,
     ⟨(some 42), .call ⟨(.builtin .len), #[(.tmp 41)], #[36]⟩, none⟩,
     ⟨(some 43), .binOp .leq 3 (.tmp 42) (.const (.int .i64 16)) 3, none⟩,
     ⟨(some 2), .assign (.tmp 43), none⟩])
  .ret)))
theorem s156 : slimF Tryz.f156 = some (c156, [.t 2], 44) := by kernel_rfl
theorem o156 : okF [(159, g159), (82, g82)] Tryz.f156 = true := by kernel_rfl
noncomputable def g156 : Fsem := sem1 enTree (fun t => True) (fun n t => .bool (devsOk t))
@[go_sem] theorem g156_eq {n τ : Nat} {t : Tree} : g156 n [.agg [.sl τ 2 (t.devices.map (enDev.av τ)), .sl τ 3 (t.buckets.map (enBkt.av τ))]] = ⟨True, .bool (devsOk t)⟩ := sem1_eq  (E := enTree)
theorem p156 : Pure Tryz.prog 156 g156 := by
  refine sem1_pure fun τ t n h2 hpre => ?_
  have hT : Table Tryz.prog [(159, g159), (82, g82)] := (.cons p159 (.cons p82 .nil))
  have hn0 : n ≠ 0 := by omega
  refine SatP.of_body hT hm Tryz.func156 s156 o156 h2 (by simp) ?_
  simp only [devsOk]
  generalize hr : chk devOk none t.devices = r
  simp (config := {contextual := true, maxSteps := 2000000, implicitDefEqProofs := false}) [c156, go_sem]
  intro hL
  refine VW_listKe [] [1] hT h2 hm t.devices [1, 6, 7] (fun pre post (u0 : Unit) => [(8, .int .i64 pre.length)]) (fun pre post (u0 : Unit) => chk devOk pre.getLast? post = r) () ?_ ?_ ?_ ?_
  · exact hr
  · simp [SubE, SubR, go_sem]
  · rintro u0 hR
    simp (config := {contextual := true, maxSteps := 2000000, implicitDefEqProofs := false}) [go_sem]
    simp [chk] at hR; grind
  · rintro pre x post u0 hl hlen hR
    have hw : pre.length + (post.length + 1) ≤ maxLen → IntKind.i64.wrap ((pre.length : Int) + 1) = (pre.length : Int) + 1 := fun h => wrap_next h (by omega)
    have h3 : (0 : Int) ≤ pre.length := by omega
    have h4 : (pre.length : Int) < (pre.length : Int) + ((post.length : Int) + 1) := by omega
    have h5 : ¬ (pre.length : Int) + ((post.length : Int) + 1) ≤ (pre.length : Int) := by omega
    have hL1 : pre.length + (post.length + 1) ≤ maxLen := by omega
    rcases List.eq_nil_or_concat pre with rfl | ⟨q, y, rfl⟩
    · have hw0 : IntKind.i64.wrap 1 = 1 := by decide
      simp only [chk, List.getLast?_nil, devOk, btw] at hR
      simp (config := {contextual := true, maxSteps := 2000000, implicitDefEqProofs := false}) [go_sem, hw0, ← hl, SubE, SubR, devOk, btw] <;> grind
    · have h6 : q.length + (post.length + 1 + 1) ≤ maxLen → IntKind.i64.wrap ((q.length : Int) + 1 + 1) = (q.length : Int) + 1 + 1 := fun h => wrap_ok (by omega) (by simp only [maxLen] at h; omega)
      have h7 : q.length + (post.length + 1 + 1) ≤ maxLen → IntKind.i64.wrap (q.length : Int) = (q.length : Int) := fun h => wrap_ok (by omega) (by simp only [maxLen] at h; omega)
      have h8 : (0 : Int) ≤ (q.length : Int) + 1 := by omega
      have h9 : (0 : Int) < (q.length : Int) + 1 := by omega
      have h10 : (0 : Int) ≤ (q.length : Int) := by omega
      have h11 : (q.length : Int) + 1 < (q.length : Int) + ((post.length : Int) + 1 + 1) := by omega
      have h12 : (q.length : Int) < (q.length : Int) + ((post.length : Int) + 1 + 1) := by omega
      have hL2 : q.length + (post.length + 1 + 1) ≤ maxLen := by simp at hL1; omega
      simp only [chk, last_concat, devOk, btw] at hR
      simp (config := {contextual := true, maxSteps := 2000000, implicitDefEqProofs := false}) [go_sem, hL2, h6, h7, h8, h9, h10, h11, h12, ← hl, SubE, SubR, devOk, btw] <;> grind
end Go.Ve
namespace Go.Ve
open Go.Proofs Go.RowKit
set_option linter.unusedVariables false
set_option linter.unusedSimpArgs false
set_option maxRecDepth 10000
set_option maxHeartbeats 4000000
def c157 : SCode := (.seq (.reg [⟨(some 2), .box 39 (.tmp 0), none⟩,
   ⟨(some 3), .box 125 (.tmp 1), none⟩,
   ⟨(some 4), .assign (.const (.bool false)), none⟩])
(.seq (.reg [⟨(some 8), .makeMap 142 none, none⟩,
    ⟨(some 5), .assign (.tmp 8), none⟩])
 (.seq (.seq (.reg [⟨(some 9), .fieldAddr 125 (.tmp 3) 2, none⟩,
      ⟨(some 10), .load 28 (.tmp 9), none⟩,
      ⟨(some 11), .call ⟨(.builtin .len), #[(.tmp 10)], #[28]⟩, none⟩,
      ⟨(some 12), .move (.const (.int .i64 0)), none⟩])
   (.block 0 (.loop (.seq (.reg [⟨(some 13), .binOp .lss 3 (.tmp 12) (.tmp 11) 3, none⟩])
      (.seq (.cond (.tmp 13) .skip
        (.exit 0))
       (.seq (.block 1 (.seq (.reg [⟨(some 14), .indexAddr 28 (.tmp 10) (.tmp 12), none⟩,
             ⟨(some 15), .load 2 (.tmp 14), none⟩,
             ⟨(some 7), .assign (.tmp 15), none⟩])
          (.reg [⟨(some 16), .move (.tmp 5), none⟩,
             ⟨(some 17), .load 39 (.tmp 2), none⟩,
             ⟨(some 18), .move (.tmp 7), none⟩,
             ⟨(some 19), .call ⟨(.value (.func 158)), #[(.tmp 17), (.tmp 18)], #[39, 2]⟩, none⟩,
             ⟨none, .mapUpdate 142 (.tmp 16) (.tmp 19) (.const (.bool true)), none⟩])))
        (.reg [⟨(some 20), .binOp .add 3 (.tmp 12) (.const (.int .i64 1)) 3, none⟩,
           ⟨(some 12), .move (.tmp 20), none⟩])))))))
  (.seq (.block 2 (.seq (.reg [⟨(some 22), .fieldAddr 125 (.tmp 3) 2, none⟩,
        ⟨(some 23), .load 28 (.tmp 22), none⟩,
        ⟨(some 24), .call ⟨(.builtin .len), #[(.tmp 23)], #[28]⟩, none⟩,
        ⟨(some 25), .binOp .eql 3 (.tmp 24) (.const (.int .i64 0)) 3, none⟩,
        ⟨(some 21), .assign (.tmp 25), none⟩])
     (.cond (.tmp 21) (.seq (.reg [⟨(some 4), .assign (.const (.bool true)), none⟩])
       .ret)
      (.seq (.reg [⟨(some 27), .move (.tmp 5), none⟩,
          ⟨(some 28), .call ⟨(.builtin .len), #[(.tmp 27)], #[142]⟩, none⟩,
          ⟨(some 29), .binOp .gtr 3 (.tmp 28) (.const (.int .i64 1)) 3, none⟩,
          ⟨(some 26), .assign (.tmp 29), none⟩])
       (.cond (.tmp 26) (.seq (.reg [⟨(some 4), .assign (.const (.bool false)), none⟩])
         .ret)
        (.seq (.reg [⟨(some 31), .fieldAddr 125 (.tmp 3) 1, none⟩,
            ⟨(some 32), .load 2 (.tmp 31), none⟩,
            ⟨(some 33), .binOp .eql 2 (.tmp 32) (.const (.int .i64 3)) 2, none⟩,
            ⟨(some 30), .assign (.tmp 33), none⟩])
         (.cond (.tmp 30) (.seq (.reg [⟨(some 34), .move (.tmp 5), none⟩,
              ⟨(some 35), .lookup 142 (.tmp 34) (.const (.int .i64 1)) false, none⟩,
              ⟨(some 36), .move (.tmp 35), none⟩,
              ⟨(some 37), .move (.tmp 5), (some (36, false))⟩,
              ⟨(some 38), .lookup 142 (.tmp 37) (.const (.int .i64 2)) false, (some (36, false))⟩,
              ⟨(some 39), .pick (.tmp 36) (.const (.bool true)) (.tmp 38), none⟩,
              ⟨(some 4), .assign (.tmp 39), none⟩])
           .ret)
          .skip)))))))
   (.seq (.reg [⟨(some 40), .move (.tmp 5), none⟩,
       ⟨(some 41), .fieldAddr 125 (.tmp 3) 1, none⟩,
       ⟨(some 42), .load 2 (.tmp 41), none⟩,
       ⟨(some 43), .binOp .sub 2 (.tmp 42) (.const (.int .i64 1)) 2, none⟩,
       ⟨(some 44), .lookup 142 (.tmp 40) (.tmp 43) false, none⟩,
       ⟨(some 4), .assign (.tmp 44), none⟩])
    .ret)))))
theorem s157 : slimF Tryz.f157 = some (c157, [.t 4], 45) := by kernel_rfl
theorem o157 : okF [(158, g158)] Tryz.f157 = true := by kernel_rfl
noncomputable def g157 : Fsem := semT2 enTree enBkt (fun τ t b => τ ≠ 0) (fun n τ t b => .bool (itemsOk t b))
@[go_sem] theorem g157_eq {n τ τ' : Nat} {t : Tree} {b : Bkt} : g157 n [.agg [.sl τ 2 (t.devices.map (enDev.av τ)), .sl τ 3 (t.buckets.map (enBkt.av τ))], .agg [.int .i64 b.id, .int .i64 b.kind, .sl τ' 1 (b.items.map (AV.int .i64))]] = ⟨τ ≠ 0, .bool (itemsOk t b)⟩ := semT2_eq  (E := enTree) (F := enBkt) (seen_Tree)
theorem p157 : Pure Tryz.prog 157 g157 := by
  refine semT2_pure fun τ τ' t b n h2 hpre => ?_
  have hT : Table Tryz.prog [(158, g158)] := (.cons p158 .nil)
  have hn0 : n ≠ 0 := by omega
  refine SatP.of_body hT hm Tryz.func157 s157 o157 h2 (by simp) ?_
  have hp : τ ≠ 0 := hpre
  generalize hks : kinds t b.items [] = ks
  simp (config := {contextual := true, maxSteps := 2000000, implicitDefEqProofs := false}) [c157, go_sem]
  intro hL
  refine VW_listKE [] [2, 3, 5] hT h2 hm b.items [2, 3, 5, 10, 11] (fun pre post (a : List Int) => [.box 39 [.sl τ 2 (t.devices.map (enDev.av τ)), .sl τ 3 (t.buckets.map (enBkt.av τ))], .box 125 [.int .i64 b.id, .int .i64 b.kind, .sl τ' 1 (b.items.map (AV.int .i64))], .mp (kvs a)]) (fun pre post (a : List Int) => [(12, .int .i64 pre.length)]) (fun pre post (a : List Int) => kinds t post a = ks) [] ?_ ?_ ?_ ?_
  · exact hks
  · simp [SubE, SubR, go_sem]
  · rintro a hR
    simp (config := {contextual := true, maxSteps := 2000000, implicitDefEqProofs := false}) [go_sem]
    have ha : a = ks := hR
    subst ha
    simp only [itemsOk, hks]
    grind
  · rintro pre x post a hl hlen hR
    have hw : pre.length + (post.length + 1) ≤ maxLen → IntKind.i64.wrap ((pre.length : Int) + 1) = (pre.length : Int) + 1 := fun h => wrap_next h (by omega)
    have h3 : (0 : Int) ≤ pre.length := by omega
    have h4 : (pre.length : Int) < (pre.length : Int) + ((post.length : Int) + 1) := by omega
    have h5 : ¬ (pre.length : Int) + ((post.length : Int) + 1) ≤ (pre.length : Int) := by omega
    have hL1 : pre.length + (post.length + 1) ≤ maxLen := by omega
    simp only [kinds, List.foldl_cons] at hR
    simp (config := {contextual := true, maxSteps := 2000000, implicitDefEqProofs := false}) [go_sem, hw, hL1, hL1, h3, h4, h5, ← hl, SubE, SubR, hp, kinds, hR]
    exact ⟨_, hR, rfl⟩
def fitsOne (t : Tree) (b : Bkt) (id : Int) : Bool :=
  let k := kindOf t id
  !(decide (b.kind < 3) && decide (k ≠ IntKind.i64.wrap (b.kind - 1))) && !(decide (b.kind = 3) && (decide (k ≠ kindOf t (b.items.headD 0)) || (decide (k ≠ 1) && decide (k ≠ 2))))
def fitsOk (t : Tree) (b : Bkt) : Bool := b.items.all (fitsOne t b)
theorem head_mem {b : Bkt} {pre post : List Int} {x : Int} (h : pre ++ x :: post = b.items) : nth (List.map (AV.int .i64) b.items) 0 = .int .i64 (b.items.headD 0) := by
  rw [← h]
  cases pre <;> simp [nth]
def c92 : SCode := (.seq (.reg [⟨(some 2), .box 39 (.tmp 0), none⟩,
   ⟨(some 3), .box 125 (.tmp 1), none⟩,
   ⟨(some 4), .assign (.const (.bool false)), none⟩])
(.seq (.seq (.reg [⟨(some 5), .assign (.const (.int .i64 0)), none⟩])
  (.block 0 (.loop (.seq (.seq (.reg [⟨(some 7), .move (.tmp 5), none⟩,
         ⟨(some 8), .fieldAddr 125 (.tmp 3) 2, none⟩,
         ⟨(some 9), .load 28 (.tmp 8), none⟩,
         ⟨(some 10), .call ⟨(.builtin .len), #[(.tmp 9)], #[28]⟩, none⟩,
         ⟨(some 11), .binOp .lss 3 (.tmp 7) (.tmp 10) 3, none⟩])
      (.cond (.tmp 11) .skip
       (.exit 0)))
     (.seq (.block 1 (.seq (.draw [⟨(some 14), .load 39 (.tmp 2), none⟩,
           ⟨(some 15), .fieldAddr 125 (.tmp 3) 2, none⟩,
           ⟨(some 16), .load 28 (.tmp 15), none⟩,
           ⟨(some 17), .move (.tmp 5), none⟩,
           ⟨(some 18), .indexAddr 28 (.tmp 16) (.tmp 17), none⟩,
           ⟨(some 19), .load 2 (.tmp 18), none⟩,
           ⟨(some 20), .call ⟨(.value (.func 94)), #[(.tmp 14), (.tmp 19)], #[39, 2]⟩, none⟩,
           ⟨(some 6), .assign (.tmp 20), none⟩] [[], [], [1], [], [1, 2, 3], [1, 2, 3, 4], [0, 1, 2, 3, 4, 5], [0, 1, 2, 3, 4, 5, 6]])
        (.seq (.seq (.reg [⟨(some 21), .fieldAddr 125 (.tmp 3) 1, none⟩,
             ⟨(some 22), .load 2 (.tmp 21), none⟩,
             ⟨(some 23), .binOp .lss 2 (.tmp 22) (.const (.int .i64 3)) 2, none⟩,
             ⟨(some 24), .move (.tmp 23), none⟩,
             ⟨(some 25), .move (.tmp 6), (some (24, true))⟩,
             ⟨(some 26), .fieldAddr 125 (.tmp 3) 1, (some (24, true))⟩,
             ⟨(some 27), .load 2 (.tmp 26), (some (24, true))⟩,
             ⟨(some 28), .binOp .sub 2 (.tmp 27) (.const (.int .i64 1)) 2, (some (24, true))⟩,
             ⟨(some 29), .binOp .neq 2 (.tmp 25) (.tmp 28) 2, (some (24, true))⟩,
             ⟨(some 30), .pick (.tmp 24) (.tmp 29) (.const (.bool false)), none⟩])
          (.cond (.tmp 30) (.seq (.reg [⟨(some 4), .assign (.const (.bool false)), none⟩])
            .ret)
           .skip))
         (.seq (.draw [⟨(some 31), .fieldAddr 125 (.tmp 3) 1, none⟩,
             ⟨(some 32), .load 2 (.tmp 31), none⟩,
             ⟨(some 33), .binOp .eql 2 (.tmp 32) (.const (.int .i64 3)) 2, none⟩,
             ⟨(some 34), .move (.tmp 33), none⟩,
             ⟨(some 35), .move (.tmp 6), (some (34, true))⟩,
             ⟨(some 36), .load 39 (.tmp 2), (some (34, true))⟩,
             ⟨(some 37), .fieldAddr 125 (.tmp 3) 2, (some (34, true))⟩,
             ⟨(some 38), .load 28 (.tmp 37), (some (34, true))⟩,
             ⟨(some 39), .indexAddr 28 (.tmp 38) (.const (.int .i64 0)), (some (34, true))⟩,
             ⟨(some 40), .load 2 (.tmp 39), (some (34, true))⟩,
             ⟨(some 41), .call ⟨(.value (.func 94)), #[(.tmp 36), (.tmp 40)], #[39, 2]⟩, (some (34, true))⟩,
             ⟨(some 42), .binOp .neq 2 (.tmp 35) (.tmp 41) 2, (some (34, true))⟩,
             ⟨(some 43), .move (.tmp 42), (some (34, true))⟩,
             ⟨(some 44), .move (.tmp 6), (some (43, false))⟩,
             ⟨(some 45), .binOp .neq 2 (.tmp 44) (.const (.int .i64 1)) 2, (some (43, false))⟩,
             ⟨(some 46), .move (.tmp 45), (some (43, false))⟩,
             ⟨(some 47), .move (.tmp 6), (some (46, true))⟩,
             ⟨(some 48), .binOp .neq 2 (.tmp 47) (.const (.int .i64 2)) 2, (some (46, true))⟩,
             ⟨(some 49), .pick (.tmp 46) (.tmp 48) (.const (.bool false)), (some (43, false))⟩,
             ⟨(some 50), .pick (.tmp 43) (.const (.bool true)) (.tmp 49), (some (34, true))⟩,
             ⟨(some 51), .pick (.tmp 34) (.tmp 50) (.const (.bool false)), none⟩] [[], [0], [0, 1], [0, 1, 2], [0, 1, 2, 3], [0, 1, 2, 3], [0, 1, 2, 3], [0, 1, 2, 3, 6], [0, 1, 2, 3, 6, 7], [0, 1, 2, 3, 6, 7, 8], [0, 1, 2, 3, 5, 6, 7, 8, 9], [0, 1, 2, 3, 4, 5, 6, 7, 8, 9, 10], [0, 1, 2, 3, 4, 5, 6, 7, 8, 9, 10, 11], [0, 1, 2, 3, 4, 5, 6, 7, 8, 9, 10, 11, 12], [0, 1, 2, 3, 4, 5, 6, 7, 8, 9, 10, 11, 12, 13], [0, 1, 2, 3, 4, 5, 6, 7, 8, 9, 10, 11, 12, 13, 14], [0, 1, 2, 3, 4, 5, 6, 7, 8, 9, 10, 11, 12, 13, 14, 15], [0, 1, 2, 3, 4, 5, 6, 7, 8, 9, 10, 11, 12, 13, 14, 15, 16], [0, 1, 2, 3, 4, 5, 6, 7, 8, 9, 10, 11, 12, 13, 14, 15, 16, 17], [0, 1, 2, 3, 4, 5, 6, 7, 8, 9, 10, 11, 12, 13, 14, 15, 16, 17, 18], [0, 1, 2, 3, 4, 5, 6, 7, 8, 9, 10, 11, 12, 13, 14, 15, 16, 17, 18, 19]])
          (.cond (.tmp 51) (.seq (.reg [⟨(some 4), .assign (.const (.bool false)), none⟩])
            .ret)
           .skip)))))
      (.reg [⟨(some 12), .move (.tmp 5), none⟩,
         ⟨(some 13), .binOp .add 3 (.tmp 12) (.const (.int .i64 1)) 3, none⟩,
         ⟨(some 5), .assign (.tmp 13), none⟩]))))))
 (.seq (.reg [⟨(some 4), .assign (.const (.bool true)), none⟩])
  .ret)))
theorem s92 : slimF Tryz.f92 = some (c92, [.t 4], 52) := by kernel_rfl
theorem o92 : okF [(94, g94)] Tryz.f92 = true := by kernel_rfl
noncomputable def g92 : Fsem := sem2 enTree enBkt (fun t b => True) (fun n t b => .bool (fitsOk t b))
@[go_sem] theorem g92_eq {n τ τ' : Nat} {t : Tree} {b : Bkt} : g92 n [.agg [.sl τ 2 (t.devices.map (enDev.av τ)), .sl τ 3 (t.buckets.map (enBkt.av τ))], .agg [.int .i64 b.id, .int .i64 b.kind, .sl τ' 1 (b.items.map (AV.int .i64))]] = ⟨True, .bool (fitsOk t b)⟩ := sem2_eq  (E := enTree) (F := enBkt)
theorem p92 : Pure Tryz.prog 92 g92 := by
  refine sem2_pure fun τ τ' t b n h2 hpre => ?_
  have hT : Table Tryz.prog [(94, g94)] := (.cons p94 .nil)
  have hn0 : n ≠ 0 := by omega
  refine SatP.of_body hT hm Tryz.func92 s92 o92 h2 (by simp) ?_
  simp only [fitsOk]
  generalize hr : b.items.all (fitsOne t b) = r
  simp (config := {contextual := true, maxSteps := 2000000, implicitDefEqProofs := false}) [c92, go_sem]
  refine VW_listK hT h2 hm b.items [2, 3] (fun pre post (u0 : Unit) => [(5, .int .i64 pre.length)]) (fun pre post (u0 : Unit) => post.all (fitsOne t b) = r) () ?_ ?_ ?_ ?_
  · exact hr
  · simp [SubI, go_sem]
  · rintro u0 hR
    simp (config := {contextual := true, maxSteps := 2000000, implicitDefEqProofs := false}) [go_sem]
    simp at hR; grind
  · rintro pre x post u0 hl hlen hR
    have hw : pre.length + (post.length + 1) ≤ maxLen → IntKind.i64.wrap ((pre.length : Int) + 1) = (pre.length : Int) + 1 := fun h => wrap_next h (by omega)
    have h3 : (0 : Int) ≤ pre.length := by omega
    have h4 : (pre.length : Int) < (pre.length : Int) + ((post.length : Int) + 1) := by omega
    have h5 : ¬ (pre.length : Int) + ((post.length : Int) + 1) ≤ (pre.length : Int) := by omega
    have hh := head_mem hl
    have hn : nth (List.map (AV.int .i64) b.items) pre.length = .int .i64 x := by rw [← hl]; simp [go_sem]
    have hlt : (pre.length : Int) < (b.items.length : Int) := by omega
    have hlt2 : ¬ (b.items.length : Int) ≤ (pre.length : Int) := by omega
    have h0 : (0 : Int) < (b.items.length : Int) := by omega
    have h01 : 0 < b.items.length := by omega
    rw [hlen] at hw
    simp only [List.all_cons, fitsOne] at hR
    simp (config := {contextual := true, maxSteps := 2000000, implicitDefEqProofs := false}) [go_sem, hw, h3, hlt, hlt2, hh, hn, h0, h01, SubI]
    grind
end Go.Ve
