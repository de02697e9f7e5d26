/- The laws' helpers of the seat: sizes, copies, comparisons. No condition. -/
import Derived.Test.YtfeaokelfbjcdaaV1
namespace Go.Ve
open Go.Proofs Go.RowKit
set_option linter.unusedVariables false
set_option linter.unusedSimpArgs false
set_option maxRecDepth 10000
set_option maxHeartbeats 4000000
theorem fite_2 : FitE Try.prog 2 (En.int .i64) := ⟨by simp only [go_sem], by simp only [go_sem], fun τ x => by simp [go_sem]⟩
theorem fitze_2 : FitZ Try.prog 2 (En.int .i64) := ⟨by simp only [go_sem], by simp only [go_sem], by simp only [go_sem], by simp [go_sem], by simp only [go_sem], by simp [go_sem], by simp [go_sem], fun τ x => by simp [go_sem, setEl]⟩
/- laws.szInt64S -/
noncomputable def g60 : Fsem := szSem (En.int .i64).list
@[go_sem] theorem g60_eq {n τ : Nat} {x : List Int} {b : Int} : g60 n [.sl τ 1 (x.map (AV.int .i64)), .int .i64 b] = ⟨0 ≤ b ∧ b ≤ bigB, .int .i64 (szR b x.length)⟩ := by
  have h := szSem_eq (E := (En.int .i64).list) (n := n) (τ := τ) (x := x) (b := b)
  rw [tot_list, sum_flat (E := (En.int .i64)) (fun x => rfl), Nat.add_zero] at h
  exact h
theorem s60 : slimF Try.f60 = some (szFlatC 3 22, [.t 4], 12) := by kernel_rfl
theorem o60 : okF [] Try.f60 = true := by kernel_rfl
theorem p60 : Pure Try.prog 60 g60 := szFlat_ok hm Try.func60 s60 o60 (by omega) ty_22 (fun x => rfl)
/- laws.szInterval -/
noncomputable def g35 : Fsem := szSem enItv
@[go_sem] theorem g35_eq {n τ : Nat} {x : Itv} {b : Int} : g35 n [.agg [.int .i64 x.first, .int .i64 x.last, .sl τ 1 (x.acting.map (AV.int .i64)), .bool x.may], .int .i64 b] = ⟨0 ≤ b ∧ b ≤ bigB, .int .i64 (szR b x.acting.length)⟩ := by
  have h := szSem_eq (E := enItv) (n := n) (τ := τ) (x := x) (b := b)
  rw [tot_Itv] at h
  exact h
def c35 : SCode := (.seq (.reg [⟨(some 2), .box 40 (.tmp 0), none⟩,
   ⟨(some 4), .assign (.const (.int .i64 0)), none⟩])
(.seq (.reg [⟨(some 5), .fieldAddr 40 (.tmp 2) 2, none⟩,
    ⟨(some 6), .load 22 (.tmp 5), none⟩,
    ⟨(some 7), .move (.tmp 1), none⟩,
    ⟨(some 8), .call ⟨(.value (.func 60)), #[(.tmp 6), (.tmp 7)], #[22, 3]⟩, none⟩,
    ⟨(some 1), .assign (.tmp 8), none⟩])
 (.seq (.seq (.reg [⟨(some 9), .move (.tmp 1), none⟩,
      ⟨(some 10), .binOp .lss 3 (.tmp 9) (.const (.int .i64 0)) 3, none⟩])
   (.cond (.tmp 10) (.seq (.reg [⟨(some 4), .assign (.const (.int .i64 (-1))), none⟩])
     .ret)
    .skip))
  (.seq (.reg [⟨(some 11), .move (.tmp 1), none⟩,
      ⟨(some 4), .assign (.tmp 11), none⟩])
   .ret))))
theorem s35 : slimF Try.f35 = some (c35, [.t 4], 12) := by kernel_rfl
theorem o35 : okF [(60, g60)] Try.f35 = true := by kernel_rfl
theorem p35 : Pure Try.prog 35 g35 := by
  refine semOf_pure fun ⟨τ, x, b⟩ n h2 ⟨hb1, hb2⟩ => ?_
  have hT : Table Try.prog [(60, g60)] := (.cons p60 .nil)
  refine SatP.of_body hT hm Try.func35 s35 o35 h2 (by simp) ?_
  simp only [bigB] at hb1 hb2
  simp (config := {contextual := true, maxSteps := 4000000, implicitDefEqProofs := false}) [c35, go_sem, tot_Itv, bigB, hb1, hb2]
  have := szR_spec b x.acting.length
  have := szR_spec b x.acting.length
  omega
/- laws.szIntervalS -/
noncomputable def g27 : Fsem := szSem enItv.list
@[go_sem] theorem g27_eq {n τ : Nat} {x : List Itv} {b : Int} : g27 n [.sl τ 4 (x.map (enItv.av τ)), .int .i64 b] = ⟨0 ≤ b ∧ b ≤ bigB, .int .i64 (szR b ((x.length + (x.map enItv.tot).sum)))⟩ := by
  have h := szSem_eq (E := enItv.list) (n := n) (τ := τ) (x := x) (b := b)
  rw [tot_list] at h
  exact h
theorem s27 : slimF Try.f27 = some (szDeepC 3 30 40 35, [.t 4], 27) := by kernel_rfl
theorem o27 : okF [(35, g35)] Try.f27 = true := by kernel_rfl
theorem p27 : Pure Try.prog 27 g27 := szDeep_ok hm Try.func27 s27 o27 (by omega) ty_30 fit_40 p35 (fun n τ x b => szSem_eq)
/- laws.toInt64S -/
noncomputable def g14 : Fsem := toSem (En.int .i64).list (En.int .i64).list
@[go_sem] theorem g14_eq {n τ : Nat} {x : List Int} : g14 n [.sl τ 1 (x.map (AV.int .i64))] = ⟨x.length ≤ 1048576, .sl n 1 (x.map (AV.int .i64))⟩ := by
  have h := toSem_eq (Ei := (En.int .i64).list) (Eo := (En.int .i64).list) (n := n) (τ := τ) (x := x)
  rw [tot_list, sum_flat (E := (En.int .i64)) (fun x => rfl), Nat.add_zero] at h
  exact h
theorem s14 : slimF Try.f14 = some (toFlatC 3 22 2, [.t 2], 22) := by kernel_rfl
theorem o14 : okF [] Try.f14 = true := by kernel_rfl
theorem p14 : Pure Try.prog 14 g14 := toFlat_ok hm Try.func14 s14 o14 (by omega) ty_22 (fite_2) (fitze_2) rfl (fun _ _ _ => rfl)
/- laws.toInterval -/
noncomputable def g37 : Fsem := toSem enItv enItv
@[go_sem] theorem g37_eq {n τ : Nat} {x : Itv} : g37 n [.agg [.int .i64 x.first, .int .i64 x.last, .sl τ 1 (x.acting.map (AV.int .i64)), .bool x.may]] = ⟨x.acting.length ≤ 1048576, .agg [.int .i64 x.first, .int .i64 x.last, .sl n 1 (x.acting.map (AV.int .i64)), .bool x.may]⟩ := by
  have h := toSem_eq (Ei := enItv) (Eo := enItv) (n := n) (τ := τ) (x := x)
  rw [tot_Itv] at h
  exact h
def c37 : SCode := (.seq (.reg [⟨(some 1), .box 40 (.tmp 0), none⟩,
   ⟨(some 2), .alloc 43, none⟩])
(.seq (.reg [⟨(some 3), .alloc 43, none⟩])
 (.seq (.reg [⟨(some 4), .fieldAddr 40 (.tmp 1) 0, none⟩,
     ⟨(some 5), .load 2 (.tmp 4), none⟩,
     ⟨(some 6), .fieldAddr 43 (.tmp 3) 0, none⟩,
     ⟨none, .store 2 (.tmp 6) (.tmp 5), none⟩])
  (.seq (.reg [⟨(some 7), .fieldAddr 40 (.tmp 1) 1, none⟩,
      ⟨(some 8), .load 2 (.tmp 7), none⟩,
      ⟨(some 9), .fieldAddr 43 (.tmp 3) 1, none⟩,
      ⟨none, .store 2 (.tmp 9) (.tmp 8), none⟩])
   (.seq (.reg [⟨(some 10), .fieldAddr 40 (.tmp 1) 2, none⟩,
       ⟨(some 11), .load 22 (.tmp 10), none⟩,
       ⟨(some 12), .call ⟨(.value (.func 14)), #[(.tmp 11)], #[22]⟩, none⟩,
       ⟨(some 13), .fieldAddr 43 (.tmp 3) 2, none⟩,
       ⟨none, .store 22 (.tmp 13) (.tmp 12), none⟩])
    (.seq (.reg [⟨(some 14), .fieldAddr 40 (.tmp 1) 3, none⟩,
        ⟨(some 15), .load 4 (.tmp 14), none⟩,
        ⟨(some 16), .fieldAddr 43 (.tmp 3) 3, none⟩,
        ⟨none, .store 4 (.tmp 16) (.tmp 15), none⟩])
     (.seq (.reg [⟨(some 17), .load 43 (.tmp 3), none⟩,
         ⟨none, .store 43 (.tmp 2) (.tmp 17), none⟩])
      .ret)))))))
theorem s37 : slimF Try.f37 = some (c37, [.c 2 43], 18) := by kernel_rfl
theorem o37 : okF [(14, g14)] Try.f37 = true := by kernel_rfl
theorem p37 : Pure Try.prog 37 g37 := by
  refine semOf_pure fun ⟨τ, x⟩ n h2 hb => ?_
  have hT : Table Try.prog [(14, g14)] := (.cons p14 .nil)
  refine SatP.of_body hT hm Try.func37 s37 o37 h2 (by simp) ?_
  have hb' : x.acting.length ≤ 1048576 := by
    have := hb
    simp only [tot_Itv] at this
    exact this
  have hn0 : n ≠ 0 := by omega
  simp (config := {maxSteps := 4000000, implicitDefEqProofs := false}) [c37, go_sem, hn0]
  all_goals omega
/- laws.toIntervalS -/
noncomputable def g29 : Fsem := toSem enItv.list enItv.list
@[go_sem] theorem g29_eq {n τ : Nat} {x : List Itv} : g29 n [.sl τ 4 (x.map (enItv.av τ))] = ⟨(x.length + (x.map enItv.tot).sum) ≤ 1048576, .sl n 4 (x.map (enItv.av n))⟩ := by
  have h := toSem_eq (Ei := enItv.list) (Eo := enItv.list) (n := n) (τ := τ) (x := x)
  rw [tot_list] at h
  exact h
theorem s29 : slimF Try.f29 = some (toDeepC 3 30 33 40 43 37, [.t 2], 23) := by kernel_rfl
theorem o29 : okF [(37, g37)] Try.f29 = true := by kernel_rfl
theorem p29 : Pure Try.prog 29 g29 := toDeep_ok hm Try.func29 s29 o29 (by omega) ty_30 ty_33 fit_40 fitz_43 p37 (fun n τ x => toSem_eq)
/- laws.eqInt64S -/
noncomputable def g16 : Fsem := eqSem (En.int .i64).list (En.int .i64).list
@[go_sem] theorem g16_eq {n τ τ' : Nat} {x y : List Int} : g16 n [.sl τ 1 (x.map (AV.int .i64)), .sl τ' 1 (y.map (AV.int .i64))] = ⟨True, .bool (eqB x y)⟩ := eqSem_eq (E := (En.int .i64).list) (E' := (En.int .i64).list) (n := n) (τ := τ) (τ' := τ') (x := x) (y := y)
theorem s16 : slimF Try.f16 = some (eqFlatC 3 22 2, [.t 4], 26) := by kernel_rfl
theorem o16 : okF [] Try.f16 = true := by kernel_rfl
theorem p16 : Pure Try.prog 16 g16 := eqFlat_ok hm Try.func16 s16 o16 (by omega) ty_22 (fite_2) (fite_2) (fun τ x τ' x' => by simp [go_sem, eqB_dec])
/- laws.eqInterval -/
noncomputable def g39 : Fsem := eqSem enItv enItv
@[go_sem] theorem g39_eq {n τ τ' : Nat} {x y : Itv} : g39 n [.agg [.int .i64 x.first, .int .i64 x.last, .sl τ 1 (x.acting.map (AV.int .i64)), .bool x.may], .agg [.int .i64 y.first, .int .i64 y.last, .sl τ' 1 (y.acting.map (AV.int .i64)), .bool y.may]] = ⟨True, .bool (eqB x y)⟩ := eqSem_eq (E := enItv) (E' := enItv) (n := n) (τ := τ) (τ' := τ') (x := x) (y := y)
def c39 : SCode := (.seq (.reg [⟨(some 2), .box 43 (.tmp 0), none⟩,
   ⟨(some 3), .box 43 (.tmp 1), none⟩,
   ⟨(some 4), .assign (.const (.bool false)), none⟩])
(.seq (.seq (.reg [⟨(some 5), .fieldAddr 43 (.tmp 2) 0, none⟩,
     ⟨(some 6), .load 2 (.tmp 5), none⟩,
     ⟨(some 7), .fieldAddr 43 (.tmp 3) 0, none⟩,
     ⟨(some 8), .load 2 (.tmp 7), none⟩,
     ⟨(some 9), .binOp .neq 2 (.tmp 6) (.tmp 8) 2, none⟩])
  (.cond (.tmp 9) (.seq (.reg [⟨(some 4), .assign (.const (.bool false)), none⟩])
    .ret)
   .skip))
 (.seq (.seq (.reg [⟨(some 10), .fieldAddr 43 (.tmp 2) 1, none⟩,
      ⟨(some 11), .load 2 (.tmp 10), none⟩,
      ⟨(some 12), .fieldAddr 43 (.tmp 3) 1, none⟩,
      ⟨(some 13), .load 2 (.tmp 12), none⟩,
      ⟨(some 14), .binOp .neq 2 (.tmp 11) (.tmp 13) 2, none⟩])
   (.cond (.tmp 14) (.seq (.reg [⟨(some 4), .assign (.const (.bool false)), none⟩])
     .ret)
    .skip))
  (.seq (.seq (.reg [⟨(some 15), .fieldAddr 43 (.tmp 2) 2, none⟩,
       ⟨(some 16), .load 22 (.tmp 15), none⟩,
       ⟨(some 17), .fieldAddr 43 (.tmp 3) 2, none⟩,
       ⟨(some 18), .load 22 (.tmp 17), none⟩,
       ⟨(some 19), .call ⟨(.value (.func 16)), #[(.tmp 16), (.tmp 18)], #[22, 22]⟩, none⟩,
       ⟨(some 20), .unOp .not 4 (.tmp 19), none⟩])
    (.cond (.tmp 20) (.seq (.reg [⟨(some 4), .assign (.const (.bool false)), none⟩])
      .ret)
     .skip))
   (.seq (.seq (.reg [⟨(some 21), .fieldAddr 43 (.tmp 2) 3, none⟩,
        ⟨(some 22), .load 4 (.tmp 21), none⟩,
        ⟨(some 23), .fieldAddr 43 (.tmp 3) 3, none⟩,
        ⟨(some 24), .load 4 (.tmp 23), none⟩,
        ⟨(some 25), .binOp .neq 4 (.tmp 22) (.tmp 24) 4, none⟩])
     (.cond (.tmp 25) (.seq (.reg [⟨(some 4), .assign (.const (.bool false)), none⟩])
       .ret)
      .skip))
    (.seq (.reg [⟨(some 4), .assign (.const (.bool true)), none⟩])
     .ret))))))
theorem s39 : slimF Try.f39 = some (c39, [.t 4], 26) := by kernel_rfl
theorem o39 : okF [(16, g16)] Try.f39 = true := by kernel_rfl
theorem p39 : Pure Try.prog 39 g39 := by
  refine semOf_pure fun ⟨τ, τ', x, y⟩ n h2 _ => ?_
  have hT : Table Try.prog [(16, g16)] := (.cons p16 .nil)
  refine SatP.of_body hT hm Try.func39 s39 o39 h2 (by simp) ?_
  rcases Bool.eq_false_or_eq_true (eqB x y) with hxy | hxy
  · rw [hxy]
    have h := eqB_iff.1 hxy
    subst h
    simp (config := {contextual := true, maxSteps := 4000000, implicitDefEqProofs := false}) [c39, go_sem, eqB_iff, eqB_not]
  · rw [hxy]
    have h := eqB_not.1 hxy
    rw [eq_Itv] at h
    simp (config := {contextual := true, maxSteps := 4000000, implicitDefEqProofs := false}) [c39, go_sem, eqB_iff, eqB_not]
    simpa using h
/- laws.eqIntervalS -/
noncomputable def g31 : Fsem := eqSem enItv.list enItv.list
@[go_sem] theorem g31_eq {n τ τ' : Nat} {x y : List Itv} : g31 n [.sl τ 4 (x.map (enItv.av τ)), .sl τ' 4 (y.map (enItv.av τ'))] = ⟨True, .bool (eqB x y)⟩ := eqSem_eq (E := enItv.list) (E' := enItv.list) (n := n) (τ := τ) (τ' := τ') (x := x) (y := y)
theorem s31 : slimF Try.f31 = some (eqDeepC 3 4 33 43 39, [.t 4], 27) := by kernel_rfl
theorem o31 : okF [(39, g39)] Try.f31 = true := by kernel_rfl
theorem p31 : Pure Try.prog 31 g31 := eqDeep_ok hm Try.func31 s31 o31 (by omega) ty_33 fit_43 fit_43 p39 (fun n τ x τ' x' => eqSem_eq)
end Go.Ve
