/- The laws' helpers of the seat: sizes, copies, comparisons. No condition. -/
import Derived.Test.YtmpakjgbbjkacaaV1
namespace Go.Ve
open Go.Proofs Go.RowKit
set_option linter.unusedVariables false
set_option linter.unusedSimpArgs false
set_option maxRecDepth 10000
set_option maxHeartbeats 4000000
theorem fite_2 : FitE Try.prog 2 (En.int .i64) := ⟨by simp only [go_sem], by simp only [go_sem], fun τ x => by simp [go_sem]⟩
theorem fitze_2 : FitZ Try.prog 2 (En.int .i64) := ⟨by simp only [go_sem], by simp only [go_sem], by simp only [go_sem], by simp [go_sem], by simp only [go_sem], by simp [go_sem], by simp [go_sem], fun τ x => by simp [go_sem, setEl]⟩
/- laws.szSlotS -/
noncomputable def g59 : Fsem := szSem enSlot.list
@[go_sem] theorem g59_eq {n τ : Nat} {x : List Slot} {b : Int} : g59 n [.sl τ 9 (x.map (enSlot.av τ)), .int .i64 b] = ⟨0 ≤ b ∧ b ≤ bigB, .int .i64 (szR b x.length)⟩ := by
  have h := szSem_eq (E := enSlot.list) (n := n) (τ := τ) (x := x) (b := b)
  rw [tot_list, sum_flat (E := enSlot) (fun x => tot_Slot), Nat.add_zero] at h
  exact h
theorem s59 : slimF Try.f59 = some (szFlatC 3 62, [.t 4], 12) := by kernel_rfl
theorem o59 : okF [] Try.f59 = true := by kernel_rfl
theorem p59 : Pure Try.prog 59 g59 := szFlat_ok hm Try.func59 s59 o59 (by omega) ty_62 (fun x => tot_Slot)
/- laws.szInt64S -/
noncomputable def g89 : Fsem := szSem (En.int .i64).list
@[go_sem] theorem g89_eq {n τ : Nat} {x : List Int} {b : Int} : g89 n [.sl τ 1 (x.map (AV.int .i64)), .int .i64 b] = ⟨0 ≤ b ∧ b ≤ bigB, .int .i64 (szR b x.length)⟩ := by
  have h := szSem_eq (E := (En.int .i64).list) (n := n) (τ := τ) (x := x) (b := b)
  rw [tot_list, sum_flat (E := (En.int .i64)) (fun x => rfl), Nat.add_zero] at h
  exact h
theorem s89 : slimF Try.f89 = some (szFlatC 3 52, [.t 4], 12) := by kernel_rfl
theorem o89 : okF [] Try.f89 = true := by kernel_rfl
theorem p89 : Pure Try.prog 89 g89 := szFlat_ok hm Try.func89 s89 o89 (by omega) ty_52 (fun x => rfl)
/- laws.szTry -/
noncomputable def g60 : Fsem := szSem enTry
@[go_sem] theorem g60_eq {n τ : Nat} {x : Try} {b : Int} : g60 n [.agg [.int .i64 x.epoch, .int .i64 x.ballot.no, .int .i64 x.ballot.by_, .int .i64 x.inc.epoch, .int .i64 x.inc.kind, .int .i64 x.inc.a, .int .i64 x.inc.b, .int .i64 x.highest.no, .int .i64 x.highest.by_, .sl τ 1 (x.promises.map (AV.int .i64)), .sl τ 1 (x.accepts.map (AV.int .i64)), .bool x.decided], .int .i64 b] = ⟨0 ≤ b ∧ b ≤ bigB, .int .i64 (szR b ((x.promises.length + x.accepts.length)))⟩ := by
  have h := szSem_eq (E := enTry) (n := n) (τ := τ) (x := x) (b := b)
  rw [tot_Try] at h
  exact h
def c60 : SCode := (.seq (.reg [⟨(some 2), .box 66 (.tmp 0), none⟩,
   ⟨(some 4), .assign (.const (.int .i64 0)), none⟩])
(.seq (.reg [⟨(some 5), .fieldAddr 66 (.tmp 2) 4, none⟩,
    ⟨(some 6), .load 52 (.tmp 5), none⟩,
    ⟨(some 7), .move (.tmp 1), none⟩,
    ⟨(some 8), .call ⟨(.value (.func 89)), #[(.tmp 6), (.tmp 7)], #[52, 3]⟩, none⟩,
    ⟨(some 1), .assign (.tmp 8), none⟩])
 (.seq (.seq (.reg [⟨(some 9), .move (.tmp 1), none⟩,
      ⟨(some 10), .binOp .lss 3 (.tmp 9) (.const (.int .i64 0)) 3, none⟩])
   (.cond (.tmp 10) (.seq (.reg [⟨(some 4), .assign (.const (.int .i64 (-1))), none⟩])
     .ret)
    .skip))
  (.seq (.reg [⟨(some 11), .fieldAddr 66 (.tmp 2) 5, none⟩,
      ⟨(some 12), .load 52 (.tmp 11), none⟩,
      ⟨(some 13), .move (.tmp 1), none⟩,
      ⟨(some 14), .call ⟨(.value (.func 89)), #[(.tmp 12), (.tmp 13)], #[52, 3]⟩, none⟩,
      ⟨(some 1), .assign (.tmp 14), none⟩])
   (.seq (.seq (.reg [⟨(some 15), .move (.tmp 1), none⟩,
        ⟨(some 16), .binOp .lss 3 (.tmp 15) (.const (.int .i64 0)) 3, none⟩])
     (.cond (.tmp 16) (.seq (.reg [⟨(some 4), .assign (.const (.int .i64 (-1))), none⟩])
       .ret)
      .skip))
    (.seq (.reg [⟨(some 17), .move (.tmp 1), none⟩,
        ⟨(some 4), .assign (.tmp 17), none⟩])
     .ret))))))
theorem s60 : slimF Try.f60 = some (c60, [.t 4], 18) := by kernel_rfl
theorem o60 : okF [(89, g89)] Try.f60 = true := by kernel_rfl
theorem p60 : Pure Try.prog 60 g60 := by
  refine semOf_pure fun ⟨τ, x, b⟩ n h2 ⟨hb1, hb2⟩ => ?_
  have hT : Table Try.prog [(89, g89)] := (.cons p89 .nil)
  refine SatP.of_body hT hm Try.func60 s60 o60 h2 (by simp) ?_
  simp only [bigB] at hb1 hb2
  simp (config := {contextual := true, maxSteps := 4000000, implicitDefEqProofs := false}) [c60, go_sem, tot_Try, bigB, hb1, hb2]
  have := szR_spec b x.promises.length
  have := szR_spec (szR b x.promises.length) x.accepts.length
  have := szR_spec b ((x.promises.length + x.accepts.length))
  omega
/- laws.szMon -/
noncomputable def g27 : Fsem := szSem enMon
@[go_sem] theorem g27_eq {n τ : Nat} {x : Mon} {b : Int} : g27 n [.agg [.int .i64 x.id, .int .i64 x.many, .sl τ 9 (x.slots.map (enSlot.av τ)), .int .i64 x.try_.epoch, .int .i64 x.try_.ballot.no, .int .i64 x.try_.ballot.by_, .int .i64 x.try_.inc.epoch, .int .i64 x.try_.inc.kind, .int .i64 x.try_.inc.a, .int .i64 x.try_.inc.b, .int .i64 x.try_.highest.no, .int .i64 x.try_.highest.by_, .sl τ 1 (x.try_.promises.map (AV.int .i64)), .sl τ 1 (x.try_.accepts.map (AV.int .i64)), .bool x.try_.decided], .int .i64 b] = ⟨0 ≤ b ∧ b ≤ bigB, .int .i64 (szR b ((x.slots.length + (x.try_.promises.length + x.try_.accepts.length))))⟩ := by
  have h := szSem_eq (E := enMon) (n := n) (τ := τ) (x := x) (b := b)
  rw [tot_Mon] at h
  exact h
def c27 : SCode := (.seq (.reg [⟨(some 2), .box 68 (.tmp 0), none⟩,
   ⟨(some 4), .assign (.const (.int .i64 0)), none⟩])
(.seq (.reg [⟨(some 5), .fieldAddr 68 (.tmp 2) 2, none⟩,
    ⟨(some 6), .load 62 (.tmp 5), none⟩,
    ⟨(some 7), .move (.tmp 1), none⟩,
    ⟨(some 8), .call ⟨(.value (.func 59)), #[(.tmp 6), (.tmp 7)], #[62, 3]⟩, none⟩,
    ⟨(some 1), .assign (.tmp 8), none⟩])
 (.seq (.seq (.reg [⟨(some 9), .move (.tmp 1), none⟩,
      ⟨(some 10), .binOp .lss 3 (.tmp 9) (.const (.int .i64 0)) 3, none⟩])
   (.cond (.tmp 10) (.seq (.reg [⟨(some 4), .assign (.const (.int .i64 (-1))), none⟩])
     .ret)
    .skip))
  (.seq (.reg [⟨(some 11), .fieldAddr 68 (.tmp 2) 3, none⟩,
      ⟨(some 12), .load 66 (.tmp 11), none⟩,
      ⟨(some 13), .move (.tmp 1), none⟩,
      ⟨(some 14), .call ⟨(.value (.func 60)), #[(.tmp 12), (.tmp 13)], #[66, 3]⟩, none⟩,
      ⟨(some 1), .assign (.tmp 14), none⟩])
   (.seq (.seq (.reg [⟨(some 15), .move (.tmp 1), none⟩,
        ⟨(some 16), .binOp .lss 3 (.tmp 15) (.const (.int .i64 0)) 3, none⟩])
     (.cond (.tmp 16) (.seq (.reg [⟨(some 4), .assign (.const (.int .i64 (-1))), none⟩])
       .ret)
      .skip))
    (.seq (.reg [⟨(some 17), .move (.tmp 1), none⟩,
        ⟨(some 4), .assign (.tmp 17), none⟩])
     .ret))))))
theorem s27 : slimF Try.f27 = some (c27, [.t 4], 18) := by kernel_rfl
theorem o27 : okF [(59, g59), (60, g60)] Try.f27 = true := by kernel_rfl
theorem p27 : Pure Try.prog 27 g27 := by
  refine semOf_pure fun ⟨τ, x, b⟩ n h2 ⟨hb1, hb2⟩ => ?_
  have hT : Table Try.prog [(59, g59), (60, g60)] := (.cons p59 (.cons p60 .nil))
  refine SatP.of_body hT hm Try.func27 s27 o27 h2 (by simp) ?_
  simp only [bigB] at hb1 hb2
  simp (config := {contextual := true, maxSteps := 4000000, implicitDefEqProofs := false}) [c27, go_sem, tot_Mon, bigB, hb1, hb2]
  have := szR_spec b x.slots.length
  have := szR_spec (szR b x.slots.length) ((x.try_.promises.length + x.try_.accepts.length))
  have := szR_spec b ((x.slots.length + (x.try_.promises.length + x.try_.accepts.length)))
  omega
/- laws.toBallot -/
noncomputable def g95 : Fsem := toSem enBallot enBallot
@[go_sem] theorem g95_eq {n : Nat} {x : Ballot} : g95 n [.agg [.int .i64 x.no, .int .i64 x.by_]] = ⟨0 ≤ 1048576, .agg [.int .i64 x.no, .int .i64 x.by_]⟩ := by
  have h := toSem_eq (Ei := enBallot) (Eo := enBallot) (n := n) (τ := 0) (x := x)
  rw [tot_Ballot] at h
  exact h
def c95 : SCode := (.seq (.reg [⟨(some 1), .box 63 (.tmp 0), none⟩,
   ⟨(some 2), .alloc 49, none⟩])
(.seq (.reg [⟨(some 3), .alloc 49, none⟩])
 (.seq (.reg [⟨(some 4), .fieldAddr 63 (.tmp 1) 0, none⟩,
     ⟨(some 5), .load 2 (.tmp 4), none⟩,
     ⟨(some 6), .fieldAddr 49 (.tmp 3) 0, none⟩,
     ⟨none, .store 2 (.tmp 6) (.tmp 5), none⟩])
  (.seq (.reg [⟨(some 7), .fieldAddr 63 (.tmp 1) 1, none⟩,
      ⟨(some 8), .load 2 (.tmp 7), none⟩,
      ⟨(some 9), .fieldAddr 49 (.tmp 3) 1, none⟩,
      ⟨none, .store 2 (.tmp 9) (.tmp 8), none⟩])
   (.seq (.reg [⟨(some 10), .load 49 (.tmp 3), none⟩,
       ⟨none, .store 49 (.tmp 2) (.tmp 10), none⟩])
    .ret)))))
theorem s95 : slimF Try.f95 = some (c95, [.c 2 49], 11) := by kernel_rfl
theorem o95 : okF [] Try.f95 = true := by kernel_rfl
theorem p95 : Pure Try.prog 95 g95 := by
  refine semOf_pure fun ⟨τ, x⟩ n h2 hb => ?_
  have hT : Table Try.prog [] := .nil
  refine SatP.of_body hT hm Try.func95 s95 o95 h2 (by simp) ?_
  have hb' : 0 ≤ 1048576 := by
    have := hb
    simp only [tot_Ballot] at this
    exact this
  have hn0 : n ≠ 0 := by omega
  simp (config := {maxSteps := 4000000, implicitDefEqProofs := false}) [c95, go_sem, hn0]
  all_goals omega
/- laws.toInc -/
noncomputable def g96 : Fsem := toSem enInc enInc
@[go_sem] theorem g96_eq {n : Nat} {x : Inc} : g96 n [.agg [.int .i64 x.epoch, .int .i64 x.kind, .int .i64 x.a, .int .i64 x.b]] = ⟨0 ≤ 1048576, .agg [.int .i64 x.epoch, .int .i64 x.kind, .int .i64 x.a, .int .i64 x.b]⟩ := by
  have h := toSem_eq (Ei := enInc) (Eo := enInc) (n := n) (τ := 0) (x := x)
  rw [tot_Inc] at h
  exact h
def c96 : SCode := (.seq (.reg [⟨(some 1), .box 64 (.tmp 0), none⟩,
   ⟨(some 2), .alloc 51, none⟩])
(.seq (.reg [⟨(some 3), .alloc 51, none⟩])
 (.seq (.reg [⟨(some 4), .fieldAddr 64 (.tmp 1) 0, none⟩,
     ⟨(some 5), .load 2 (.tmp 4), none⟩,
     ⟨(some 6), .fieldAddr 51 (.tmp 3) 0, none⟩,
     ⟨none, .store 2 (.tmp 6) (.tmp 5), none⟩])
  (.seq (.reg [⟨(some 7), .fieldAddr 64 (.tmp 1) 1, none⟩,
      ⟨(some 8), .load 2 (.tmp 7), none⟩,
      ⟨(some 9), .fieldAddr 51 (.tmp 3) 1, none⟩,
      ⟨none, .store 2 (.tmp 9) (.tmp 8), none⟩])
   (.seq (.reg [⟨(some 10), .fieldAddr 64 (.tmp 1) 2, none⟩,
       ⟨(some 11), .load 2 (.tmp 10), none⟩,
       ⟨(some 12), .fieldAddr 51 (.tmp 3) 2, none⟩,
       ⟨none, .store 2 (.tmp 12) (.tmp 11), none⟩])
    (.seq (.reg [⟨(some 13), .fieldAddr 64 (.tmp 1) 3, none⟩,
        ⟨(some 14), .load 2 (.tmp 13), none⟩,
        ⟨(some 15), .fieldAddr 51 (.tmp 3) 3, none⟩,
        ⟨none, .store 2 (.tmp 15) (.tmp 14), none⟩])
     (.seq (.reg [⟨(some 16), .load 51 (.tmp 3), none⟩,
         ⟨none, .store 51 (.tmp 2) (.tmp 16), none⟩])
      .ret)))))))
theorem s96 : slimF Try.f96 = some (c96, [.c 2 51], 17) := by kernel_rfl
theorem o96 : okF [] Try.f96 = true := by kernel_rfl
theorem p96 : Pure Try.prog 96 g96 := by
  refine semOf_pure fun ⟨τ, x⟩ n h2 hb => ?_
  have hT : Table Try.prog [] := .nil
  refine SatP.of_body hT hm Try.func96 s96 o96 h2 (by simp) ?_
  have hb' : 0 ≤ 1048576 := by
    have := hb
    simp only [tot_Inc] at this
    exact this
  have hn0 : n ≠ 0 := by omega
  simp (config := {maxSteps := 4000000, implicitDefEqProofs := false}) [c96, go_sem, hn0]
  all_goals omega
/- laws.toSlot -/
noncomputable def g94 : Fsem := toSem enSlot enSlot
@[go_sem] theorem g94_eq {n : Nat} {x : Slot} : g94 n [.agg [.int .i64 x.epoch, .int .i64 x.promised.no, .int .i64 x.promised.by_, .int .i64 x.accepted.no, .int .i64 x.accepted.by_, .int .i64 x.inc.epoch, .int .i64 x.inc.kind, .int .i64 x.inc.a, .int .i64 x.inc.b]] = ⟨0 ≤ 1048576, .agg [.int .i64 x.epoch, .int .i64 x.promised.no, .int .i64 x.promised.by_, .int .i64 x.accepted.no, .int .i64 x.accepted.by_, .int .i64 x.inc.epoch, .int .i64 x.inc.kind, .int .i64 x.inc.a, .int .i64 x.inc.b]⟩ := by
  have h := toSem_eq (Ei := enSlot) (Eo := enSlot) (n := n) (τ := 0) (x := x)
  rw [tot_Slot] at h
  exact h
def c94 : SCode := (.seq (.reg [⟨(some 1), .box 130 (.tmp 0), none⟩,
   ⟨(some 2), .alloc 98, none⟩])
(.seq (.reg [⟨(some 3), .alloc 98, none⟩])
 (.seq (.reg [⟨(some 4), .fieldAddr 130 (.tmp 1) 0, none⟩,
     ⟨(some 5), .load 2 (.tmp 4), none⟩,
     ⟨(some 6), .fieldAddr 98 (.tmp 3) 0, none⟩,
     ⟨none, .store 2 (.tmp 6) (.tmp 5), none⟩])
  (.seq (.reg [⟨(some 7), .fieldAddr 130 (.tmp 1) 1, none⟩,
      ⟨(some 8), .load 63 (.tmp 7), none⟩,
      ⟨(some 9), .call ⟨(.value (.func 95)), #[(.tmp 8)], #[63]⟩, none⟩,
      ⟨(some 10), .fieldAddr 98 (.tmp 3) 1, none⟩,
      ⟨none, .store 49 (.tmp 10) (.tmp 9), none⟩])
   (.seq (.reg [⟨(some 11), .fieldAddr 130 (.tmp 1) 2, none⟩,
       ⟨(some 12), .load 63 (.tmp 11), none⟩,
       ⟨(some 13), .call ⟨(.value (.func 95)), #[(.tmp 12)], #[63]⟩, none⟩,
       ⟨(some 14), .fieldAddr 98 (.tmp 3) 2, none⟩,
       ⟨none, .store 49 (.tmp 14) (.tmp 13), none⟩])
    (.seq (.reg [⟨(some 15), .fieldAddr 130 (.tmp 1) 3, none⟩,
        ⟨(some 16), .load 64 (.tmp 15), none⟩,
        ⟨(some 17), .call ⟨(.value (.func 96)), #[(.tmp 16)], #[64]⟩, none⟩,
        ⟨(some 18), .fieldAddr 98 (.tmp 3) 3, none⟩,
        ⟨none, .store 51 (.tmp 18) (.tmp 17), none⟩])
     (.seq (.reg [⟨(some 19), .load 98 (.tmp 3), none⟩,
         ⟨none, .store 98 (.tmp 2) (.tmp 19), none⟩])
      .ret)))))))
theorem s94 : slimF Try.f94 = some (c94, [.c 2 98], 20) := by kernel_rfl
theorem o94 : okF [(95, g95), (96, g96)] Try.f94 = true := by kernel_rfl
theorem p94 : Pure Try.prog 94 g94 := by
  refine semOf_pure fun ⟨τ, x⟩ n h2 hb => ?_
  have hT : Table Try.prog [(95, g95), (96, g96)] := (.cons p95 (.cons p96 .nil))
  refine SatP.of_body hT hm Try.func94 s94 o94 h2 (by simp) ?_
  have hb' : 0 ≤ 1048576 := by
    have := hb
    simp only [tot_Slot] at this
    exact this
  have hn0 : n ≠ 0 := by omega
  simp (config := {maxSteps := 4000000, implicitDefEqProofs := false}) [c94, go_sem, hn0]
  all_goals omega
/- laws.toSlotS -/
noncomputable def g66 : Fsem := toSem enSlot.list enSlot.list
@[go_sem] theorem g66_eq {n τ : Nat} {x : List Slot} : g66 n [.sl τ 9 (x.map (enSlot.av τ))] = ⟨x.length ≤ 1048576, .sl n 9 (x.map (enSlot.av n))⟩ := by
  have h := toSem_eq (Ei := enSlot.list) (Eo := enSlot.list) (n := n) (τ := τ) (x := x)
  rw [tot_list, sum_flat (E := enSlot) (fun x => tot_Slot), Nat.add_zero] at h
  exact h
theorem s66 : slimF Try.f66 = some (toDeepC 3 62 47 130 98 94, [.t 2], 23) := by kernel_rfl
theorem o66 : okF [(94, g94)] Try.f66 = true := by kernel_rfl
theorem p66 : Pure Try.prog 66 g66 := toDeep_ok hm Try.func66 s66 o66 (by omega) ty_62 ty_47 fit_130 fitz_98 p94 (fun n τ x => toSem_eq)
/- laws.toInt64S -/
noncomputable def g97 : Fsem := toSem (En.int .i64).list (En.int .i64).list
@[go_sem] theorem g97_eq {n τ : Nat} {x : List Int} : g97 n [.sl τ 1 (x.map (AV.int .i64))] = ⟨x.length ≤ 1048576, .sl n 1 (x.map (AV.int .i64))⟩ := by
  have h := toSem_eq (Ei := (En.int .i64).list) (Eo := (En.int .i64).list) (n := n) (τ := τ) (x := x)
  rw [tot_list, sum_flat (E := (En.int .i64)) (fun x => rfl), Nat.add_zero] at h
  exact h
theorem s97 : slimF Try.f97 = some (toFlatC 3 52 2, [.t 2], 22) := by kernel_rfl
theorem o97 : okF [] Try.f97 = true := by kernel_rfl
theorem p97 : Pure Try.prog 97 g97 := toFlat_ok hm Try.func97 s97 o97 (by omega) ty_52 (fite_2) (fitze_2) rfl (fun _ _ _ => rfl)
/- laws.toTry -/
noncomputable def g67 : Fsem := toSem enTry enTry
@[go_sem] theorem g67_eq {n τ : Nat} {x : Try} : g67 n [.agg [.int .i64 x.epoch, .int .i64 x.ballot.no, .int .i64 x.ballot.by_, .int .i64 x.inc.epoch, .int .i64 x.inc.kind, .int .i64 x.inc.a, .int .i64 x.inc.b, .int .i64 x.highest.no, .int .i64 x.highest.by_, .sl τ 1 (x.promises.map (AV.int .i64)), .sl τ 1 (x.accepts.map (AV.int .i64)), .bool x.decided]] = ⟨(x.promises.length + x.accepts.length) ≤ 1048576, .agg [.int .i64 x.epoch, .int .i64 x.ballot.no, .int .i64 x.ballot.by_, .int .i64 x.inc.epoch, .int .i64 x.inc.kind, .int .i64 x.inc.a, .int .i64 x.inc.b, .int .i64 x.highest.no, .int .i64 x.highest.by_, .sl n 1 (x.promises.map (AV.int .i64)), .sl n 1 (x.accepts.map (AV.int .i64)), .bool x.decided]⟩ := by
  have h := toSem_eq (Ei := enTry) (Eo := enTry) (n := n) (τ := τ) (x := x)
  rw [tot_Try] at h
  exact h
def c67 : SCode := (.seq (.reg [⟨(some 1), .box 66 (.tmp 0), none⟩,
   ⟨(some 2), .alloc 54, none⟩])
(.seq (.reg [⟨(some 3), .alloc 54, none⟩])
 (.seq (.reg [⟨(some 4), .fieldAddr 66 (.tmp 1) 0, none⟩,
     ⟨(some 5), .load 2 (.tmp 4), none⟩,
     ⟨(some 6), .fieldAddr 54 (.tmp 3) 0, none⟩,
     ⟨none, .store 2 (.tmp 6) (.tmp 5), none⟩])
  (.seq (.reg [⟨(some 7), .fieldAddr 66 (.tmp 1) 1, none⟩,
      ⟨(some 8), .load 63 (.tmp 7), none⟩,
      ⟨(some 9), .call ⟨(.value (.func 95)), #[(.tmp 8)], #[63]⟩, none⟩,
      ⟨(some 10), .fieldAddr 54 (.tmp 3) 1, none⟩,
      ⟨none, .store 49 (.tmp 10) (.tmp 9), none⟩])
   (.seq (.reg [⟨(some 11), .fieldAddr 66 (.tmp 1) 2, none⟩,
       ⟨(some 12), .load 64 (.tmp 11), none⟩,
       ⟨(some 13), .call ⟨(.value (.func 96)), #[(.tmp 12)], #[64]⟩, none⟩,
       ⟨(some 14), .fieldAddr 54 (.tmp 3) 2, none⟩,
       ⟨none, .store 51 (.tmp 14) (.tmp 13), none⟩])
    (.seq (.reg [⟨(some 15), .fieldAddr 66 (.tmp 1) 3, none⟩,
        ⟨(some 16), .load 63 (.tmp 15), none⟩,
        ⟨(some 17), .call ⟨(.value (.func 95)), #[(.tmp 16)], #[63]⟩, none⟩,
        ⟨(some 18), .fieldAddr 54 (.tmp 3) 3, none⟩,
        ⟨none, .store 49 (.tmp 18) (.tmp 17), none⟩])
     (.seq (.reg [⟨(some 19), .fieldAddr 66 (.tmp 1) 4, none⟩,
         ⟨(some 20), .load 52 (.tmp 19), none⟩,
         ⟨(some 21), .call ⟨(.value (.func 97)), #[(.tmp 20)], #[52]⟩, none⟩,
         ⟨(some 22), .fieldAddr 54 (.tmp 3) 4, none⟩,
         ⟨none, .store 52 (.tmp 22) (.tmp 21), none⟩])
      (.seq (.reg [⟨(some 23), .fieldAddr 66 (.tmp 1) 5, none⟩,
          ⟨(some 24), .load 52 (.tmp 23), none⟩,
          ⟨(some 25), .call ⟨(.value (.func 97)), #[(.tmp 24)], #[52]⟩, none⟩,
          ⟨(some 26), .fieldAddr 54 (.tmp 3) 5, none⟩,
          ⟨none, .store 52 (.tmp 26) (.tmp 25), none⟩])
       (.seq (.reg [⟨(some 27), .fieldAddr 66 (.tmp 1) 6, none⟩,
           ⟨(some 28), .load 4 (.tmp 27), none⟩,
           ⟨(some 29), .fieldAddr 54 (.tmp 3) 6, none⟩,
           ⟨none, .store 4 (.tmp 29) (.tmp 28), none⟩])
        (.seq (.reg [⟨(some 30), .load 54 (.tmp 3), none⟩,
            ⟨none, .store 54 (.tmp 2) (.tmp 30), none⟩])
         .ret))))))))))
theorem s67 : slimF Try.f67 = some (c67, [.c 2 54], 31) := by kernel_rfl
theorem o67 : okF [(95, g95), (96, g96), (97, g97)] Try.f67 = true := by kernel_rfl
theorem p67 : Pure Try.prog 67 g67 := by
  refine semOf_pure fun ⟨τ, x⟩ n h2 hb => ?_
  have hT : Table Try.prog [(95, g95), (96, g96), (97, g97)] := (.cons p95 (.cons p96 (.cons p97 .nil)))
  refine SatP.of_body hT hm Try.func67 s67 o67 h2 (by simp) ?_
  have hb' : (x.promises.length + x.accepts.length) ≤ 1048576 := by
    have := hb
    simp only [tot_Try] at this
    exact this
  have hn0 : n ≠ 0 := by omega
  simp (config := {maxSteps := 4000000, implicitDefEqProofs := false}) [c67, go_sem, hn0]
  all_goals omega
/- laws.toMon -/
noncomputable def g29 : Fsem := toSem enMon enMon
@[go_sem] theorem g29_eq {n τ : Nat} {x : Mon} : g29 n [.agg [.int .i64 x.id, .int .i64 x.many, .sl τ 9 (x.slots.map (enSlot.av τ)), .int .i64 x.try_.epoch, .int .i64 x.try_.ballot.no, .int .i64 x.try_.ballot.by_, .int .i64 x.try_.inc.epoch, .int .i64 x.try_.inc.kind, .int .i64 x.try_.inc.a, .int .i64 x.try_.inc.b, .int .i64 x.try_.highest.no, .int .i64 x.try_.highest.by_, .sl τ 1 (x.try_.promises.map (AV.int .i64)), .sl τ 1 (x.try_.accepts.map (AV.int .i64)), .bool x.try_.decided]] = ⟨(x.slots.length + (x.try_.promises.length + x.try_.accepts.length)) ≤ 1048576, .agg [.int .i64 x.id, .int .i64 x.many, .sl n 9 (x.slots.map (enSlot.av n)), .int .i64 x.try_.epoch, .int .i64 x.try_.ballot.no, .int .i64 x.try_.ballot.by_, .int .i64 x.try_.inc.epoch, .int .i64 x.try_.inc.kind, .int .i64 x.try_.inc.a, .int .i64 x.try_.inc.b, .int .i64 x.try_.highest.no, .int .i64 x.try_.highest.by_, .sl n 1 (x.try_.promises.map (AV.int .i64)), .sl n 1 (x.try_.accepts.map (AV.int .i64)), .bool x.try_.decided]⟩ := by
  have h := toSem_eq (Ei := enMon) (Eo := enMon) (n := n) (τ := τ) (x := x)
  rw [tot_Mon] at h
  exact h
def c29 : SCode := (.seq (.reg [⟨(some 1), .box 68 (.tmp 0), none⟩,
   ⟨(some 2), .alloc 56, none⟩])
(.seq (.reg [⟨(some 3), .alloc 56, none⟩])
 (.seq (.reg [⟨(some 4), .fieldAddr 68 (.tmp 1) 0, none⟩,
     ⟨(some 5), .load 2 (.tmp 4), none⟩,
     ⟨(some 6), .fieldAddr 56 (.tmp 3) 0, none⟩,
     ⟨none, .store 2 (.tmp 6) (.tmp 5), none⟩])
  (.seq (.reg [⟨(some 7), .fieldAddr 68 (.tmp 1) 1, none⟩,
      ⟨(some 8), .load 2 (.tmp 7), none⟩,
      ⟨(some 9), .fieldAddr 56 (.tmp 3) 1, none⟩,
      ⟨none, .store 2 (.tmp 9) (.tmp 8), none⟩])
   (.seq (.reg [⟨(some 10), .fieldAddr 68 (.tmp 1) 2, none⟩,
       ⟨(some 11), .load 62 (.tmp 10), none⟩,
       ⟨(some 12), .call ⟨(.value (.func 66)), #[(.tmp 11)], #[62]⟩, none⟩,
       ⟨(some 13), .fieldAddr 56 (.tmp 3) 2, none⟩,
       ⟨none, .store 47 (.tmp 13) (.tmp 12), none⟩])
    (.seq (.reg [⟨(some 14), .fieldAddr 68 (.tmp 1) 3, none⟩,
        ⟨(some 15), .load 66 (.tmp 14), none⟩,
        ⟨(some 16), .call ⟨(.value (.func 67)), #[(.tmp 15)], #[66]⟩, none⟩,
        ⟨(some 17), .fieldAddr 56 (.tmp 3) 3, none⟩,
        ⟨none, .store 54 (.tmp 17) (.tmp 16), none⟩])
     (.seq (.reg [⟨(some 18), .load 56 (.tmp 3), none⟩,
         ⟨none, .store 56 (.tmp 2) (.tmp 18), none⟩])
      .ret)))))))
theorem s29 : slimF Try.f29 = some (c29, [.c 2 56], 19) := by kernel_rfl
theorem o29 : okF [(66, g66), (67, g67)] Try.f29 = true := by kernel_rfl
theorem p29 : Pure Try.prog 29 g29 := by
  refine semOf_pure fun ⟨τ, x⟩ n h2 hb => ?_
  have hT : Table Try.prog [(66, g66), (67, g67)] := (.cons p66 (.cons p67 .nil))
  refine SatP.of_body hT hm Try.func29 s29 o29 h2 (by simp) ?_
  have hb' : (x.slots.length + (x.try_.promises.length + x.try_.accepts.length)) ≤ 1048576 := by
    have := hb
    simp only [tot_Mon] at this
    exact this
  have hn0 : n ≠ 0 := by omega
  simp (config := {maxSteps := 4000000, implicitDefEqProofs := false}) [c29, go_sem, hn0]
  all_goals omega
/- laws.eqBallot -/
noncomputable def g85 : Fsem := eqSem enBallot enBallot
@[go_sem] theorem g85_eq {n : Nat} {x y : Ballot} : g85 n [.agg [.int .i64 x.no, .int .i64 x.by_], .agg [.int .i64 y.no, .int .i64 y.by_]] = ⟨True, .bool (eqB x y)⟩ := eqSem_eq (E := enBallot) (E' := enBallot) (n := n) (τ := 0) (τ' := 0) (x := x) (y := y)
def c85 : SCode := (.seq (.reg [⟨(some 2), .box 49 (.tmp 0), none⟩,
   ⟨(some 3), .box 49 (.tmp 1), none⟩,
   ⟨(some 4), .assign (.const (.bool false)), none⟩])
(.seq (.seq (.reg [⟨(some 5), .fieldAddr 49 (.tmp 2) 0, none⟩,
     ⟨(some 6), .load 2 (.tmp 5), none⟩,
     ⟨(some 7), .fieldAddr 49 (.tmp 3) 0, none⟩,
     ⟨(some 8), .load 2 (.tmp 7), none⟩,
     ⟨(some 9), .binOp .neq 2 (.tmp 6) (.tmp 8) 2, none⟩])
  (.cond (.tmp 9) (.seq (.reg [⟨(some 4), .assign (.const (.bool false)), none⟩])
    .ret)
   .skip))
 (.seq (.seq (.reg [⟨(some 10), .fieldAddr 49 (.tmp 2) 1, none⟩,
      ⟨(some 11), .load 2 (.tmp 10), none⟩,
      ⟨(some 12), .fieldAddr 49 (.tmp 3) 1, none⟩,
      ⟨(some 13), .load 2 (.tmp 12), none⟩,
      ⟨(some 14), .binOp .neq 2 (.tmp 11) (.tmp 13) 2, none⟩])
   (.cond (.tmp 14) (.seq (.reg [⟨(some 4), .assign (.const (.bool false)), none⟩])
     .ret)
    .skip))
  (.seq (.reg [⟨(some 4), .assign (.const (.bool true)), none⟩])
   .ret))))
theorem s85 : slimF Try.f85 = some (c85, [.t 4], 15) := by kernel_rfl
theorem o85 : okF [] Try.f85 = true := by kernel_rfl
theorem p85 : Pure Try.prog 85 g85 := by
  refine semOf_pure fun ⟨τ, τ', x, y⟩ n h2 _ => ?_
  have hT : Table Try.prog [] := .nil
  refine SatP.of_body hT hm Try.func85 s85 o85 h2 (by simp) ?_
  rcases Bool.eq_false_or_eq_true (eqB x y) with hxy | hxy
  · rw [hxy]
    have h := eqB_iff.1 hxy
    subst h
    simp (config := {contextual := true, maxSteps := 4000000, implicitDefEqProofs := false}) [c85, go_sem, eqB_iff, eqB_not]
  · rw [hxy]
    have h := eqB_not.1 hxy
    rw [eq_Ballot] at h
    simp (config := {contextual := true, maxSteps := 4000000, implicitDefEqProofs := false}) [c85, go_sem, eqB_iff, eqB_not]
    simpa using h
/- laws.eqInc -/
noncomputable def g33 : Fsem := eqSem enInc enInc
@[go_sem] theorem g33_eq {n : Nat} {x y : Inc} : g33 n [.agg [.int .i64 x.epoch, .int .i64 x.kind, .int .i64 x.a, .int .i64 x.b], .agg [.int .i64 y.epoch, .int .i64 y.kind, .int .i64 y.a, .int .i64 y.b]] = ⟨True, .bool (eqB x y)⟩ := eqSem_eq (E := enInc) (E' := enInc) (n := n) (τ := 0) (τ' := 0) (x := x) (y := y)
def c33 : SCode := (.seq (.reg [⟨(some 2), .box 51 (.tmp 0), none⟩,
   ⟨(some 3), .box 51 (.tmp 1), none⟩,
   ⟨(some 4), .assign (.const (.bool false)), none⟩])
(.seq (.seq (.reg [⟨(some 5), .fieldAddr 51 (.tmp 2) 0, none⟩,
     ⟨(some 6), .load 2 (.tmp 5), none⟩,
     ⟨(some 7), .fieldAddr 51 (.tmp 3) 0, none⟩,
     ⟨(some 8), .load 2 (.tmp 7), none⟩,
     ⟨(some 9), .binOp .neq 2 (.tmp 6) (.tmp 8) 2, none⟩])
  (.cond (.tmp 9) (.seq (.reg [⟨(some 4), .assign (.const (.bool false)), none⟩])
    .ret)
   .skip))
 (.seq (.seq (.reg [⟨(some 10), .fieldAddr 51 (.tmp 2) 1, none⟩,
      ⟨(some 11), .load 2 (.tmp 10), none⟩,
      ⟨(some 12), .fieldAddr 51 (.tmp 3) 1, none⟩,
      ⟨(some 13), .load 2 (.tmp 12), none⟩,
      ⟨(some 14), .binOp .neq 2 (.tmp 11) (.tmp 13) 2, none⟩])
   (.cond (.tmp 14) (.seq (.reg [⟨(some 4), .assign (.const (.bool false)), none⟩])
     .ret)
    .skip))
  (.seq (.seq (.reg [⟨(some 15), .fieldAddr 51 (.tmp 2) 2, none⟩,
       ⟨(some 16), .load 2 (.tmp 15), none⟩,
       ⟨(some 17), .fieldAddr 51 (.tmp 3) 2, none⟩,
       ⟨(some 18), .load 2 (.tmp 17), none⟩,
       ⟨(some 19), .binOp .neq 2 (.tmp 16) (.tmp 18) 2, none⟩])
    (.cond (.tmp 19) (.seq (.reg [⟨(some 4), .assign (.const (.bool false)), none⟩])
      .ret)
     .skip))
   (.seq (.seq (.reg [⟨(some 20), .fieldAddr 51 (.tmp 2) 3, none⟩,
        ⟨(some 21), .load 2 (.tmp 20), none⟩,
        ⟨(some 22), .fieldAddr 51 (.tmp 3) 3, none⟩,
        ⟨(some 23), .load 2 (.tmp 22), none⟩,
        ⟨(some 24), .binOp .neq 2 (.tmp 21) (.tmp 23) 2, none⟩])
     (.cond (.tmp 24) (.seq (.reg [⟨(some 4), .assign (.const (.bool false)), none⟩])
       .ret)
      .skip))
    (.seq (.reg [⟨(some 4), .assign (.const (.bool true)), none⟩])
     .ret))))))
theorem s33 : slimF Try.f33 = some (c33, [.t 4], 25) := by kernel_rfl
theorem o33 : okF [] Try.f33 = true := by kernel_rfl
theorem p33 : Pure Try.prog 33 g33 := by
  refine semOf_pure fun ⟨τ, τ', x, y⟩ n h2 _ => ?_
  have hT : Table Try.prog [] := .nil
  refine SatP.of_body hT hm Try.func33 s33 o33 h2 (by simp) ?_
  rcases Bool.eq_false_or_eq_true (eqB x y) with hxy | hxy
  · rw [hxy]
    have h := eqB_iff.1 hxy
    subst h
    simp (config := {contextual := true, maxSteps := 4000000, implicitDefEqProofs := false}) [c33, go_sem, eqB_iff, eqB_not]
  · rw [hxy]
    have h := eqB_not.1 hxy
    rw [eq_Inc] at h
    simp (config := {contextual := true, maxSteps := 4000000, implicitDefEqProofs := false}) [c33, go_sem, eqB_iff, eqB_not]
    simpa using h
/- laws.eqSlot -/
noncomputable def g84 : Fsem := eqSem enSlot enSlot
@[go_sem] theorem g84_eq {n : Nat} {x y : Slot} : g84 n [.agg [.int .i64 x.epoch, .int .i64 x.promised.no, .int .i64 x.promised.by_, .int .i64 x.accepted.no, .int .i64 x.accepted.by_, .int .i64 x.inc.epoch, .int .i64 x.inc.kind, .int .i64 x.inc.a, .int .i64 x.inc.b], .agg [.int .i64 y.epoch, .int .i64 y.promised.no, .int .i64 y.promised.by_, .int .i64 y.accepted.no, .int .i64 y.accepted.by_, .int .i64 y.inc.epoch, .int .i64 y.inc.kind, .int .i64 y.inc.a, .int .i64 y.inc.b]] = ⟨True, .bool (eqB x y)⟩ := eqSem_eq (E := enSlot) (E' := enSlot) (n := n) (τ := 0) (τ' := 0) (x := x) (y := y)
def c84 : SCode := (.seq (.reg [⟨(some 2), .box 98 (.tmp 0), none⟩,
   ⟨(some 3), .box 98 (.tmp 1), none⟩,
   ⟨(some 4), .assign (.const (.bool false)), none⟩])
(.seq (.seq (.reg [⟨(some 5), .fieldAddr 98 (.tmp 2) 0, none⟩,
     ⟨(some 6), .load 2 (.tmp 5), none⟩,
     ⟨(some 7), .fieldAddr 98 (.tmp 3) 0, none⟩,
     ⟨(some 8), .load 2 (.tmp 7), none⟩,
     ⟨(some 9), .binOp .neq 2 (.tmp 6) (.tmp 8) 2, none⟩])
  (.cond (.tmp 9) (.seq (.reg [⟨(some 4), .assign (.const (.bool false)), none⟩])
    .ret)
   .skip))
 (.seq (.seq (.reg [⟨(some 10), .fieldAddr 98 (.tmp 2) 1, none⟩,
      ⟨(some 11), .load 49 (.tmp 10), none⟩,
      ⟨(some 12), .fieldAddr 98 (.tmp 3) 1, none⟩,
      ⟨(some 13), .load 49 (.tmp 12), none⟩,
      ⟨(some 14), .call ⟨(.value (.func 85)), #[(.tmp 11), (.tmp 13)], #[49, 49]⟩, none⟩,
      ⟨(some 15), .unOp .not 4 (.tmp 14), none⟩])
   (.cond (.tmp 15) (.seq (.reg [⟨(some 4), .assign (.const (.bool false)), none⟩])
     .ret)
    .skip))
  (.seq (.seq (.reg [⟨(some 16), .fieldAddr 98 (.tmp 2) 2, none⟩,
       ⟨(some 17), .load 49 (.tmp 16), none⟩,
       ⟨(some 18), .fieldAddr 98 (.tmp 3) 2, none⟩,
       ⟨(some 19), .load 49 (.tmp 18), none⟩,
       ⟨(some 20), .call ⟨(.value (.func 85)), #[(.tmp 17), (.tmp 19)], #[49, 49]⟩, none⟩,
       ⟨(some 21), .unOp .not 4 (.tmp 20), none⟩])
    (.cond (.tmp 21) (.seq (.reg [⟨(some 4), .assign (.const (.bool false)), none⟩])
      .ret)
     .skip))
   (.seq (.seq (.reg [⟨(some 22), .fieldAddr 98 (.tmp 2) 3, none⟩,
        ⟨(some 23), .load 51 (.tmp 22), none⟩,
        ⟨(some 24), .fieldAddr 98 (.tmp 3) 3, none⟩,
        ⟨(some 25), .load 51 (.tmp 24), none⟩,
        ⟨(some 26), .call ⟨(.value (.func 33)), #[(.tmp 23), (.tmp 25)], #[51, 51]⟩, none⟩,
        ⟨(some 27), .unOp .not 4 (.tmp 26), none⟩])
     (.cond (.tmp 27) (.seq (.reg [⟨(some 4), .assign (.const (.bool false)), none⟩])
       .ret)
      .skip))
    (.seq (.reg [⟨(some 4), .assign (.const (.bool true)), none⟩])
     .ret))))))
theorem s84 : slimF Try.f84 = some (c84, [.t 4], 28) := by kernel_rfl
theorem o84 : okF [(85, g85), (33, g33)] Try.f84 = true := by kernel_rfl
theorem p84 : Pure Try.prog 84 g84 := by
  refine semOf_pure fun ⟨τ, τ', x, y⟩ n h2 _ => ?_
  have hT : Table Try.prog [(85, g85), (33, g33)] := (.cons p85 (.cons p33 .nil))
  refine SatP.of_body hT hm Try.func84 s84 o84 h2 (by simp) ?_
  rcases Bool.eq_false_or_eq_true (eqB x y) with hxy | hxy
  · rw [hxy]
    have h := eqB_iff.1 hxy
    subst h
    simp (config := {contextual := true, maxSteps := 4000000, implicitDefEqProofs := false}) [c84, go_sem, eqB_iff, eqB_not]
  · rw [hxy]
    have h := eqB_not.1 hxy
    rw [eq_Slot] at h
    simp (config := {contextual := true, maxSteps := 4000000, implicitDefEqProofs := false}) [c84, go_sem, eqB_iff, eqB_not]
    simpa using h
/- laws.eqSlotS -/
noncomputable def g53 : Fsem := eqSem enSlot.list enSlot.list
@[go_sem] theorem g53_eq {n τ τ' : Nat} {x y : List Slot} : g53 n [.sl τ 9 (x.map (enSlot.av τ)), .sl τ' 9 (y.map (enSlot.av τ'))] = ⟨True, .bool (eqB x y)⟩ := eqSem_eq (E := enSlot.list) (E' := enSlot.list) (n := n) (τ := τ) (τ' := τ') (x := x) (y := y)
theorem s53 : slimF Try.f53 = some (eqDeepC 3 4 47 98 84, [.t 4], 27) := by kernel_rfl
theorem o53 : okF [(84, g84)] Try.f53 = true := by kernel_rfl
theorem p53 : Pure Try.prog 53 g53 := eqDeep_ok hm Try.func53 s53 o53 (by omega) ty_47 fit_98 fit_98 p84 (fun n τ x τ' x' => eqSem_eq)
/- laws.eqInt64S -/
noncomputable def g86 : Fsem := eqSem (En.int .i64).list (En.int .i64).list
@[go_sem] theorem g86_eq {n τ τ' : Nat} {x y : List Int} : g86 n [.sl τ 1 (x.map (AV.int .i64)), .sl τ' 1 (y.map (AV.int .i64))] = ⟨True, .bool (eqB x y)⟩ := eqSem_eq (E := (En.int .i64).list) (E' := (En.int .i64).list) (n := n) (τ := τ) (τ' := τ') (x := x) (y := y)
theorem s86 : slimF Try.f86 = some (eqFlatC 3 52 2, [.t 4], 26) := by kernel_rfl
theorem o86 : okF [] Try.f86 = true := by kernel_rfl
theorem p86 : Pure Try.prog 86 g86 := eqFlat_ok hm Try.func86 s86 o86 (by omega) ty_52 (fite_2) (fite_2) (fun τ x τ' x' => by simp [go_sem, eqB_dec])
/- laws.eqTry -/
noncomputable def g54 : Fsem := eqSem enTry enTry
@[go_sem] theorem g54_eq {n τ τ' : Nat} {x y : Try} : g54 n [.agg [.int .i64 x.epoch, .int .i64 x.ballot.no, .int .i64 x.ballot.by_, .int .i64 x.inc.epoch, .int .i64 x.inc.kind, .int .i64 x.inc.a, .int .i64 x.inc.b, .int .i64 x.highest.no, .int .i64 x.highest.by_, .sl τ 1 (x.promises.map (AV.int .i64)), .sl τ 1 (x.accepts.map (AV.int .i64)), .bool x.decided], .agg [.int .i64 y.epoch, .int .i64 y.ballot.no, .int .i64 y.ballot.by_, .int .i64 y.inc.epoch, .int .i64 y.inc.kind, .int .i64 y.inc.a, .int .i64 y.inc.b, .int .i64 y.highest.no, .int .i64 y.highest.by_, .sl τ' 1 (y.promises.map (AV.int .i64)), .sl τ' 1 (y.accepts.map (AV.int .i64)), .bool y.decided]] = ⟨True, .bool (eqB x y)⟩ := eqSem_eq (E := enTry) (E' := enTry) (n := n) (τ := τ) (τ' := τ') (x := x) (y := y)
def c54 : SCode := (.seq (.reg [⟨(some 2), .box 54 (.tmp 0), none⟩,
   ⟨(some 3), .box 54 (.tmp 1), none⟩,
   ⟨(some 4), .assign (.const (.bool false)), none⟩])
(.seq (.seq (.reg [⟨(some 5), .fieldAddr 54 (.tmp 2) 0, none⟩,
     ⟨(some 6), .load 2 (.tmp 5), none⟩,
     ⟨(some 7), .fieldAddr 54 (.tmp 3) 0, none⟩,
     ⟨(some 8), .load 2 (.tmp 7), none⟩,
     ⟨(some 9), .binOp .neq 2 (.tmp 6) (.tmp 8) 2, none⟩])
  (.cond (.tmp 9) (.seq (.reg [⟨(some 4), .assign (.const (.bool false)), none⟩])
    .ret)
   .skip))
 (.seq (.seq (.reg [⟨(some 10), .fieldAddr 54 (.tmp 2) 1, none⟩,
      ⟨(some 11), .load 49 (.tmp 10), none⟩,
      ⟨(some 12), .fieldAddr 54 (.tmp 3) 1, none⟩,
      ⟨(some 13), .load 49 (.tmp 12), none⟩,
      ⟨(some 14), .call ⟨(.value (.func 85)), #[(.tmp 11), (.tmp 13)], #[49, 49]⟩, none⟩,
      ⟨(some 15), .unOp .not 4 (.tmp 14), none⟩])
   (.cond (.tmp 15) (.seq (.reg [⟨(some 4), .assign (.const (.bool false)), none⟩])
     .ret)
    .skip))
  (.seq (.seq (.reg [⟨(some 16), .fieldAddr 54 (.tmp 2) 2, none⟩,
       ⟨(some 17), .load 51 (.tmp 16), none⟩,
       ⟨(some 18), .fieldAddr 54 (.tmp 3) 2, none⟩,
       ⟨(some 19), .load 51 (.tmp 18), none⟩,
       ⟨(some 20), .call ⟨(.value (.func 33)), #[(.tmp 17), (.tmp 19)], #[51, 51]⟩, none⟩,
       ⟨(some 21), .unOp .not 4 (.tmp 20), none⟩])
    (.cond (.tmp 21) (.seq (.reg [⟨(some 4), .assign (.const (.bool false)), none⟩])
      .ret)
     .skip))
   (.seq (.seq (.reg [⟨(some 22), .fieldAddr 54 (.tmp 2) 3, none⟩,
        ⟨(some 23), .load 49 (.tmp 22), none⟩,
        ⟨(some 24), .fieldAddr 54 (.tmp 3) 3, none⟩,
        ⟨(some 25), .load 49 (.tmp 24), none⟩,
        ⟨(some 26), .call ⟨(.value (.func 85)), #[(.tmp 23), (.tmp 25)], #[49, 49]⟩, none⟩,
        ⟨(some 27), .unOp .not 4 (.tmp 26), none⟩])
     (.cond (.tmp 27) (.seq (.reg [⟨(some 4), .assign (.const (.bool false)), none⟩])
       .ret)
      .skip))
    (.seq (.seq (.reg [⟨(some 28), .fieldAddr 54 (.tmp 2) 4, none⟩,
         ⟨(some 29), .load 52 (.tmp 28), none⟩,
         ⟨(some 30), .fieldAddr 54 (.tmp 3) 4, none⟩,
         ⟨(some 31), .load 52 (.tmp 30), none⟩,
         ⟨(some 32), .call ⟨(.value (.func 86)), #[(.tmp 29), (.tmp 31)], #[52, 52]⟩, none⟩,
         ⟨(some 33), .unOp .not 4 (.tmp 32), none⟩])
      (.cond (.tmp 33) (.seq (.reg [⟨(some 4), .assign (.const (.bool false)), none⟩])
        .ret)
       .skip))
     (.seq (.seq (.reg [⟨(some 34), .fieldAddr 54 (.tmp 2) 5, none⟩,
          ⟨(some 35), .load 52 (.tmp 34), none⟩,
          ⟨(some 36), .fieldAddr 54 (.tmp 3) 5, none⟩,
          ⟨(some 37), .load 52 (.tmp 36), none⟩,
          ⟨(some 38), .call ⟨(.value (.func 86)), #[(.tmp 35), (.tmp 37)], #[52, 52]⟩, none⟩,
          ⟨(some 39), .unOp .not 4 (.tmp 38), none⟩])
       (.cond (.tmp 39) (.seq (.reg [⟨(some 4), .assign (.const (.bool false)), none⟩])
         .ret)
        .skip))
      (.seq (.seq (.reg [⟨(some 40), .fieldAddr 54 (.tmp 2) 6, none⟩,
           ⟨(some 41), .load 4 (.tmp 40), none⟩,
           ⟨(some 42), .fieldAddr 54 (.tmp 3) 6, none⟩,
           ⟨(some 43), .load 4 (.tmp 42), none⟩,
           ⟨(some 44), .binOp .neq 4 (.tmp 41) (.tmp 43) 4, none⟩])
        (.cond (.tmp 44) (.seq (.reg [⟨(some 4), .assign (.const (.bool false)), none⟩])
          .ret)
         .skip))
       (.seq (.reg [⟨(some 4), .assign (.const (.bool true)), none⟩])
        .ret)))))))))
theorem s54 : slimF Try.f54 = some (c54, [.t 4], 45) := by kernel_rfl
theorem o54 : okF [(85, g85), (33, g33), (86, g86)] Try.f54 = true := by kernel_rfl
theorem p54 : Pure Try.prog 54 g54 := by
  refine semOf_pure fun ⟨τ, τ', x, y⟩ n h2 _ => ?_
  have hT : Table Try.prog [(85, g85), (33, g33), (86, g86)] := (.cons p85 (.cons p33 (.cons p86 .nil)))
  refine SatP.of_body hT hm Try.func54 s54 o54 h2 (by simp) ?_
  rcases Bool.eq_false_or_eq_true (eqB x y) with hxy | hxy
  · rw [hxy]
    have h := eqB_iff.1 hxy
    subst h
    simp (config := {contextual := true, maxSteps := 4000000, implicitDefEqProofs := false}) [c54, go_sem, eqB_iff, eqB_not]
  · rw [hxy]
    have h := eqB_not.1 hxy
    rw [eq_Try] at h
    simp (config := {contextual := true, maxSteps := 4000000, implicitDefEqProofs := false}) [c54, go_sem, eqB_iff, eqB_not]
    simpa using h
/- laws.eqMon -/
noncomputable def g24 : Fsem := eqSem enMon enMon
@[go_sem] theorem g24_eq {n τ τ' : Nat} {x y : Mon} : g24 n [.agg [.int .i64 x.id, .int .i64 x.many, .sl τ 9 (x.slots.map (enSlot.av τ)), .int .i64 x.try_.epoch, .int .i64 x.try_.ballot.no, .int .i64 x.try_.ballot.by_, .int .i64 x.try_.inc.epoch, .int .i64 x.try_.inc.kind, .int .i64 x.try_.inc.a, .int .i64 x.try_.inc.b, .int .i64 x.try_.highest.no, .int .i64 x.try_.highest.by_, .sl τ 1 (x.try_.promises.map (AV.int .i64)), .sl τ 1 (x.try_.accepts.map (AV.int .i64)), .bool x.try_.decided], .agg [.int .i64 y.id, .int .i64 y.many, .sl τ' 9 (y.slots.map (enSlot.av τ')), .int .i64 y.try_.epoch, .int .i64 y.try_.ballot.no, .int .i64 y.try_.ballot.by_, .int .i64 y.try_.inc.epoch, .int .i64 y.try_.inc.kind, .int .i64 y.try_.inc.a, .int .i64 y.try_.inc.b, .int .i64 y.try_.highest.no, .int .i64 y.try_.highest.by_, .sl τ' 1 (y.try_.promises.map (AV.int .i64)), .sl τ' 1 (y.try_.accepts.map (AV.int .i64)), .bool y.try_.decided]] = ⟨True, .bool (eqB x y)⟩ := eqSem_eq (E := enMon) (E' := enMon) (n := n) (τ := τ) (τ' := τ') (x := x) (y := y)
def c24 : SCode := (.seq (.reg [⟨(some 2), .box 56 (.tmp 0), none⟩,
   ⟨(some 3), .box 56 (.tmp 1), none⟩,
   ⟨(some 4), .assign (.const (.bool false)), none⟩])
(.seq (.seq (.reg [⟨(some 5), .fieldAddr 56 (.tmp 2) 0, none⟩,
     ⟨(some 6), .load 2 (.tmp 5), none⟩,
     ⟨(some 7), .fieldAddr 56 (.tmp 3) 0, none⟩,
     ⟨(some 8), .load 2 (.tmp 7), none⟩,
     ⟨(some 9), .binOp .neq 2 (.tmp 6) (.tmp 8) 2, none⟩])
  (.cond (.tmp 9) (.seq (.reg [⟨(some 4), .assign (.const (.bool false)), none⟩])
    .ret)
   .skip))
 (.seq (.seq (.reg [⟨(some 10), .fieldAddr 56 (.tmp 2) 1, none⟩,
      ⟨(some 11), .load 2 (.tmp 10), none⟩,
      ⟨(some 12), .fieldAddr 56 (.tmp 3) 1, none⟩,
      ⟨(some 13), .load 2 (.tmp 12), none⟩,
      ⟨(some 14), .binOp .neq 2 (.tmp 11) (.tmp 13) 2, none⟩])
   (.cond (.tmp 14) (.seq (.reg [⟨(some 4), .assign (.const (.bool false)), none⟩])
     .ret)
    .skip))
  (.seq (.seq (.reg [⟨(some 15), .fieldAddr 56 (.tmp 2) 2, none⟩,
       ⟨(some 16), .load 47 (.tmp 15), none⟩,
       ⟨(some 17), .fieldAddr 56 (.tmp 3) 2, none⟩,
       ⟨(some 18), .load 47 (.tmp 17), none⟩,
       ⟨(some 19), .call ⟨(.value (.func 53)), #[(.tmp 16), (.tmp 18)], #[47, 47]⟩, none⟩,
       ⟨(some 20), .unOp .not 4 (.tmp 19), none⟩])
    (.cond (.tmp 20) (.seq (.reg [⟨(some 4), .assign (.const (.bool false)), none⟩])
      .ret)
     .skip))
   (.seq (.seq (.reg [⟨(some 21), .fieldAddr 56 (.tmp 2) 3, none⟩,
        ⟨(some 22), .load 54 (.tmp 21), none⟩,
        ⟨(some 23), .fieldAddr 56 (.tmp 3) 3, none⟩,
        ⟨(some 24), .load 54 (.tmp 23), none⟩,
        ⟨(some 25), .call ⟨(.value (.func 54)), #[(.tmp 22), (.tmp 24)], #[54, 54]⟩, none⟩,
        ⟨(some 26), .unOp .not 4 (.tmp 25), none⟩])
     (.cond (.tmp 26) (.seq (.reg [⟨(some 4), .assign (.const (.bool false)), none⟩])
       .ret)
      .skip))
    (.seq (.reg [⟨(some 4), .assign (.const (.bool true)), none⟩])
     .ret))))))
theorem s24 : slimF Try.f24 = some (c24, [.t 4], 27) := by kernel_rfl
theorem o24 : okF [(53, g53), (54, g54)] Try.f24 = true := by kernel_rfl
theorem p24 : Pure Try.prog 24 g24 := by
  refine semOf_pure fun ⟨τ, τ', x, y⟩ n h2 _ => ?_
  have hT : Table Try.prog [(53, g53), (54, g54)] := (.cons p53 (.cons p54 .nil))
  refine SatP.of_body hT hm Try.func24 s24 o24 h2 (by simp) ?_
  rcases Bool.eq_false_or_eq_true (eqB x y) with hxy | hxy
  · rw [hxy]
    have h := eqB_iff.1 hxy
    subst h
    simp (config := {contextual := true, maxSteps := 4000000, implicitDefEqProofs := false}) [c24, go_sem, eqB_iff, eqB_not]
  · rw [hxy]
    have h := eqB_not.1 hxy
    rw [eq_Mon] at h
    simp (config := {contextual := true, maxSteps := 4000000, implicitDefEqProofs := false}) [c24, go_sem, eqB_iff, eqB_not]
    simpa using h
end Go.Ve
