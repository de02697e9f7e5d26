/- Contracts of the seat: maps compared. No condition. -/
import Derived.Test.YtidfijaobkaalaaV10
namespace Go.Ve
open Go.Proofs Go.RowKit
set_option linter.unusedVariables false
set_option linter.unusedSimpArgs false
set_option maxRecDepth 10000
set_option maxHeartbeats 4000000
theorem s95 : slimF Try.f95 = some (eqC 33 125, [.t 4], 26) := by kernel_rfl
theorem o95 : okF [] Try.f95 = true := by kernel_rfl
noncomputable def g95 : Fsem := eqSem enDev.list enDev.list
@[go_sem] theorem g95_eq {n τ τ' : Nat} {x y : List Dev} : g95 n [.sl τ 2 (x.map (enDev.av τ)), .sl τ' 2 (y.map (enDev.av τ'))] = ⟨True, .bool (eqB x y)⟩ := eqSem_eq (E := enDev.list) (E' := enDev.list) (n := n) (τ := τ) (τ' := τ') (x := x) (y := y)
theorem p95 : Pure Try.prog 95 g95 := eq_ok hm Try.func95 s95 o95 (by omega) ty_33 fit_125 fit_125 (fun τ x τ' x' => by simp [go_sem, eqB_Dev])
theorem s53 : slimF Try.f53 = some (eqC 37 87, [.t 4], 26) := by kernel_rfl
theorem o53 : okF [] Try.f53 = true := by kernel_rfl
noncomputable def g53 : Fsem := eqSem enRule.list enRule.list
@[go_sem] theorem g53_eq {n τ τ' : Nat} {x y : List Rule} : g53 n [.sl τ 4 (x.map (enRule.av τ)), .sl τ' 4 (y.map (enRule.av τ'))] = ⟨True, .bool (eqB x y)⟩ := eqSem_eq (E := enRule.list) (E' := enRule.list) (n := n) (τ := τ) (τ' := τ') (x := x) (y := y)
theorem p53 : Pure Try.prog 53 g53 := eq_ok hm Try.func53 s53 o53 (by omega) ty_37 fit_87 fit_87 (fun τ x τ' x' => by simp [go_sem, eqB_Rule])
theorem s54 : slimF Try.f54 = some (eqC 38 47, [.t 4], 26) := by kernel_rfl
theorem o54 : okF [] Try.f54 = true := by kernel_rfl
noncomputable def g54 : Fsem := eqSem enPool.list enPool.list
@[go_sem] theorem g54_eq {n τ τ' : Nat} {x y : List Pool} : g54 n [.sl τ 6 (x.map (enPool.av τ)), .sl τ' 6 (y.map (enPool.av τ'))] = ⟨True, .bool (eqB x y)⟩ := eqSem_eq (E := enPool.list) (E' := enPool.list) (n := n) (τ := τ) (τ' := τ') (x := x) (y := y)
theorem p54 : Pure Try.prog 54 g54 := eq_ok hm Try.func54 s54 o54 (by omega) ty_38 fit_47 fit_47 (fun τ x τ' x' => by simp [go_sem, eqB_Pool])
theorem s55 : slimF Try.f55 = some (eqC 28 2, [.t 4], 26) := by kernel_rfl
theorem o55 : okF [] Try.f55 = true := by kernel_rfl
noncomputable def g55 : Fsem := eqSem (En.int .i64).list (En.int .i64).list
@[go_sem] theorem g55_eq {n τ τ' : Nat} {x y : List Int} : g55 n [.sl τ 1 (x.map (AV.int .i64)), .sl τ' 1 (y.map (AV.int .i64))] = ⟨True, .bool (eqB x y)⟩ := eqSem_eq (E := (En.int .i64).list) (E' := (En.int .i64).list) (n := n) (τ := τ) (τ' := τ') (x := x) (y := y)
theorem p55 : Pure Try.prog 55 g55 := eq_ok hm Try.func55 s55 o55 (by omega) ty_28 (fite_2) (fite_2) (fun τ x τ' x' => by simp [go_sem, eqB_dec])
/- impl.sameBucket -/
def c97 : SCode := (.seq (.reg [⟨(some 2), .box 115 (.tmp 0), none⟩,
   ⟨(some 3), .box 115 (.tmp 1), none⟩,
   ⟨(some 4), .assign (.const (.bool false)), none⟩])
(.seq (.reg [⟨(some 5), .fieldAddr 115 (.tmp 2) 0, none⟩,
    ⟨(some 6), .load 2 (.tmp 5), none⟩,
    ⟨(some 7), .fieldAddr 115 (.tmp 3) 0, none⟩,
    ⟨(some 8), .load 2 (.tmp 7), none⟩,
    ⟨(some 9), .binOp .eql 2 (.tmp 6) (.tmp 8) 2, none⟩,
    ⟨(some 10), .move (.tmp 9), none⟩,
    ⟨(some 11), .fieldAddr 115 (.tmp 2) 1, (some (10, true))⟩,
    ⟨(some 12), .load 2 (.tmp 11), (some (10, true))⟩,
    ⟨(some 13), .fieldAddr 115 (.tmp 3) 1, (some (10, true))⟩,
    ⟨(some 14), .load 2 (.tmp 13), (some (10, true))⟩,
    ⟨(some 15), .binOp .eql 2 (.tmp 12) (.tmp 14) 2, (some (10, true))⟩,
    ⟨(some 16), .pick (.tmp 10) (.tmp 15) (.const (.bool false)), none⟩,
    ⟨(some 17), .move (.tmp 16), none⟩,
    ⟨(some 18), .fieldAddr 115 (.tmp 2) 2, (some (17, true))⟩,
    ⟨(some 19), .load 28 (.tmp 18), (some (17, true))⟩,
    ⟨(some 20), .fieldAddr 115 (.tmp 3) 2, (some (17, true))⟩,
    ⟨(some 21), .load 28 (.tmp 20), (some (17, true))⟩,
    ⟨(some 22), .call ⟨(.value (.func 55)), #[(.tmp 19), (.tmp 21)], #[28, 28]⟩, (some (17, true))⟩,
    ⟨(some 23), .pick (.tmp 17) (.tmp 22) (.const (.bool false)), none⟩,
    ⟨(some 4), .assign (.tmp 23), none⟩])
 .ret))
theorem s97 : slimF Try.f97 = some (c97, [.t 4], 24) := by kernel_rfl
theorem o97 : okF [(55, g55)] Try.f97 = true := by kernel_rfl
noncomputable def g97 : Fsem := sem2 enBkt enBkt (fun x y => True) (fun n x y => .bool (eqB x y))
@[go_sem] theorem g97_eq {n τ τ' : Nat} {x : Bkt} {y : Bkt} : g97 n [.agg [.int .i64 x.id, .int .i64 x.kind, .sl τ 1 (x.items.map (AV.int .i64))], .agg [.int .i64 y.id, .int .i64 y.kind, .sl τ' 1 (y.items.map (AV.int .i64))]] = ⟨True, .bool (eqB x y)⟩ := sem2_eq  (E := enBkt) (F := enBkt)
theorem p97 : Pure Try.prog 97 g97 := by
  refine sem2_pure fun τ τ' x y n h2 hpre => ?_
  have hT : Table Try.prog [(55, g55)] := (.cons p55 .nil)
  have hn0 : n ≠ 0 := by omega
  refine SatP.of_body hT hm Try.func97 s97 o97 h2 (by simp) ?_
  rw [eqB_Bkt]
  simp (config := {contextual := true, maxSteps := 2000000, implicitDefEqProofs := false}) [c97, go_sem]
theorem s96 : slimF Try.f96 = some (eqFuncC 34 115, [.t 6], 32) := by kernel_rfl
theorem o96 : okF [(97, g97)] Try.f96 = true := by kernel_rfl
noncomputable def g96 : Fsem := eqfSem enBkt enBkt 97
@[go_sem] theorem g96_eq {n τ τ' : Nat} {x y : List Bkt} : g96 n [.sl τ 3 (x.map (enBkt.av τ)), .sl τ' 3 (y.map (enBkt.av τ')), .fn 97 []] = ⟨True, .bool (eqB x y)⟩ := eqfSem_eq (E := enBkt) (E' := enBkt) (n := n) (fe := 97) (τ := τ) (τ' := τ') (x := x) (y := y)
theorem p96 : Pure Try.prog 96 g96 := eqFunc_ok hm Try.func96 s96 o96 (by omega) ty_34 fit_115 fit_115 fitz_115 p97 (fun n τ x τ' x' => by simp [go_sem])
/- impl.sameTree -/
def c52 : SCode := (.seq (.reg [⟨(some 2), .box 36 (.tmp 0), none⟩,
   ⟨(some 3), .box 36 (.tmp 1), none⟩,
   ⟨(some 4), .assign (.const (.bool false)), none⟩])
(.seq (.reg [⟨(some 5), .fieldAddr 36 (.tmp 2) 0, none⟩,
    ⟨(some 6), .load 33 (.tmp 5), none⟩,
    ⟨(some 7), .fieldAddr 36 (.tmp 3) 0, none⟩,
    ⟨(some 8), .load 33 (.tmp 7), none⟩,
    ⟨(some 9), .call ⟨(.value (.func 95)), #[(.tmp 6), (.tmp 8)], #[33, 33]⟩, none⟩,
    ⟨(some 10), .move (.tmp 9), none⟩,
    ⟨(some 11), .fieldAddr 36 (.tmp 2) 1, (some (10, true))⟩,
    ⟨(some 12), .load 34 (.tmp 11), (some (10, true))⟩,
    ⟨(some 13), .fieldAddr 36 (.tmp 3) 1, (some (10, true))⟩,
    ⟨(some 14), .load 34 (.tmp 13), (some (10, true))⟩,
    ⟨(some 15), .call ⟨(.value (.func 96)), #[(.tmp 12), (.tmp 14), (.func 97)], #[34, 34, 127]⟩, (some (10, true))⟩,
    ⟨(some 16), .pick (.tmp 10) (.tmp 15) (.const (.bool false)), none⟩,
    ⟨(some 4), .assign (.tmp 16), none⟩])
 .ret))
theorem s52 : slimF Try.f52 = some (c52, [.t 4], 17) := by kernel_rfl
theorem o52 : okF [(95, g95), (96, g96), (97, g97)] Try.f52 = true := by kernel_rfl
noncomputable def g52 : Fsem := sem2 enTree enTree (fun x y => True) (fun n x y => .bool (eqB x y))
@[go_sem] theorem g52_eq {n τ τ' : Nat} {x : Tree} {y : Tree} : g52 n [.agg [.sl τ 2 (x.devices.map (enDev.av τ)), .sl τ 3 (x.buckets.map (enBkt.av τ))], .agg [.sl τ' 2 (y.devices.map (enDev.av τ')), .sl τ' 3 (y.buckets.map (enBkt.av τ'))]] = ⟨True, .bool (eqB x y)⟩ := sem2_eq  (E := enTree) (F := enTree)
theorem p52 : Pure Try.prog 52 g52 := by
  refine sem2_pure fun τ τ' x y n h2 hpre => ?_
  have hT : Table Try.prog [(95, g95), (96, g96), (97, g97)] := (.cons p95 (.cons p96 (.cons p97 .nil)))
  have hn0 : n ≠ 0 := by omega
  refine SatP.of_body hT hm Try.func52 s52 o52 h2 (by simp) ?_
  rw [eqB_Tree]
  simp (config := {contextual := true, maxSteps := 2000000, implicitDefEqProofs := false}) [c52, go_sem]
/- impl.SameMap -/
def c17 : SCode := (.seq (.reg [⟨(some 2), .box 40 (.tmp 0), none⟩,
   ⟨(some 3), .box 40 (.tmp 1), none⟩,
   ⟨(some 4), .assign (.const (.bool false)), none⟩])
(.seq (.reg [⟨(some 5), .fieldAddr 40 (.tmp 2) 0, none⟩,
    ⟨(some 6), .load 2 (.tmp 5), none⟩,
    ⟨(some 7), .fieldAddr 40 (.tmp 3) 0, none⟩,
    ⟨(some 8), .load 2 (.tmp 7), none⟩,
    ⟨(some 9), .binOp .eql 2 (.tmp 6) (.tmp 8) 2, none⟩,
    ⟨(some 10), .move (.tmp 9), none⟩,
    ⟨(some 11), .fieldAddr 40 (.tmp 2) 1, (some (10, true))⟩,
    ⟨(some 12), .load 2 (.tmp 11), (some (10, true))⟩,
    ⟨(some 13), .fieldAddr 40 (.tmp 3) 1, (some (10, true))⟩,
    ⟨(some 14), .load 2 (.tmp 13), (some (10, true))⟩,
    ⟨(some 15), .binOp .eql 2 (.tmp 12) (.tmp 14) 2, (some (10, true))⟩,
    ⟨(some 16), .pick (.tmp 10) (.tmp 15) (.const (.bool false)), none⟩,
    ⟨(some 17), .move (.tmp 16), none⟩,
    ⟨(some 18), .fieldAddr 40 (.tmp 2) 2, (some (17, true))⟩,
    ⟨(some 19), .load 36 (.tmp 18), (some (17, true))⟩,
    ⟨(some 20), .fieldAddr 40 (.tmp 3) 2, (some (17, true))⟩,
    ⟨(some 21), .load 36 (.tmp 20), (some (17, true))⟩,
    ⟨(some 22), .call ⟨(.value (.func 52)), #[(.tmp 19), (.tmp 21)], #[36, 36]⟩, (some (17, true))⟩,
    ⟨(some 23), .pick (.tmp 17) (.tmp 22) (.const (.bool false)), none⟩,
    ⟨(some 24), .move (.tmp 23), none⟩,
    ⟨(some 25), .fieldAddr 40 (.tmp 2) 3, (some (24, true))⟩,
    ⟨(some 26), .load 37 (.tmp 25), (some (24, true))⟩,
    ⟨(some 27), .fieldAddr 40 (.tmp 3) 3, (some (24, true))⟩,
    ⟨(some 28), .load 37 (.tmp 27), (some (24, true))⟩,
    ⟨(some 29), .call ⟨(.value (.func 53)), #[(.tmp 26), (.tmp 28)], #[37, 37]⟩, (some (24, true))⟩,
    ⟨(some 30), .pick (.tmp 24) (.tmp 29) (.const (.bool false)), none⟩,
    ⟨(some 31), .move (.tmp 30), none⟩,
    ⟨(some 32), .fieldAddr 40 (.tmp 2) 4, (some (31, true))⟩,
    ⟨(some 33), .load 38 (.tmp 32), (some (31, true))⟩,
    ⟨(some 34), .fieldAddr 40 (.tmp 3) 4, (some (31, true))⟩,
    ⟨(some 35), .load 38 (.tmp 34), (some (31, true))⟩,
    ⟨(some 36), .call ⟨(.value (.func 54)), #[(.tmp 33), (.tmp 35)], #[38, 38]⟩, (some (31, true))⟩,
    ⟨(some 37), .pick (.tmp 31) (.tmp 36) (.const (.bool false)), none⟩,
    ⟨(some 38), .move (.tmp 37), none⟩,
    ⟨(some 39), .fieldAddr 40 (.tmp 2) 5, (some (38, true))⟩,
    ⟨(some 40), .load 28 (.tmp 39), (some (38, true))⟩,
    ⟨(some 41), .fieldAddr 40 (.tmp 3) 5, (some (38, true))⟩,
    ⟨(some 42), .load 28 (.tmp 41), (some (38, true))⟩,
    ⟨(some 43), .call ⟨(.value (.func 55)), #[(.tmp 40), (.tmp 42)], #[28, 28]⟩, (some (38, true))⟩,
    ⟨(some 44), .pick (.tmp 38) (.tmp 43) (.const (.bool false)), none⟩,
    ⟨(some 45), .move (.tmp 44), none⟩,
    ⟨(some 46), .fieldAddr 40 (.tmp 2) 6, (some (45, true))⟩,
    ⟨(some 47), .load 28 (.tmp 46), (some (45, true))⟩,
    ⟨(some 48), .fieldAddr 40 (.tmp 3) 6, (some (45, true))⟩,
    ⟨(some 49), .load 28 (.tmp 48), (some (45, true))⟩,
    ⟨(some 50), .call ⟨(.value (.func 55)), #[(.tmp 47), (.tmp 49)], #[28, 28]⟩, (some (45, true))⟩,
    ⟨(some 51), .pick (.tmp 45) (.tmp 50) (.const (.bool false)), none⟩,
    ⟨(some 4), .assign (.tmp 51), none⟩])
 .ret))
theorem s17 : slimF Try.f17 = some (c17, [.t 4], 52) := by kernel_rfl
theorem o17 : okF [(52, g52), (53, g53), (54, g54), (55, g55)] Try.f17 = true := by kernel_rfl
noncomputable def g17 : Fsem := sem2 enMp enMp (fun x y => True) (fun n x y => .bool (eqB x y))
@[go_sem] theorem g17_eq {n τ τ' : Nat} {x : Mp} {y : Mp} : g17 n [.agg [.int .i64 x.epoch, .int .i64 x.term, .sl τ 2 (x.tree.devices.map (enDev.av τ)), .sl τ 3 (x.tree.buckets.map (enBkt.av τ)), .sl τ 4 (x.rules.map (enRule.av τ)), .sl τ 6 (x.pools.map (enPool.av τ)), .sl τ 1 (x.up.map (AV.int .i64)), .sl τ 1 (x.out.map (AV.int .i64))], .agg [.int .i64 y.epoch, .int .i64 y.term, .sl τ' 2 (y.tree.devices.map (enDev.av τ')), .sl τ' 3 (y.tree.buckets.map (enBkt.av τ')), .sl τ' 4 (y.rules.map (enRule.av τ')), .sl τ' 6 (y.pools.map (enPool.av τ')), .sl τ' 1 (y.up.map (AV.int .i64)), .sl τ' 1 (y.out.map (AV.int .i64))]] = ⟨True, .bool (eqB x y)⟩ := sem2_eq  (E := enMp) (F := enMp)
theorem p17 : Pure Try.prog 17 g17 := by
  refine sem2_pure fun τ τ' x y n h2 hpre => ?_
  have hT : Table Try.prog [(52, g52), (53, g53), (54, g54), (55, g55)] := (.cons p52 (.cons p53 (.cons p54 (.cons p55 .nil))))
  have hn0 : n ≠ 0 := by omega
  refine SatP.of_body hT hm Try.func17 s17 o17 h2 (by simp) ?_
  rw [eqB_Mp]
  simp (config := {contextual := true, maxSteps := 2000000, implicitDefEqProofs := false}) [c17, go_sem]
theorem s94 : slimF Try.f94 = some (eqFlatC 3 28 2, [.t 4], 26) := by kernel_rfl
theorem o94 : okF [] Try.f94 = true := by kernel_rfl
noncomputable def g94 : Fsem := eqSem (En.int .i64).list (En.int .i64).list
@[go_sem] theorem g94_eq {n τ τ' : Nat} {x y : List Int} : g94 n [.sl τ 1 (x.map (AV.int .i64)), .sl τ' 1 (y.map (AV.int .i64))] = ⟨True, .bool (eqB x y)⟩ := eqSem_eq (E := (En.int .i64).list) (E' := (En.int .i64).list) (n := n) (τ := τ) (τ' := τ') (x := x) (y := y)
theorem p94 : Pure Try.prog 94 g94 := eqFlat_ok hm Try.func94 s94 o94 (by omega) ty_28 (fite_2) (fite_2) (fun τ x τ' x' => by simp [go_sem, eqB_dec])
/- spec.l11SameTree -/
def c93 : SCode := (.seq (.reg [⟨(some 2), .box 36 (.tmp 0), none⟩,
   ⟨(some 3), .box 36 (.tmp 1), none⟩,
   ⟨(some 4), .assign (.const (.bool false)), none⟩])
(.seq (.seq (.reg [⟨(some 7), .fieldAddr 36 (.tmp 2) 0, none⟩,
     ⟨(some 8), .load 33 (.tmp 7), none⟩,
     ⟨(some 9), .call ⟨(.builtin .len), #[(.tmp 8)], #[33]⟩, none⟩,
     ⟨(some 10), .fieldAddr 36 (.tmp 3) 0, none⟩,
     ⟨(some 11), .load 33 (.tmp 10), none⟩,
     ⟨(some 12), .call ⟨(.builtin .len), #[(.tmp 11)], #[33]⟩, none⟩,
     ⟨(some 13), .binOp .neq 3 (.tmp 9) (.tmp 12) 3, none⟩,
     ⟨(some 14), .move (.tmp 13), none⟩,
     ⟨(some 15), .fieldAddr 36 (.tmp 2) 1, (some (14, false))⟩,
     ⟨(some 16), .load 34 (.tmp 15), (some (14, false))⟩,
     ⟨(some 17), .call ⟨(.builtin .len), #[(.tmp 16)], #[34]⟩, (some (14, false))⟩,
     ⟨(some 18), .fieldAddr 36 (.tmp 3) 1, (some (14, false))⟩,
     ⟨(some 19), .load 34 (.tmp 18), (some (14, false))⟩,
     ⟨(some 20), .call ⟨(.builtin .len), #[(.tmp 19)], #[34]⟩, (some (14, false))⟩,
     ⟨(some 21), .binOp .neq 3 (.tmp 17) (.tmp 20) 3, (some (14, false))⟩,
     ⟨(some 22), .pick (.tmp 14) (.const (.bool true)) (.tmp 21), none⟩])
  (.cond (.tmp 22) (.seq (.reg [⟨(some 4), .assign (.const (.bool false)), none⟩])
    .ret)
   .skip))
 (.seq (.seq (.reg [⟨(some 5), .assign (.const (.int .i64 0)), none⟩])
   (.block 0 (.loop (.seq (.seq (.reg [⟨(some 23), .move (.tmp 5), none⟩,
          ⟨(some 24), .fieldAddr 36 (.tmp 2) 0, none⟩,
          ⟨(some 25), .load 33 (.tmp 24), none⟩,
          ⟨(some 26), .call ⟨(.builtin .len), #[(.tmp 25)], #[33]⟩, none⟩,
          ⟨(some 27), .binOp .lss 3 (.tmp 23) (.tmp 26) 3, none⟩])
       (.cond (.tmp 27) .skip
        (.exit 0)))
      (.seq (.block 1 (.seq (.draw [⟨(some 30), .fieldAddr 36 (.tmp 2) 0, none⟩,
            ⟨(some 31), .load 33 (.tmp 30), none⟩,
            ⟨(some 32), .move (.tmp 5), none⟩,
            ⟨(some 33), .indexAddr 33 (.tmp 31) (.tmp 32), none⟩,
            ⟨(some 34), .load 125 (.tmp 33), none⟩,
            ⟨(some 35), .fieldAddr 36 (.tmp 3) 0, none⟩,
            ⟨(some 36), .load 33 (.tmp 35), none⟩,
            ⟨(some 37), .move (.tmp 5), none⟩,
            ⟨(some 38), .indexAddr 33 (.tmp 36) (.tmp 37), none⟩,
            ⟨(some 39), .load 125 (.tmp 38), none⟩,
            ⟨(some 40), .binOp .neq 125 (.tmp 34) (.tmp 39) 125, none⟩] [[], [0], [], [0, 1, 2], [0, 1, 2, 3], [], [5], [], [5, 6, 7], [5, 6, 7, 8], [0, 1, 2, 3, 4, 5, 6, 7, 8, 9]])
         (.cond (.tmp 40) (.seq (.reg [⟨(some 4), .assign (.const (.bool false)), none⟩])
           .ret)
          .skip)))
       (.reg [⟨(some 28), .move (.tmp 5), none⟩,
          ⟨(some 29), .binOp .add 3 (.tmp 28) (.const (.int .i64 1)) 3, none⟩,
          ⟨(some 5), .assign (.tmp 29), none⟩]))))))
  (.seq (.seq (.reg [⟨(some 6), .assign (.const (.int .i64 0)), none⟩])
    (.block 2 (.loop (.seq (.seq (.reg [⟨(some 41), .move (.tmp 6), none⟩,
           ⟨(some 42), .fieldAddr 36 (.tmp 2) 1, none⟩,
           ⟨(some 43), .load 34 (.tmp 42), none⟩,
           ⟨(some 44), .call ⟨(.builtin .len), #[(.tmp 43)], #[34]⟩, none⟩,
           ⟨(some 45), .binOp .lss 3 (.tmp 41) (.tmp 44) 3, none⟩])
        (.cond (.tmp 45) .skip
         (.exit 2)))
       (.seq (.block 3 (.seq (.draw [⟨(some 48), .fieldAddr 36 (.tmp 2) 1, none⟩,
             ⟨(some 49), .load 34 (.tmp 48), none⟩,
             ⟨(some 50), .move (.tmp 6), none⟩,
             ⟨(some 51), .indexAddr 34 (.tmp 49) (.tmp 50), none⟩,
             ⟨(some 52), .fieldAddr 115 (.tmp 51) 0, none⟩,
             ⟨(some 53), .load 2 (.tmp 52), none⟩,
             ⟨(some 54), .fieldAddr 36 (.tmp 3) 1, none⟩,
             ⟨(some 55), .load 34 (.tmp 54), none⟩,
             ⟨(some 56), .move (.tmp 6), none⟩,
             ⟨(some 57), .indexAddr 34 (.tmp 55) (.tmp 56), none⟩,
             ⟨(some 58), .fieldAddr 115 (.tmp 57) 0, none⟩,
             ⟨(some 59), .load 2 (.tmp 58), none⟩,
             ⟨(some 60), .binOp .neq 2 (.tmp 53) (.tmp 59) 2, none⟩,
             ⟨(some 61), .move (.tmp 60), none⟩,
             ⟨(some 62), .fieldAddr 36 (.tmp 2) 1, (some (61, false))⟩,
             ⟨(some 63), .load 34 (.tmp 62), (some (61, false))⟩,
             ⟨(some 64), .move (.tmp 6), (some (61, false))⟩,
             ⟨(some 65), .indexAddr 34 (.tmp 63) (.tmp 64), (some (61, false))⟩,
             ⟨(some 66), .fieldAddr 115 (.tmp 65) 1, (some (61, false))⟩,
             ⟨(some 67), .load 2 (.tmp 66), (some (61, false))⟩,
             ⟨(some 68), .fieldAddr 36 (.tmp 3) 1, (some (61, false))⟩,
             ⟨(some 69), .load 34 (.tmp 68), (some (61, false))⟩,
             ⟨(some 70), .move (.tmp 6), (some (61, false))⟩,
             ⟨(some 71), .indexAddr 34 (.tmp 69) (.tmp 70), (some (61, false))⟩,
             ⟨(some 72), .fieldAddr 115 (.tmp 71) 1, (some (61, false))⟩,
             ⟨(some 73), .load 2 (.tmp 72), (some (61, false))⟩,
             ⟨(some 74), .binOp .neq 2 (.tmp 67) (.tmp 73) 2, (some (61, false))⟩,
             ⟨(some 75), .pick (.tmp 61) (.const (.bool true)) (.tmp 74), none⟩,
             ⟨(some 76), .move (.tmp 75), none⟩,
             ⟨(some 77), .fieldAddr 36 (.tmp 2) 1, (some (76, false))⟩,
             ⟨(some 78), .load 34 (.tmp 77), (some (76, false))⟩,
             ⟨(some 79), .move (.tmp 6), (some (76, false))⟩,
             ⟨(some 80), .indexAddr 34 (.tmp 78) (.tmp 79), (some (76, false))⟩,
             ⟨(some 81), .fieldAddr 115 (.tmp 80) 2, (some (76, false))⟩,
             ⟨(some 82), .load 28 (.tmp 81), (some (76, false))⟩,
             ⟨(some 83), .fieldAddr 36 (.tmp 3) 1, (some (76, false))⟩,
             ⟨(some 84), .load 34 (.tmp 83), (some (76, false))⟩,
             ⟨(some 85), .move (.tmp 6), (some (76, false))⟩,
             ⟨(some 86), .indexAddr 34 (.tmp 84) (.tmp 85), (some (76, false))⟩,
             ⟨(some 87), .fieldAddr 115 (.tmp 86) 2, (some (76, false))⟩,
             ⟨(some 88), .load 28 (.tmp 87), (some (76, false))⟩,
             ⟨(some 89), .call ⟨(.value (.func 94)), #[(.tmp 82), (.tmp 88)], #[28, 28]⟩, (some (76, false))⟩,
             ⟨(some 90), .unOp .not 4 (.tmp 89), (some (76, false))⟩,
             ⟨(some 91), .pick (.tmp 76) (.const (.bool true)) (.tmp 90), none⟩] [[], [0], [], [0, 1, 2], [0, 1, 2, 3], [0, 1, 2, 3, 4], [], [6], [], [6, 7, 8], [6, 7, 8, 9], [6, 7, 8, 9, 10], [0, 1, 2, 3, 4, 5, 6, 7, 8, 9, 10, 11], [0, 1, 2, 3, 4, 5, 6, 7, 8, 9, 10, 11, 12], [0, 1, 2, 3, 4, 5, 6, 7, 8, 9, 10, 11, 12, 13], [0, 1, 2, 3, 4, 5, 6, 7, 8, 9, 10, 11, 12, 13, 14], [0, 1, 2, 3, 4, 5, 6, 7, 8, 9, 10, 11, 12, 13], [0, 1, 2, 3, 4, 5, 6, 7, 8, 9, 10, 11, 12, 13, 14, 15, 16], [0, 1, 2, 3, 4, 5, 6, 7, 8, 9, 10, 11, 12, 13, 14, 15, 16, 17], [0, 1, 2, 3, 4, 5, 6, 7, 8, 9, 10, 11, 12, 13, 14, 15, 16, 17, 18], [0, 1, 2, 3, 4, 5, 6, 7, 8, 9, 10, 11, 12, 13], [0, 1, 2, 3, 4, 5, 6, 7, 8, 9, 10, 11, 12, 13, 20], [0, 1, 2, 3, 4, 5, 6, 7, 8, 9, 10, 11, 12, 13], [0, 1, 2, 3, 4, 5, 6, 7, 8, 9, 10, 11, 12, 13, 20, 21, 22], [0, 1, 2, 3, 4, 5, 6, 7, 8, 9, 10, 11, 12, 13, 20, 21, 22, 23], [0, 1, 2, 3, 4, 5, 6, 7, 8, 9, 10, 11, 12, 13, 20, 21, 22, 23, 24], [0, 1, 2, 3, 4, 5, 6, 7, 8, 9, 10, 11, 12, 13, 14, 15, 16, 17, 18, 19, 20, 21, 22, 23, 24, 25], [0, 1, 2, 3, 4, 5, 6, 7, 8, 9, 10, 11, 12, 13, 14, 15, 16, 17, 18, 19, 20, 21, 22, 23, 24, 25, 26], [0, 1, 2, 3, 4, 5, 6, 7, 8, 9, 10, 11, 12, 13, 14, 15, 16, 17, 18, 19, 20, 21, 22, 23, 24, 25, 26, 27], [0, 1, 2, 3, 4, 5, 6, 7, 8, 9, 10, 11, 12, 13, 14, 15, 16, 17, 18, 19, 20, 21, 22, 23, 24, 25, 26, 27, 28], [0, 1, 2, 3, 4, 5, 6, 7, 8, 9, 10, 11, 12, 13, 14, 15, 16, 17, 18, 19, 20, 21, 22, 23, 24, 25, 26, 27, 28, 29], [0, 1, 2, 3, 4, 5, 6, 7, 8, 9, 10, 11, 12, 13, 14, 15, 16, 17, 18, 19, 20, 21, 22, 23, 24, 25, 26, 27, 28], [0, 1, 2, 3, 4, 5, 6, 7, 8, 9, 10, 11, 12, 13, 14, 15, 16, 17, 18, 19, 20, 21, 22, 23, 24, 25, 26, 27, 28, 29, 30, 31], [0, 1, 2, 3, 4, 5, 6, 7, 8, 9, 10, 11, 12, 13, 14, 15, 16, 17, 18, 19, 20, 21, 22, 23, 24, 25, 26, 27, 28, 29, 30, 31, 32], [0, 1, 2, 3, 4, 5, 6, 7, 8, 9, 10, 11, 12, 13, 14, 15, 16, 17, 18, 19, 20, 21, 22, 23, 24, 25, 26, 27, 28, 29, 30, 31, 32, 33], [0, 1, 2, 3, 4, 5, 6, 7, 8, 9, 10, 11, 12, 13, 14, 15, 16, 17, 18, 19, 20, 21, 22, 23, 24, 25, 26, 27, 28], [0, 1, 2, 3, 4, 5, 6, 7, 8, 9, 10, 11, 12, 13, 14, 15, 16, 17, 18, 19, 20, 21, 22, 23, 24, 25, 26, 27, 28, 35], [0, 1, 2, 3, 4, 5, 6, 7, 8, 9, 10, 11, 12, 13, 14, 15, 16, 17, 18, 19, 20, 21, 22, 23, 24, 25, 26, 27, 28], [0, 1, 2, 3, 4, 5, 6, 7, 8, 9, 10, 11, 12, 13, 14, 15, 16, 17, 18, 19, 20, 21, 22, 23, 24, 25, 26, 27, 28, 35, 36, 37], [0, 1, 2, 3, 4, 5, 6, 7, 8, 9, 10, 11, 12, 13, 14, 15, 16, 17, 18, 19, 20, 21, 22, 23, 24, 25, 26, 27, 28, 35, 36, 37, 38], [0, 1, 2, 3, 4, 5, 6, 7, 8, 9, 10, 11, 12, 13, 14, 15, 16, 17, 18, 19, 20, 21, 22, 23, 24, 25, 26, 27, 28, 35, 36, 37, 38, 39], [0, 1, 2, 3, 4, 5, 6, 7, 8, 9, 10, 11, 12, 13, 14, 15, 16, 17, 18, 19, 20, 21, 22, 23, 24, 25, 26, 27, 28, 29, 30, 31, 32, 33, 34, 35, 36, 37, 38, 39, 40], [0, 1, 2, 3, 4, 5, 6, 7, 8, 9, 10, 11, 12, 13, 14, 15, 16, 17, 18, 19, 20, 21, 22, 23, 24, 25, 26, 27, 28, 29, 30, 31, 32, 33, 34, 35, 36, 37, 38, 39, 40, 41], [0, 1, 2, 3, 4, 5, 6, 7, 8, 9, 10, 11, 12, 13, 14, 15, 16, 17, 18, 19, 20, 21, 22, 23, 24, 25, 26, 27, 28, 29, 30, 31, 32, 33, 34, 35, 36, 37, 38, 39, 40, 41, 42]])
          (.cond (.tmp 91) (.seq (.reg [⟨(some 4), .assign (.const (.bool false)), none⟩])
            .ret)
           .skip)))
        (.reg [⟨(some 46), .move (.tmp 6), none⟩,
           ⟨(some 47), .binOp .add 3 (.tmp 46) (.const (.int .i64 1)) 3, none⟩,
           ⟨(some 6), .assign (.tmp 47), none⟩]))))))
   (.seq (.reg [⟨(some 4), .assign (.const (.bool true)), none⟩])
    .ret)))))
theorem s93 : slimF Try.f93 = some (c93, [.t 4], 92) := by kernel_rfl
theorem o93 : okF [(94, g94)] Try.f93 = true := by kernel_rfl
noncomputable def g93 : Fsem := sem2 enTree enTree (fun x0 y0 => True) (fun n x0 y0 => .bool (eqB x0 y0))
@[go_sem] theorem g93_eq {n τ τ' : Nat} {x0 : Tree} {y0 : Tree} : g93 n [.agg [.sl τ 2 (x0.devices.map (enDev.av τ)), .sl τ 3 (x0.buckets.map (enBkt.av τ))], .agg [.sl τ' 2 (y0.devices.map (enDev.av τ')), .sl τ' 3 (y0.buckets.map (enBkt.av τ'))]] = ⟨True, .bool (eqB x0 y0)⟩ := sem2_eq  (E := enTree) (F := enTree)
theorem p93 : Pure Try.prog 93 g93 := by
  refine sem2_pure fun τ τ' x0 y0 n h2 hpre => ?_
  have hT : Table Try.prog [(94, g94)] := (.cons p94 .nil)
  have hn0 : n ≠ 0 := by omega
  refine SatP.of_body hT hm Try.func93 s93 o93 h2 (by simp) ?_
  rw [eqB_Tree]
  by_cases hlen0 : x0.devices.length = y0.devices.length
  · by_cases hlen1 : x0.buckets.length = y0.buckets.length
    · rw [eqB_zip hlen0, eqB_zip hlen1]
      generalize hr : (x0.devices.zip y0.devices).all (fun p => eqB p.1 p.2) = r
      generalize hr1 : (x0.buckets.zip y0.buckets).all (fun p => eqB p.1 p.2) = r1
      simp (config := {contextual := true, maxSteps := 2000000, implicitDefEqProofs := false}) [c93, go_sem, hlen0, hlen1]
      intro hL0
      simp only [← hlen0, ← hlen1]
      refine VW_listK hT h2 hm (x0.devices.zip y0.devices) [2, 3] (fun pre post (b : Unit) => [(5, .int .i64 pre.length)]) (fun pre post (b : Unit) => (post.all fun p => eqB p.1 p.2) = r) () ?_ ?_ ?_ ?_
      · exact hr
      · simp [SubI, go_sem]
      · intro _ hR
        have hR0 : true = r := hR
        have hzl : (x0.devices.zip y0.devices).length = x0.devices.length := by rw [List.length_zip]; omega
        simp (config := {contextual := true, maxSteps := 2000000, implicitDefEqProofs := false}) [go_sem, hzl]
        intro hL2
        refine VW_listK hT h2 hm (x0.buckets.zip y0.buckets) [2, 3] (fun pre post (b : Unit) => [(6, .int .i64 pre.length)]) (fun pre post (b : Unit) => (post.all fun p => eqB p.1 p.2) = r1) () ?_ ?_ ?_ ?_
        · exact hr1
        · simp [SubI, go_sem]
        · intro _ hR
          have hR0 : true = r1 := hR
          have hzl : (x0.buckets.zip y0.buckets).length = x0.buckets.length := by rw [List.length_zip]; omega
          simp (config := {contextual := true, maxSteps := 2000000, implicitDefEqProofs := false}) [go_sem, hzl]
          grind
        · rintro pre x rest _ hl hlen hR
          obtain ⟨hn1, hn2, hle1, hle2⟩ := zip_nth (f := (enBkt.av τ)) (g := (enBkt.av τ')) hlen1 hl
          have hw : x0.buckets.length ≤ maxLen → IntKind.i64.wrap ((pre.length : Int) + 1) = (pre.length : Int) + 1 := fun h => wrap_ok (by omega) (by simp only [maxLen] at h; omega)
          have h3 : (0 : Int) ≤ pre.length := by omega
          have h4 : (pre.length : Int) < (x0.buckets.length : Int) := by omega
          have h4' : (pre.length : Int) < (y0.buckets.length : Int) := by omega
          have h5 : ¬ (x0.buckets.length : Int) ≤ (pre.length : Int) := by omega
          simp only [List.all_cons] at hR
          generalize hra : (rest.all fun p => eqB p.1 p.2) = ra at hR
          simp only [eqB_Bkt] at hR
          simp (config := {contextual := true, maxSteps := 2000000, implicitDefEqProofs := false}) [go_sem, hn1, hn2, hw, h3, h4, h4', h5, SubI, hra, eqB_Dev] <;> grind

      · rintro pre x rest _ hl hlen hR
        obtain ⟨hn1, hn2, hle1, hle2⟩ := zip_nth (f := (enDev.av τ)) (g := (enDev.av τ')) hlen0 hl
        have hw : x0.devices.length ≤ maxLen → IntKind.i64.wrap ((pre.length : Int) + 1) = (pre.length : Int) + 1 := fun h => wrap_ok (by omega) (by simp only [maxLen] at h; omega)
        have h3 : (0 : Int) ≤ pre.length := by omega
        have h4 : (pre.length : Int) < (x0.devices.length : Int) := by omega
        have h4' : (pre.length : Int) < (y0.devices.length : Int) := by omega
        have h5 : ¬ (x0.devices.length : Int) ≤ (pre.length : Int) := by omega
        simp only [List.all_cons] at hR
        generalize hra : (rest.all fun p => eqB p.1 p.2) = ra at hR
        simp only [eqB_Dev] at hR
        simp (config := {contextual := true, maxSteps := 2000000, implicitDefEqProofs := false}) [go_sem, hn1, hn2, hw, h3, h4, h4', h5, SubI, hra, eqB_Dev] <;> grind
    · rw [eqB_ne_len hlen1, Bool.and_false]
      simp (config := {contextual := true, maxSteps := 2000000, implicitDefEqProofs := false}) [c93, go_sem, hlen0, hlen1] <;> grind
  · rw [eqB_ne_len hlen0, Bool.false_and]
    simp (config := {contextual := true, maxSteps := 2000000, implicitDefEqProofs := false}) [c93, go_sem, hlen0] <;> grind
/- spec.l11Same -/
def c51 : SCode := (.seq (.reg [⟨(some 2), .box 40 (.tmp 0), none⟩,
   ⟨(some 3), .box 40 (.tmp 1), none⟩,
   ⟨(some 4), .assign (.const (.bool false)), none⟩])
(.seq (.seq (.reg [⟨(some 7), .fieldAddr 40 (.tmp 2) 0, none⟩,
     ⟨(some 8), .load 2 (.tmp 7), none⟩,
     ⟨(some 9), .fieldAddr 40 (.tmp 3) 0, none⟩,
     ⟨(some 10), .load 2 (.tmp 9), none⟩,
     ⟨(some 11), .binOp .neq 2 (.tmp 8) (.tmp 10) 2, none⟩,
     ⟨(some 12), .move (.tmp 11), none⟩,
     ⟨(some 13), .fieldAddr 40 (.tmp 2) 1, (some (12, false))⟩,
     ⟨(some 14), .load 2 (.tmp 13), (some (12, false))⟩,
     ⟨(some 15), .fieldAddr 40 (.tmp 3) 1, (some (12, false))⟩,
     ⟨(some 16), .load 2 (.tmp 15), (some (12, false))⟩,
     ⟨(some 17), .binOp .neq 2 (.tmp 14) (.tmp 16) 2, (some (12, false))⟩,
     ⟨(some 18), .pick (.tmp 12) (.const (.bool true)) (.tmp 17), none⟩,
     ⟨(some 19), .move (.tmp 18), none⟩,
     ⟨(some 20), .fieldAddr 40 (.tmp 2) 2, (some (19, false))⟩,
     ⟨(some 21), .load 36 (.tmp 20), (some (19, false))⟩,
     ⟨(some 22), .fieldAddr 40 (.tmp 3) 2, (some (19, false))⟩,
     ⟨(some 23), .load 36 (.tmp 22), (some (19, false))⟩,
     ⟨(some 24), .call ⟨(.value (.func 93)), #[(.tmp 21), (.tmp 23)], #[36, 36]⟩, (some (19, false))⟩,
     ⟨(some 25), .unOp .not 4 (.tmp 24), (some (19, false))⟩,
     ⟨(some 26), .pick (.tmp 19) (.const (.bool true)) (.tmp 25), none⟩,
     ⟨(some 27), .move (.tmp 26), none⟩,
     ⟨(some 28), .fieldAddr 40 (.tmp 2) 3, (some (27, false))⟩,
     ⟨(some 29), .load 37 (.tmp 28), (some (27, false))⟩,
     ⟨(some 30), .call ⟨(.builtin .len), #[(.tmp 29)], #[37]⟩, (some (27, false))⟩,
     ⟨(some 31), .fieldAddr 40 (.tmp 3) 3, (some (27, false))⟩,
     ⟨(some 32), .load 37 (.tmp 31), (some (27, false))⟩,
     ⟨(some 33), .call ⟨(.builtin .len), #[(.tmp 32)], #[37]⟩, (some (27, false))⟩,
     ⟨(some 34), .binOp .neq 3 (.tmp 30) (.tmp 33) 3, (some (27, false))⟩,
     ⟨(some 35), .pick (.tmp 27) (.const (.bool true)) (.tmp 34), none⟩,
     ⟨(some 36), .move (.tmp 35), none⟩,
     ⟨(some 37), .fieldAddr 40 (.tmp 2) 4, (some (36, false))⟩,
     ⟨(some 38), .load 38 (.tmp 37), (some (36, false))⟩,
     ⟨(some 39), .call ⟨(.builtin .len), #[(.tmp 38)], #[38]⟩, (some (36, false))⟩,
     ⟨(some 40), .fieldAddr 40 (.tmp 3) 4, (some (36, false))⟩,
     ⟨(some 41), .load 38 (.tmp 40), (some (36, false))⟩,
     ⟨(some 42), .call ⟨(.builtin .len), #[(.tmp 41)], #[38]⟩, (some (36, false))⟩,
     ⟨(some 43), .binOp .neq 3 (.tmp 39) (.tmp 42) 3, (some (36, false))⟩,
     ⟨(some 44), .pick (.tmp 36) (.const (.bool true)) (.tmp 43), none⟩])
  (.cond (.tmp 44) (.seq (.reg [⟨(some 4), .assign (.const (.bool false)), none⟩])
    .ret)
   .skip))
 (.seq (.seq (.reg [⟨(some 5), .assign (.const (.int .i64 0)), none⟩])
   (.block 0 (.loop (.seq (.seq (.reg [⟨(some 45), .move (.tmp 5), none⟩,
          ⟨(some 46), .fieldAddr 40 (.tmp 2) 3, none⟩,
          ⟨(some 47), .load 37 (.tmp 46), none⟩,
          ⟨(some 48), .call ⟨(.builtin .len), #[(.tmp 47)], #[37]⟩, none⟩,
          ⟨(some 49), .binOp .lss 3 (.tmp 45) (.tmp 48) 3, none⟩])
       (.cond (.tmp 49) .skip
        (.exit 0)))
      (.seq (.block 1 (.seq (.draw [⟨(some 52), .fieldAddr 40 (.tmp 2) 3, none⟩,
            ⟨(some 53), .load 37 (.tmp 52), none⟩,
            ⟨(some 54), .move (.tmp 5), none⟩,
            ⟨(some 55), .indexAddr 37 (.tmp 53) (.tmp 54), none⟩,
            ⟨(some 56), .load 87 (.tmp 55), none⟩,
            ⟨(some 57), .fieldAddr 40 (.tmp 3) 3, none⟩,
            ⟨(some 58), .load 37 (.tmp 57), none⟩,
            ⟨(some 59), .move (.tmp 5), none⟩,
            ⟨(some 60), .indexAddr 37 (.tmp 58) (.tmp 59), none⟩,
            ⟨(some 61), .load 87 (.tmp 60), none⟩,
            ⟨(some 62), .binOp .neq 87 (.tmp 56) (.tmp 61) 87, none⟩] [[], [0], [], [0, 1, 2], [0, 1, 2, 3], [], [5], [], [5, 6, 7], [5, 6, 7, 8], [0, 1, 2, 3, 4, 5, 6, 7, 8, 9]])
         (.cond (.tmp 62) (.seq (.reg [⟨(some 4), .assign (.const (.bool false)), none⟩])
           .ret)
          .skip)))
       (.reg [⟨(some 50), .move (.tmp 5), none⟩,
          ⟨(some 51), .binOp .add 3 (.tmp 50) (.const (.int .i64 1)) 3, none⟩,
          ⟨(some 5), .assign (.tmp 51), none⟩]))))))
  (.seq (.seq (.reg [⟨(some 6), .assign (.const (.int .i64 0)), none⟩])
    (.block 2 (.loop (.seq (.seq (.reg [⟨(some 63), .move (.tmp 6), none⟩,
           ⟨(some 64), .fieldAddr 40 (.tmp 2) 4, none⟩,
           ⟨(some 65), .load 38 (.tmp 64), none⟩,
           ⟨(some 66), .call ⟨(.builtin .len), #[(.tmp 65)], #[38]⟩, none⟩,
           ⟨(some 67), .binOp .lss 3 (.tmp 63) (.tmp 66) 3, none⟩])
        (.cond (.tmp 67) .skip
         (.exit 2)))
       (.seq (.block 3 (.seq (.draw [⟨(some 70), .fieldAddr 40 (.tmp 2) 4, none⟩,
             ⟨(some 71), .load 38 (.tmp 70), none⟩,
             ⟨(some 72), .move (.tmp 6), none⟩,
             ⟨(some 73), .indexAddr 38 (.tmp 71) (.tmp 72), none⟩,
             ⟨(some 74), .load 47 (.tmp 73), none⟩,
             ⟨(some 75), .fieldAddr 40 (.tmp 3) 4, none⟩,
             ⟨(some 76), .load 38 (.tmp 75), none⟩,
             ⟨(some 77), .move (.tmp 6), none⟩,
             ⟨(some 78), .indexAddr 38 (.tmp 76) (.tmp 77), none⟩,
             ⟨(some 79), .load 47 (.tmp 78), none⟩,
             ⟨(some 80), .binOp .neq 47 (.tmp 74) (.tmp 79) 47, none⟩] [[], [0], [], [0, 1, 2], [0, 1, 2, 3], [], [5], [], [5, 6, 7], [5, 6, 7, 8], [0, 1, 2, 3, 4, 5, 6, 7, 8, 9]])
          (.cond (.tmp 80) (.seq (.reg [⟨(some 4), .assign (.const (.bool false)), none⟩])
            .ret)
           .skip)))
        (.reg [⟨(some 68), .move (.tmp 6), none⟩,
           ⟨(some 69), .binOp .add 3 (.tmp 68) (.const (.int .i64 1)) 3, none⟩,
           ⟨(some 6), .assign (.tmp 69), none⟩]))))))
   (.seq (.reg [⟨(some 81), .fieldAddr 40 (.tmp 2) 5, none⟩,
       ⟨(some 82), .load 28 (.tmp 81), none⟩,
       ⟨(some 83), .fieldAddr 40 (.tmp 3) 5, none⟩,
       ⟨(some 84), .load 28 (.tmp 83), none⟩,
       ⟨(some 85), .call ⟨(.value (.func 94)), #[(.tmp 82), (.tmp 84)], #[28, 28]⟩, none⟩,
       ⟨(some 86), .move (.tmp 85), none⟩,
       ⟨(some 87), .fieldAddr 40 (.tmp 2) 6, (some (86, true))⟩,
       ⟨(some 88), .load 28 (.tmp 87), (some (86, true))⟩,
       ⟨(some 89), .fieldAddr 40 (.tmp 3) 6, (some (86, true))⟩,
       ⟨(some 90), .load 28 (.tmp 89), (some (86, true))⟩,
       ⟨(some 91), .call ⟨(.value (.func 94)), #[(.tmp 88), (.tmp 90)], #[28, 28]⟩, (some (86, true))⟩,
       ⟨(some 92), .pick (.tmp 86) (.tmp 91) (.const (.bool false)), none⟩,
       ⟨(some 4), .assign (.tmp 92), none⟩])
    .ret)))))
theorem s51 : slimF Try.f51 = some (c51, [.t 4], 93) := by kernel_rfl
theorem o51 : okF [(93, g93), (94, g94)] Try.f51 = true := by kernel_rfl
noncomputable def g51 : Fsem := sem2 enMp enMp (fun x0 y0 => True) (fun n x0 y0 => .bool (eqB x0 y0))
@[go_sem] theorem g51_eq {n τ τ' : Nat} {x0 : Mp} {y0 : Mp} : g51 n [.agg [.int .i64 x0.epoch, .int .i64 x0.term, .sl τ 2 (x0.tree.devices.map (enDev.av τ)), .sl τ 3 (x0.tree.buckets.map (enBkt.av τ)), .sl τ 4 (x0.rules.map (enRule.av τ)), .sl τ 6 (x0.pools.map (enPool.av τ)), .sl τ 1 (x0.up.map (AV.int .i64)), .sl τ 1 (x0.out.map (AV.int .i64))], .agg [.int .i64 y0.epoch, .int .i64 y0.term, .sl τ' 2 (y0.tree.devices.map (enDev.av τ')), .sl τ' 3 (y0.tree.buckets.map (enBkt.av τ')), .sl τ' 4 (y0.rules.map (enRule.av τ')), .sl τ' 6 (y0.pools.map (enPool.av τ')), .sl τ' 1 (y0.up.map (AV.int .i64)), .sl τ' 1 (y0.out.map (AV.int .i64))]] = ⟨True, .bool (eqB x0 y0)⟩ := sem2_eq  (E := enMp) (F := enMp)
theorem p51 : Pure Try.prog 51 g51 := by
  refine sem2_pure fun τ τ' x0 y0 n h2 hpre => ?_
  have hT : Table Try.prog [(93, g93), (94, g94)] := (.cons p93 (.cons p94 .nil))
  have hn0 : n ≠ 0 := by omega
  refine SatP.of_body hT hm Try.func51 s51 o51 h2 (by simp) ?_
  rw [eqB_Mp]
  by_cases hlen0 : x0.rules.length = y0.rules.length
  · by_cases hlen1 : x0.pools.length = y0.pools.length
    · rw [eqB_zip hlen0, eqB_zip hlen1]
      generalize hr : (x0.rules.zip y0.rules).all (fun p => eqB p.1 p.2) = r
      generalize hr1 : (x0.pools.zip y0.pools).all (fun p => eqB p.1 p.2) = r1
      simp (config := {contextual := true, maxSteps := 2000000, implicitDefEqProofs := false}) [c51, go_sem, hlen0, hlen1]
      simp only [← hlen0, ← hlen1]
      refine ⟨fun h => by grind, ?_⟩
      intro hq1 hq2 hq3
      refine VW_listK hT h2 hm (x0.rules.zip y0.rules) [2, 3] (fun pre post (b : Unit) => [(5, .int .i64 pre.length)]) (fun pre post (b : Unit) => (post.all fun p => eqB p.1 p.2) = r) () ?_ ?_ ?_ ?_
      · exact hr
      · simp [SubI, go_sem]
      · intro _ hR
        have hR0 : true = r := hR
        have hzl : (x0.rules.zip y0.rules).length = x0.rules.length := by rw [List.length_zip]; omega
        simp (config := {contextual := true, maxSteps := 2000000, implicitDefEqProofs := false}) [go_sem, hzl]
        intro hL2
        refine VW_listK hT h2 hm (x0.pools.zip y0.pools) [2, 3] (fun pre post (b : Unit) => [(6, .int .i64 pre.length)]) (fun pre post (b : Unit) => (post.all fun p => eqB p.1 p.2) = r1) () ?_ ?_ ?_ ?_
        · exact hr1
        · simp [SubI, go_sem]
        · intro _ hR
          have hR0 : true = r1 := hR
          have hzl : (x0.pools.zip y0.pools).length = x0.pools.length := by rw [List.length_zip]; omega
          simp (config := {contextual := true, maxSteps := 2000000, implicitDefEqProofs := false}) [go_sem, hzl]
          grind
        · rintro pre x rest _ hl hlen hR
          obtain ⟨hn1, hn2, hle1, hle2⟩ := zip_nth (f := (enPool.av τ)) (g := (enPool.av τ')) hlen1 hl
          have hw : x0.pools.length ≤ maxLen → IntKind.i64.wrap ((pre.length : Int) + 1) = (pre.length : Int) + 1 := fun h => wrap_ok (by omega) (by simp only [maxLen] at h; omega)
          have h3 : (0 : Int) ≤ pre.length := by omega
          have h4 : (pre.length : Int) < (x0.pools.length : Int) := by omega
          have h4' : (pre.length : Int) < (y0.pools.length : Int) := by omega
          have h5 : ¬ (x0.pools.length : Int) ≤ (pre.length : Int) := by omega
          simp only [List.all_cons] at hR
          generalize hra : (rest.all fun p => eqB p.1 p.2) = ra at hR
          simp only [eqB_Pool] at hR
          simp (config := {contextual := true, maxSteps := 2000000, implicitDefEqProofs := false}) [go_sem, hn1, hn2, hw, h3, h4, h4', h5, SubI, hra, eqB_Dev] <;> grind

      · rintro pre x rest _ hl hlen hR
        obtain ⟨hn1, hn2, hle1, hle2⟩ := zip_nth (f := (enRule.av τ)) (g := (enRule.av τ')) hlen0 hl
        have hw : x0.rules.length ≤ maxLen → IntKind.i64.wrap ((pre.length : Int) + 1) = (pre.length : Int) + 1 := fun h => wrap_ok (by omega) (by simp only [maxLen] at h; omega)
        have h3 : (0 : Int) ≤ pre.length := by omega
        have h4 : (pre.length : Int) < (x0.rules.length : Int) := by omega
        have h4' : (pre.length : Int) < (y0.rules.length : Int) := by omega
        have h5 : ¬ (x0.rules.length : Int) ≤ (pre.length : Int) := by omega
        simp only [List.all_cons] at hR
        generalize hra : (rest.all fun p => eqB p.1 p.2) = ra at hR
        simp only [eqB_Rule] at hR
        simp (config := {contextual := true, maxSteps := 2000000, implicitDefEqProofs := false}) [go_sem, hn1, hn2, hw, h3, h4, h4', h5, SubI, hra, eqB_Dev] <;> grind
    · rw [eqB_ne_len hlen1]
      simp (config := {contextual := true, maxSteps := 2000000, implicitDefEqProofs := false}) [c51, go_sem, hlen0, hlen1] <;> grind
  · rw [eqB_ne_len hlen0]
    simp (config := {contextual := true, maxSteps := 2000000, implicitDefEqProofs := false}) [c51, go_sem, hlen0] <;> grind
/- spec.SameMap -/
def c16 : SCode := (.seq (.reg [⟨(some 2), .box 40 (.tmp 0), none⟩,
   ⟨(some 3), .box 40 (.tmp 1), none⟩,
   ⟨(some 4), .assign (.const (.bool false)), none⟩])
(.seq (.reg [⟨(some 5), .load 40 (.tmp 2), none⟩,
    ⟨(some 6), .load 40 (.tmp 3), none⟩,
    ⟨(some 7), .call ⟨(.value (.func 51)), #[(.tmp 5), (.tmp 6)], #[40, 40]⟩, none⟩,
    ⟨(some 4), .assign (.tmp 7), none⟩])
 .ret))
theorem s16 : slimF Try.f16 = some (c16, [.t 4], 8) := by kernel_rfl
theorem o16 : okF [(51, g51)] Try.f16 = true := by kernel_rfl
noncomputable def g16 : Fsem := sem2 enMp enMp (fun x y => True) (fun n x y => .bool (eqB x y))
@[go_sem] theorem g16_eq {n τ τ' : Nat} {x : Mp} {y : Mp} : g16 n [.agg [.int .i64 x.epoch, .int .i64 x.term, .sl τ 2 (x.tree.devices.map (enDev.av τ)), .sl τ 3 (x.tree.buckets.map (enBkt.av τ)), .sl τ 4 (x.rules.map (enRule.av τ)), .sl τ 6 (x.pools.map (enPool.av τ)), .sl τ 1 (x.up.map (AV.int .i64)), .sl τ 1 (x.out.map (AV.int .i64))], .agg [.int .i64 y.epoch, .int .i64 y.term, .sl τ' 2 (y.tree.devices.map (enDev.av τ')), .sl τ' 3 (y.tree.buckets.map (enBkt.av τ')), .sl τ' 4 (y.rules.map (enRule.av τ')), .sl τ' 6 (y.pools.map (enPool.av τ')), .sl τ' 1 (y.up.map (AV.int .i64)), .sl τ' 1 (y.out.map (AV.int .i64))]] = ⟨True, .bool (eqB x y)⟩ := sem2_eq  (E := enMp) (F := enMp)
theorem p16 : Pure Try.prog 16 g16 := by
  refine sem2_pure fun τ τ' x y n h2 hpre => ?_
  have hT : Table Try.prog [(51, g51)] := (.cons p51 .nil)
  have hn0 : n ≠ 0 := by omega
  refine SatP.of_body hT hm Try.func16 s16 o16 h2 (by simp) ?_
  simp (config := {contextual := true, maxSteps := 2000000, implicitDefEqProofs := false}) [c16, go_sem]
end Go.Ve
