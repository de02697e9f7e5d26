/- Contracts: what is decided. No condition. -/
import Derived.Test.YtmpakjgbbjkacaaV6
namespace Go.Ve
open Go.Proofs Go.RowKit
set_option linter.unusedVariables false
set_option linter.unusedSimpArgs false
set_option maxRecDepth 10000
set_option maxHeartbeats 4000000
/- impl.Decided -/
def c32 : SCode := (.seq (.reg [⟨(some 1), .box 56 (.tmp 0), none⟩,
   ⟨(some 2), .alloc 51, none⟩,
   ⟨(some 3), .assign (.const (.bool false)), none⟩])
(.seq (.seq (.reg [⟨(some 4), .load 56 (.tmp 1), none⟩,
     ⟨(some 5), .call ⟨(.value (.func 30)), #[(.tmp 4)], #[56]⟩, none⟩,
     ⟨(some 6), .unOp .not 4 (.tmp 5), none⟩,
     ⟨(some 7), .move (.tmp 6), none⟩,
     ⟨(some 8), .fieldAddr 56 (.tmp 1) 3, (some (7, false))⟩,
     ⟨(some 9), .fieldAddr 54 (.tmp 8) 6, (some (7, false))⟩,
     ⟨(some 10), .load 4 (.tmp 9), (some (7, false))⟩,
     ⟨(some 11), .unOp .not 4 (.tmp 10), (some (7, false))⟩,
     ⟨(some 12), .pick (.tmp 7) (.const (.bool true)) (.tmp 11), none⟩])
  (.cond (.tmp 12) (.seq (.reg [⟨(some 13), .build 51 #[], none⟩,
       ⟨none, .store 51 (.tmp 2) (.tmp 13), none⟩,
       ⟨(some 3), .assign (.const (.bool false)), none⟩])
    .ret)
   .skip))
 (.seq (.reg [⟨(some 14), .fieldAddr 56 (.tmp 1) 3, none⟩,
     ⟨(some 15), .fieldAddr 54 (.tmp 14) 2, none⟩,
     ⟨(some 16), .load 51 (.tmp 15), none⟩,
     ⟨none, .store 51 (.tmp 2) (.tmp 16), none⟩,
     ⟨(some 3), .assign (.const (.bool true)), none⟩])
  .ret)))
theorem s32 : slimF Try.f32 = some (c32, [.c 2 51, .t 3], 17) := by kernel_rfl
theorem o32 : okF [(30, g30)] Try.f32 = true := by kernel_rfl
noncomputable def g32 : Fsem := sem1 enMon (fun m => True) (fun n m => .tup [.agg [.int .i64 ((bif monOk m && m.try_.decided then m.try_.inc else zI).epoch), .int .i64 ((bif monOk m && m.try_.decided then m.try_.inc else zI).kind), .int .i64 ((bif monOk m && m.try_.decided then m.try_.inc else zI).a), .int .i64 ((bif monOk m && m.try_.decided then m.try_.inc else zI).b)], .bool (monOk m && m.try_.decided)])
@[go_sem] theorem g32_eq {n τ : Nat} {m : Mon} : g32 n [.agg [.int .i64 m.id, .int .i64 m.many, .sl τ 9 (m.slots.map (enSlot.av τ)), .int .i64 m.try_.epoch, .int .i64 m.try_.ballot.no, .int .i64 m.try_.ballot.by_, .int .i64 m.try_.inc.epoch, .int .i64 m.try_.inc.kind, .int .i64 m.try_.inc.a, .int .i64 m.try_.inc.b, .int .i64 m.try_.highest.no, .int .i64 m.try_.highest.by_, .sl τ 1 (m.try_.promises.map (AV.int .i64)), .sl τ 1 (m.try_.accepts.map (AV.int .i64)), .bool m.try_.decided]] = ⟨True, .tup [.agg [.int .i64 ((bif monOk m && m.try_.decided then m.try_.inc else zI).epoch), .int .i64 ((bif monOk m && m.try_.decided then m.try_.inc else zI).kind), .int .i64 ((bif monOk m && m.try_.decided then m.try_.inc else zI).a), .int .i64 ((bif monOk m && m.try_.decided then m.try_.inc else zI).b)], .bool (monOk m && m.try_.decided)]⟩ := sem1_eq  (E := enMon)
theorem p32 : Pure Try.prog 32 g32 := by
  refine sem1_pure fun τ m n h2 hpre => ?_
  have hT : Table Try.prog [(30, g30)] := (.cons p30 .nil)
  have hn0 : n ≠ 0 := by omega
  refine SatP.of_body hT hm Try.func32 s32 o32 h2 (by simp) ?_
  cases h1 : monOk m
  · simp (config := {contextual := true, maxSteps := 2000000, implicitDefEqProofs := false}) [c32, go_sem, h1, zI]
  · simp (config := {contextual := true, maxSteps := 2000000, implicitDefEqProofs := false}) [c32, go_sem, h1, zI]
/- spec.Decided -/
def c31 : SCode := (.seq (.reg [⟨(some 1), .box 56 (.tmp 0), none⟩,
   ⟨(some 2), .alloc 51, none⟩,
   ⟨(some 3), .assign (.const (.bool false)), none⟩])
(.seq (.seq (.reg [⟨(some 4), .load 56 (.tmp 1), none⟩,
     ⟨(some 5), .call ⟨(.value (.func 28)), #[(.tmp 4)], #[56]⟩, none⟩,
     ⟨(some 6), .unOp .not 4 (.tmp 5), none⟩,
     ⟨(some 7), .move (.tmp 6), none⟩,
     ⟨(some 8), .fieldAddr 56 (.tmp 1) 3, (some (7, false))⟩,
     ⟨(some 9), .fieldAddr 54 (.tmp 8) 6, (some (7, false))⟩,
     ⟨(some 10), .load 4 (.tmp 9), (some (7, false))⟩,
     ⟨(some 11), .unOp .not 4 (.tmp 10), (some (7, false))⟩,
     ⟨(some 12), .pick (.tmp 7) (.const (.bool true)) (.tmp 11), none⟩])
  (.cond (.tmp 12) (.seq (.reg [⟨(some 13), .build 51 #[], none⟩,
       ⟨none, .store 51 (.tmp 2) (.tmp 13), none⟩,
       ⟨(some 3), .assign (.const (.bool false)), none⟩])
    .ret)
   .skip))
 (.seq (.reg [⟨(some 14), .fieldAddr 56 (.tmp 1) 3, none⟩,
     ⟨(some 15), .fieldAddr 54 (.tmp 14) 2, none⟩,
     ⟨(some 16), .load 51 (.tmp 15), none⟩,
     ⟨none, .store 51 (.tmp 2) (.tmp 16), none⟩,
     ⟨(some 3), .assign (.const (.bool true)), none⟩])
  .ret)))
theorem s31 : slimF Try.f31 = some (c31, [.c 2 51, .t 3], 17) := by kernel_rfl
theorem o31 : okF [(28, g28)] Try.f31 = true := by kernel_rfl
noncomputable def g31 : Fsem := sem1 enMon (fun m => True) (fun n m => .tup [.agg [.int .i64 ((bif monOk m && m.try_.decided then m.try_.inc else zI).epoch), .int .i64 ((bif monOk m && m.try_.decided then m.try_.inc else zI).kind), .int .i64 ((bif monOk m && m.try_.decided then m.try_.inc else zI).a), .int .i64 ((bif monOk m && m.try_.decided then m.try_.inc else zI).b)], .bool (monOk m && m.try_.decided)])
@[go_sem] theorem g31_eq {n τ : Nat} {m : Mon} : g31 n [.agg [.int .i64 m.id, .int .i64 m.many, .sl τ 9 (m.slots.map (enSlot.av τ)), .int .i64 m.try_.epoch, .int .i64 m.try_.ballot.no, .int .i64 m.try_.ballot.by_, .int .i64 m.try_.inc.epoch, .int .i64 m.try_.inc.kind, .int .i64 m.try_.inc.a, .int .i64 m.try_.inc.b, .int .i64 m.try_.highest.no, .int .i64 m.try_.highest.by_, .sl τ 1 (m.try_.promises.map (AV.int .i64)), .sl τ 1 (m.try_.accepts.map (AV.int .i64)), .bool m.try_.decided]] = ⟨True, .tup [.agg [.int .i64 ((bif monOk m && m.try_.decided then m.try_.inc else zI).epoch), .int .i64 ((bif monOk m && m.try_.decided then m.try_.inc else zI).kind), .int .i64 ((bif monOk m && m.try_.decided then m.try_.inc else zI).a), .int .i64 ((bif monOk m && m.try_.decided then m.try_.inc else zI).b)], .bool (monOk m && m.try_.decided)]⟩ := sem1_eq  (E := enMon)
theorem p31 : Pure Try.prog 31 g31 := by
  refine sem1_pure fun τ m n h2 hpre => ?_
  have hT : Table Try.prog [(28, g28)] := (.cons p28 .nil)
  have hn0 : n ≠ 0 := by omega
  refine SatP.of_body hT hm Try.func31 s31 o31 h2 (by simp) ?_
  cases h1 : monOk m
  · simp (config := {contextual := true, maxSteps := 2000000, implicitDefEqProofs := false}) [c31, go_sem, h1, zI]
  · simp (config := {contextual := true, maxSteps := 2000000, implicitDefEqProofs := false}) [c31, go_sem, h1, zI]
end Go.Ve
