/- The laws. No condition. -/
import Derived.Test.YtmpakjgbbjkacaaV6b
namespace Go.Ve
open Go.Proofs Go.RowKit
set_option linter.unusedVariables false
set_option linter.unusedSimpArgs false
set_option maxRecDepth 10000
set_option maxHeartbeats 4000000
/- laws.FnExactMonOk -/
def c7 : SCode := (.seq (.reg [⟨(some 1), .box 68 (.tmp 0), none⟩,
   ⟨(some 2), .assign (.const (.bool false)), none⟩])
(.seq (.reg [⟨(some 3), .assign (.const (.int .i64 1048576)), none⟩])
 (.seq (.reg [⟨(some 7), .load 68 (.tmp 1), none⟩,
     ⟨(some 8), .move (.tmp 3), none⟩,
     ⟨(some 9), .call ⟨(.value (.func 27)), #[(.tmp 7), (.tmp 8)], #[68, 3]⟩, none⟩,
     ⟨(some 3), .assign (.tmp 9), none⟩])
  (.seq (.seq (.reg [⟨(some 10), .move (.tmp 3), none⟩,
       ⟨(some 11), .binOp .lss 3 (.tmp 10) (.const (.int .i64 0)) 3, none⟩])
    (.cond (.tmp 11) (.seq (.reg [⟨(some 2), .assign (.const (.bool true)), none⟩])
      .ret)
     .skip))
   (.seq (.reg [⟨(some 12), .load 68 (.tmp 1), none⟩,
       ⟨(some 13), .call ⟨(.value (.func 29)), #[(.tmp 12)], #[68]⟩, none⟩,
       ⟨(some 14), .call ⟨(.value (.func 28)), #[(.tmp 13)], #[56]⟩, none⟩,
       ⟨(some 4), .assign (.tmp 14), none⟩])
    (.seq (.reg [⟨(some 15), .load 68 (.tmp 1), none⟩,
        ⟨(some 16), .call ⟨(.value (.func 29)), #[(.tmp 15)], #[68]⟩, none⟩,
        ⟨(some 5), .alloc 56, none⟩,
        ⟨none, .store 56 (.tmp 5) (.tmp 16), none⟩])
     (.seq (.reg [⟨(some 17), .load 56 (.tmp 5), none⟩,
         ⟨(some 18), .call ⟨(.value (.func 30)), #[(.tmp 17)], #[56]⟩, none⟩,
         ⟨(some 6), .assign (.tmp 18), none⟩])
      (.seq (.seq (.reg [⟨(some 19), .move (.tmp 6), none⟩,
           ⟨(some 20), .move (.tmp 4), none⟩,
           ⟨(some 21), .binOp .neq 4 (.tmp 19) (.tmp 20) 4, none⟩])
        (.cond (.tmp 21) (.seq (.reg [⟨(some 2), .assign (.const (.bool false)), none⟩])
          .ret)
         .skip))
       (.seq (.seq (.draw [⟨(some 22), .load 56 (.tmp 5), none⟩,
            ⟨(some 23), .load 68 (.tmp 1), none⟩,
            ⟨(some 24), .call ⟨(.value (.func 29)), #[(.tmp 23)], #[68]⟩, none⟩,
            ⟨(some 25), .call ⟨(.value (.func 24)), #[(.tmp 22), (.tmp 24)], #[56, 56]⟩, none⟩,
            ⟨(some 26), .unOp .not 4 (.tmp 25), none⟩] [[], [], [1], [0, 1, 2], [0, 1, 2, 3]])
         (.cond (.tmp 26) (.seq (.reg [⟨(some 2), .assign (.const (.bool false)), none⟩])
           .ret)
          .skip))
        (.seq (.reg [⟨(some 2), .assign (.const (.bool true)), none⟩])
         .ret))))))))))
theorem s7 : slimF Try.f7 = some (c7, [.t 2], 27) := by kernel_rfl
theorem o7 : okF [(27, g27), (29, g29), (28, g28), (30, g30), (24, g24)] Try.f7 = true := by kernel_rfl
noncomputable def g7 : Fsem := sem1 enMon (fun m => True) (fun n m => .bool true)
@[go_sem] theorem g7_eq {n τ : Nat} {m : Mon} : g7 n [.agg [.int .i64 m.id, .int .i64 m.many, .sl τ 9 (m.slots.map (enSlot.av τ)), .int .i64 m.try_.epoch, .int .i64 m.try_.ballot.no, .int .i64 m.try_.ballot.by_, .int .i64 m.try_.inc.epoch, .int .i64 m.try_.inc.kind, .int .i64 m.try_.inc.a, .int .i64 m.try_.inc.b, .int .i64 m.try_.highest.no, .int .i64 m.try_.highest.by_, .sl τ 1 (m.try_.promises.map (AV.int .i64)), .sl τ 1 (m.try_.accepts.map (AV.int .i64)), .bool m.try_.decided]] = ⟨True, .bool true⟩ := sem1_eq  (E := enMon)
theorem p7 : Pure Try.prog 7 g7 := by
  refine sem1_pure fun τ m n h2 hpre => ?_
  have hT : Table Try.prog [(27, g27), (29, g29), (28, g28), (30, g30), (24, g24)] := (.cons p27 (.cons p29 (.cons p28 (.cons p30 (.cons p24 .nil)))))
  have hn0 : n ≠ 0 := by omega
  refine SatP.of_body hT hm Try.func7 s7 o7 h2 (by simp) ?_
  have hself : ∀ {α : Type} (x : α), eqB x x = true := fun x => eqB_iff.2 rfl
  generalize htt : (m.slots.length + (m.try_.promises.length + m.try_.accepts.length)) = tt
  rcases szR_spec 1048576 tt with ⟨h1, h3⟩ | ⟨h1, h3⟩
  · have h4 : (0 : Int) ≤ 1048576 - (tt : Nat) := by omega
    have h5 : tt ≤ 1048576 := by omega
    have h6 : ¬ (1048576 - ((tt : Nat) : Int)) < 0 := by omega
    simp (config := {contextual := true, maxSteps := 2000000, implicitDefEqProofs := false}) [c7, go_sem, bigB, htt, h3, h4, h5, h6, hn0, hself] <;> grind
  · simp (config := {contextual := true, maxSteps := 2000000, implicitDefEqProofs := false}) [c7, go_sem, bigB, htt, h3]
theorem sat_FnExactMonOk (x0 : Mon) (_ : okMon x0) : SatM Try.prog 2 7 [] [enMon.av 1 x0] [] (.bool true) := by
  have h := p7 2 [enMon.av 1 x0] (by omega)
  have he : g7 2 [enMon.av 1 x0] = ⟨True, .bool true⟩ := g7_eq
  rw [he] at h
  exact h trivial
/- laws.FnExactDecided -/
def c8 : SCode := (.seq (.reg [⟨(some 1), .box 68 (.tmp 0), none⟩,
   ⟨(some 2), .assign (.const (.bool false)), none⟩])
(.seq (.reg [⟨(some 3), .assign (.const (.int .i64 1048576)), none⟩])
 (.seq (.reg [⟨(some 9), .load 68 (.tmp 1), none⟩,
     ⟨(some 10), .move (.tmp 3), none⟩,
     ⟨(some 11), .call ⟨(.value (.func 27)), #[(.tmp 9), (.tmp 10)], #[68, 3]⟩, none⟩,
     ⟨(some 3), .assign (.tmp 11), none⟩])
  (.seq (.seq (.reg [⟨(some 12), .move (.tmp 3), none⟩,
       ⟨(some 13), .binOp .lss 3 (.tmp 12) (.const (.int .i64 0)) 3, none⟩])
    (.cond (.tmp 13) (.seq (.reg [⟨(some 2), .assign (.const (.bool true)), none⟩])
      .ret)
     .skip))
   (.seq (.reg [⟨(some 15), .load 68 (.tmp 1), none⟩,
       ⟨(some 16), .call ⟨(.value (.func 29)), #[(.tmp 15)], #[68]⟩, none⟩,
       ⟨(some 17), .call ⟨(.value (.func 31)), #[(.tmp 16)], #[56]⟩, none⟩,
       ⟨(some 14), .move (.tmp 17), none⟩,
       ⟨(some 18), .extract (.tmp 14) 0, none⟩,
       ⟨(some 19), .extract (.tmp 14) 1, none⟩,
       ⟨(some 4), .alloc 51, none⟩,
       ⟨none, .store 51 (.tmp 4) (.tmp 18), none⟩,
       ⟨(some 5), .assign (.tmp 19), none⟩])
    (.seq (.reg [⟨(some 20), .load 68 (.tmp 1), none⟩,
        ⟨(some 21), .call ⟨(.value (.func 29)), #[(.tmp 20)], #[68]⟩, none⟩,
        ⟨(some 6), .alloc 56, none⟩,
        ⟨none, .store 56 (.tmp 6) (.tmp 21), none⟩])
     (.seq (.reg [⟨(some 23), .load 56 (.tmp 6), none⟩,
         ⟨(some 24), .call ⟨(.value (.func 32)), #[(.tmp 23)], #[56]⟩, none⟩,
         ⟨(some 22), .move (.tmp 24), none⟩,
         ⟨(some 25), .extract (.tmp 22) 0, none⟩,
         ⟨(some 26), .extract (.tmp 22) 1, none⟩,
         ⟨(some 7), .alloc 51, none⟩,
         ⟨none, .store 51 (.tmp 7) (.tmp 25), none⟩,
         ⟨(some 8), .assign (.tmp 26), none⟩])
      (.seq (.seq (.reg [⟨(some 27), .load 51 (.tmp 7), none⟩,
           ⟨(some 28), .load 51 (.tmp 4), none⟩,
           ⟨(some 29), .call ⟨(.value (.func 33)), #[(.tmp 27), (.tmp 28)], #[51, 51]⟩, none⟩,
           ⟨(some 30), .unOp .not 4 (.tmp 29), none⟩,
           ⟨(some 31), .move (.tmp 30), none⟩,
           ⟨(some 32), .move (.tmp 8), (some (31, false))⟩,
           ⟨(some 33), .move (.tmp 5), (some (31, false))⟩,
           ⟨(some 34), .binOp .neq 4 (.tmp 32) (.tmp 33) 4, (some (31, false))⟩,
           ⟨(some 35), .pick (.tmp 31) (.const (.bool true)) (.tmp 34), none⟩])
        (.cond (.tmp 35) (.seq (.reg [⟨(some 2), .assign (.const (.bool false)), none⟩])
          .ret)
         .skip))
       (.seq (.seq (.draw [⟨(some 36), .load 56 (.tmp 6), none⟩,
            ⟨(some 37), .load 68 (.tmp 1), none⟩,
            ⟨(some 38), .call ⟨(.value (.func 29)), #[(.tmp 37)], #[68]⟩, none⟩,
            ⟨(some 39), .call ⟨(.value (.func 24)), #[(.tmp 36), (.tmp 38)], #[56, 56]⟩, none⟩,
            ⟨(some 40), .unOp .not 4 (.tmp 39), none⟩] [[], [], [1], [0, 1, 2], [0, 1, 2, 3]])
         (.cond (.tmp 40) (.seq (.reg [⟨(some 2), .assign (.const (.bool false)), none⟩])
           .ret)
          .skip))
        (.seq (.reg [⟨(some 2), .assign (.const (.bool true)), none⟩])
         .ret))))))))))
theorem s8 : slimF Try.f8 = some (c8, [.t 2], 41) := by kernel_rfl
theorem o8 : okF [(27, g27), (29, g29), (31, g31), (32, g32), (33, g33), (24, g24)] Try.f8 = true := by kernel_rfl
noncomputable def g8 : Fsem := sem1 enMon (fun m => True) (fun n m => .bool true)
@[go_sem] theorem g8_eq {n τ : Nat} {m : Mon} : g8 n [.agg [.int .i64 m.id, .int .i64 m.many, .sl τ 9 (m.slots.map (enSlot.av τ)), .int .i64 m.try_.epoch, .int .i64 m.try_.ballot.no, .int .i64 m.try_.ballot.by_, .int .i64 m.try_.inc.epoch, .int .i64 m.try_.inc.kind, .int .i64 m.try_.inc.a, .int .i64 m.try_.inc.b, .int .i64 m.try_.highest.no, .int .i64 m.try_.highest.by_, .sl τ 1 (m.try_.promises.map (AV.int .i64)), .sl τ 1 (m.try_.accepts.map (AV.int .i64)), .bool m.try_.decided]] = ⟨True, .bool true⟩ := sem1_eq  (E := enMon)
theorem p8 : Pure Try.prog 8 g8 := by
  refine sem1_pure fun τ m n h2 hpre => ?_
  have hT : Table Try.prog [(27, g27), (29, g29), (31, g31), (32, g32), (33, g33), (24, g24)] := (.cons p27 (.cons p29 (.cons p31 (.cons p32 (.cons p33 (.cons p24 .nil))))))
  have hn0 : n ≠ 0 := by omega
  refine SatP.of_body hT hm Try.func8 s8 o8 h2 (by simp) ?_
  have hself : ∀ {α : Type} (x : α), eqB x x = true := fun x => eqB_iff.2 rfl
  generalize htt : (m.slots.length + (m.try_.promises.length + m.try_.accepts.length)) = tt
  rcases szR_spec 1048576 tt with ⟨h1, h3⟩ | ⟨h1, h3⟩
  · have h4 : (0 : Int) ≤ 1048576 - (tt : Nat) := by omega
    have h5 : tt ≤ 1048576 := by omega
    have h6 : ¬ (1048576 - ((tt : Nat) : Int)) < 0 := by omega
    simp (config := {contextual := true, maxSteps := 2000000, implicitDefEqProofs := false}) [c8, go_sem, bigB, htt, h3, h4, h5, h6, hn0, hself] <;> grind
  · simp (config := {contextual := true, maxSteps := 2000000, implicitDefEqProofs := false}) [c8, go_sem, bigB, htt, h3]
theorem sat_FnExactDecided (x0 : Mon) (_ : okMon x0) : SatM Try.prog 2 8 [] [enMon.av 1 x0] [] (.bool true) := by
  have h := p8 2 [enMon.av 1 x0] (by omega)
  have he : g8 2 [enMon.av 1 x0] = ⟨True, .bool true⟩ := g8_eq
  rw [he] at h
  exact h trivial
end Go.Ve
