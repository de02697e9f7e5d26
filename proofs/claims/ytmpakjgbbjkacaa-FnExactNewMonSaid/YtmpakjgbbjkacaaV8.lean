/- The law of new monitors. No condition. -/
import Derived.Test.YtmpakjgbbjkacaaV6b
namespace Go.Ve
open Go.Proofs Go.RowKit
set_option linter.unusedVariables false
set_option linter.unusedSimpArgs false
set_option maxRecDepth 10000
set_option maxHeartbeats 4000000
/- laws.markSlotS -/
def c55 : SCode := (.seq (.reg [⟨(some 4), .assign (.const (.int .i64 0)), none⟩])
(.seq (.seq (.reg [⟨(some 5), .assign (.const (.int .i64 0)), none⟩])
  (.block 0 (.loop (.seq (.seq (.reg [⟨(some 6), .move (.tmp 5), none⟩,
         ⟨(some 7), .move (.tmp 0), none⟩,
         ⟨(some 8), .call ⟨(.builtin .len), #[(.tmp 7)], #[47]⟩, none⟩,
         ⟨(some 9), .binOp .lss 3 (.tmp 6) (.tmp 8) 3, none⟩])
      (.cond (.tmp 9) .skip
       (.exit 0)))
     (.seq (.block 1 (.seq (.reg [⟨(some 12), .move (.tmp 0), none⟩,
           ⟨(some 13), .move (.tmp 5), none⟩,
           ⟨(some 14), .move (.tmp 1), none⟩,
           ⟨(some 15), .indexAddr 47 (.tmp 12) (.tmp 13), none⟩,
           ⟨(some 16), .fieldAddr 98 (.tmp 15) 0, none⟩,
           ⟨none, .store 2 (.tmp 16) (.tmp 14), none⟩])
        (.seq (.reg [⟨(some 17), .move (.tmp 1), none⟩,
            ⟨(some 18), .binOp .add 3 (.tmp 17) (.const (.int .i64 1)) 3, none⟩,
            ⟨(some 1), .assign (.tmp 18), none⟩])
         (.seq (.reg [⟨(some 19), .move (.tmp 0), none⟩,
             ⟨(some 20), .move (.tmp 5), none⟩,
             ⟨(some 21), .move (.tmp 1), none⟩,
             ⟨(some 22), .indexAddr 47 (.tmp 19) (.tmp 20), none⟩,
             ⟨(some 23), .fieldAddr 98 (.tmp 22) 1, none⟩,
             ⟨(some 24), .fieldAddr 49 (.tmp 23) 0, none⟩,
             ⟨none, .store 2 (.tmp 24) (.tmp 21), none⟩])
          (.seq (.reg [⟨(some 25), .move (.tmp 1), none⟩,
              ⟨(some 26), .binOp .add 3 (.tmp 25) (.const (.int .i64 1)) 3, none⟩,
              ⟨(some 1), .assign (.tmp 26), none⟩])
           (.seq (.reg [⟨(some 27), .move (.tmp 0), none⟩,
               ⟨(some 28), .move (.tmp 5), none⟩,
               ⟨(some 29), .move (.tmp 1), none⟩,
               ⟨(some 30), .indexAddr 47 (.tmp 27) (.tmp 28), none⟩,
               ⟨(some 31), .fieldAddr 98 (.tmp 30) 1, none⟩,
               ⟨(some 32), .fieldAddr 49 (.tmp 31) 1, none⟩,
               ⟨none, .store 2 (.tmp 32) (.tmp 29), none⟩])
            (.seq (.reg [⟨(some 33), .move (.tmp 1), none⟩,
                ⟨(some 34), .binOp .add 3 (.tmp 33) (.const (.int .i64 1)) 3, none⟩,
                ⟨(some 1), .assign (.tmp 34), none⟩])
             (.seq (.reg [⟨(some 35), .move (.tmp 0), none⟩,
                 ⟨(some 36), .move (.tmp 5), none⟩,
                 ⟨(some 37), .move (.tmp 1), none⟩,
                 ⟨(some 38), .indexAddr 47 (.tmp 35) (.tmp 36), none⟩,
                 ⟨(some 39), .fieldAddr 98 (.tmp 38) 2, none⟩,
                 ⟨(some 40), .fieldAddr 49 (.tmp 39) 0, none⟩,
                 ⟨none, .store 2 (.tmp 40) (.tmp 37), none⟩])
              (.seq (.reg [⟨(some 41), .move (.tmp 1), none⟩,
                  ⟨(some 42), .binOp .add 3 (.tmp 41) (.const (.int .i64 1)) 3, none⟩,
                  ⟨(some 1), .assign (.tmp 42), none⟩])
               (.seq (.reg [⟨(some 43), .move (.tmp 0), none⟩,
                   ⟨(some 44), .move (.tmp 5), none⟩,
                   ⟨(some 45), .move (.tmp 1), none⟩,
                   ⟨(some 46), .indexAddr 47 (.tmp 43) (.tmp 44), none⟩,
                   ⟨(some 47), .fieldAddr 98 (.tmp 46) 2, none⟩,
                   ⟨(some 48), .fieldAddr 49 (.tmp 47) 1, none⟩,
                   ⟨none, .store 2 (.tmp 48) (.tmp 45), none⟩])
                (.seq (.reg [⟨(some 49), .move (.tmp 1), none⟩,
                    ⟨(some 50), .binOp .add 3 (.tmp 49) (.const (.int .i64 1)) 3, none⟩,
                    ⟨(some 1), .assign (.tmp 50), none⟩])
                 (.seq (.reg [⟨(some 51), .move (.tmp 0), none⟩,
                     ⟨(some 52), .move (.tmp 5), none⟩,
                     ⟨(some 53), .move (.tmp 1), none⟩,
                     ⟨(some 54), .indexAddr 47 (.tmp 51) (.tmp 52), none⟩,
                     ⟨(some 55), .fieldAddr 98 (.tmp 54) 3, none⟩,
                     ⟨(some 56), .fieldAddr 51 (.tmp 55) 0, none⟩,
                     ⟨none, .store 2 (.tmp 56) (.tmp 53), none⟩])
                  (.seq (.reg [⟨(some 57), .move (.tmp 1), none⟩,
                      ⟨(some 58), .binOp .add 3 (.tmp 57) (.const (.int .i64 1)) 3, none⟩,
                      ⟨(some 1), .assign (.tmp 58), none⟩])
                   (.seq (.reg [⟨(some 59), .move (.tmp 0), none⟩,
                       ⟨(some 60), .move (.tmp 5), none⟩,
                       ⟨(some 61), .move (.tmp 1), none⟩,
                       ⟨(some 62), .indexAddr 47 (.tmp 59) (.tmp 60), none⟩,
                       ⟨(some 63), .fieldAddr 98 (.tmp 62) 3, none⟩,
                       ⟨(some 64), .fieldAddr 51 (.tmp 63) 1, none⟩,
                       ⟨none, .store 2 (.tmp 64) (.tmp 61), none⟩])
                    (.seq (.reg [⟨(some 65), .move (.tmp 1), none⟩,
                        ⟨(some 66), .binOp .add 3 (.tmp 65) (.const (.int .i64 1)) 3, none⟩,
                        ⟨(some 1), .assign (.tmp 66), none⟩])
                     (.seq (.reg [⟨(some 67), .move (.tmp 0), none⟩,
                         ⟨(some 68), .move (.tmp 5), none⟩,
                         ⟨(some 69), .move (.tmp 1), none⟩,
                         ⟨(some 70), .indexAddr 47 (.tmp 67) (.tmp 68), none⟩,
                         ⟨(some 71), .fieldAddr 98 (.tmp 70) 3, none⟩,
                         ⟨(some 72), .fieldAddr 51 (.tmp 71) 2, none⟩,
                         ⟨none, .store 2 (.tmp 72) (.tmp 69), none⟩])
                      (.seq (.reg [⟨(some 73), .move (.tmp 1), none⟩,
                          ⟨(some 74), .binOp .add 3 (.tmp 73) (.const (.int .i64 1)) 3, none⟩,
                          ⟨(some 1), .assign (.tmp 74), none⟩])
                       (.seq (.reg [⟨(some 75), .move (.tmp 0), none⟩,
                           ⟨(some 76), .move (.tmp 5), none⟩,
                           ⟨(some 77), .move (.tmp 1), none⟩,
                           ⟨(some 78), .indexAddr 47 (.tmp 75) (.tmp 76), none⟩,
                           ⟨(some 79), .fieldAddr 98 (.tmp 78) 3, none⟩,
                           ⟨(some 80), .fieldAddr 51 (.tmp 79) 3, none⟩,
                           ⟨none, .store 2 (.tmp 80) (.tmp 77), none⟩])
                        (.reg [⟨(some 81), .move (.tmp 1), none⟩,
                           ⟨(some 82), .binOp .add 3 (.tmp 81) (.const (.int .i64 1)) 3, none⟩,
                           ⟨(some 1), .assign (.tmp 82), none⟩])))))))))))))))))))
      (.reg [⟨(some 10), .move (.tmp 5), none⟩,
         ⟨(some 11), .binOp .add 3 (.tmp 10) (.const (.int .i64 1)) 3, none⟩,
         ⟨(some 5), .assign (.tmp 11), none⟩]))))))
 (.seq (.reg [⟨(some 83), .move (.tmp 1), none⟩,
     ⟨(some 4), .assign (.tmp 83), none⟩])
  .ret)))
theorem s55 : slimF Try.f55 = some (c55, [.t 4], 84) := by kernel_rfl
theorem o55 : okF [] Try.f55 = true := by kernel_rfl
noncomputable def g55 : Fsem := semOf (fun i : Int => match i with | k => [.nils, .int .i64 k]) (fun i => match i with | k => 0 ≤ k) (fun _ i => match i with | k => .int .i64 k)
@[go_sem] theorem g55_eq {n : Nat} {k : Int} : g55 n [.nils, .int .i64 k] = ⟨0 ≤ k, .int .i64 k⟩ :=
  semOf_eq (args := fun i : Int => match i with | k => [.nils, .int .i64 k]) k rfl (by
    intro j h
    skip
    obtain ⟨_, h⟩ := cons_inj h
    simp at h
    simp [h])
theorem p55 : Pure Try.prog 55 g55 := by
  refine semOf_pure fun i n h2 hpre => ?_
  obtain ⟨k, rfl⟩ : ∃ k, k = i := ⟨i, rfl⟩
  have hT : Table Try.prog [] := .nil
  replace hpre : 0 ≤ k := hpre
  have hk : ¬ k < 0 := by omega
  refine SatP.of_body hT hm Try.func55 s55 o55 h2 (by simp) ?_
  simp (config := {contextual := true, maxSteps := 2000000, implicitDefEqProofs := false}) [c55, go_sem]
  refine VW_listK hT h2 hm ([] : List Unit) [0] (fun pre post (b : Unit) => [(5, .int .i64 0), (1, .int .i64 k)]) (fun pre post (b : Unit) => True) () ?_ ?_ ?_ ?_
  · trivial
  · simp [SubI, go_sem]
  · intro _ _
    simp (config := {contextual := true, maxSteps := 2000000, implicitDefEqProofs := false}) [go_sem]
  · intro pre x post _ hl
    simp at hl
/- laws.heldSlotS -/
def c57 : SCode := (.seq (.reg [⟨(some 4), .assign (.const (.int .i64 0)), none⟩])
(.seq (.seq (.reg [⟨(some 5), .assign (.const (.int .i64 0)), none⟩])
  (.block 0 (.loop (.seq (.seq (.reg [⟨(some 6), .move (.tmp 5), none⟩,
         ⟨(some 7), .move (.tmp 0), none⟩,
         ⟨(some 8), .call ⟨(.builtin .len), #[(.tmp 7)], #[47]⟩, none⟩,
         ⟨(some 9), .binOp .lss 3 (.tmp 6) (.tmp 8) 3, none⟩])
      (.cond (.tmp 9) .skip
       (.exit 0)))
     (.seq (.block 1 (.seq (.seq (.reg [⟨(some 12), .move (.tmp 0), none⟩,
            ⟨(some 13), .move (.tmp 5), none⟩,
            ⟨(some 14), .indexAddr 47 (.tmp 12) (.tmp 13), none⟩,
            ⟨(some 15), .fieldAddr 98 (.tmp 14) 0, none⟩,
            ⟨(some 16), .load 2 (.tmp 15), none⟩,
            ⟨(some 17), .move (.tmp 1), none⟩,
            ⟨(some 18), .binOp .neq 2 (.tmp 16) (.tmp 17) 2, none⟩])
         (.cond (.tmp 18) (.seq (.reg [⟨(some 4), .assign (.const (.int .i64 (-1))), none⟩])
           .ret)
          .skip))
        (.seq (.reg [⟨(some 19), .move (.tmp 1), none⟩,
            ⟨(some 20), .binOp .add 3 (.tmp 19) (.const (.int .i64 1)) 3, none⟩,
            ⟨(some 1), .assign (.tmp 20), none⟩])
         (.seq (.seq (.reg [⟨(some 21), .move (.tmp 0), none⟩,
              ⟨(some 22), .move (.tmp 5), none⟩,
              ⟨(some 23), .indexAddr 47 (.tmp 21) (.tmp 22), none⟩,
              ⟨(some 24), .fieldAddr 98 (.tmp 23) 1, none⟩,
              ⟨(some 25), .fieldAddr 49 (.tmp 24) 0, none⟩,
              ⟨(some 26), .load 2 (.tmp 25), none⟩,
              ⟨(some 27), .move (.tmp 1), none⟩,
              ⟨(some 28), .binOp .neq 2 (.tmp 26) (.tmp 27) 2, none⟩])
           (.cond (.tmp 28) (.seq (.reg [⟨(some 4), .assign (.const (.int .i64 (-1))), none⟩])
             .ret)
            .skip))
          (.seq (.reg [⟨(some 29), .move (.tmp 1), none⟩,
              ⟨(some 30), .binOp .add 3 (.tmp 29) (.const (.int .i64 1)) 3, none⟩,
              ⟨(some 1), .assign (.tmp 30), none⟩])
           (.seq (.seq (.reg [⟨(some 31), .move (.tmp 0), none⟩,
                ⟨(some 32), .move (.tmp 5), none⟩,
                ⟨(some 33), .indexAddr 47 (.tmp 31) (.tmp 32), none⟩,
                ⟨(some 34), .fieldAddr 98 (.tmp 33) 1, none⟩,
                ⟨(some 35), .fieldAddr 49 (.tmp 34) 1, none⟩,
                ⟨(some 36), .load 2 (.tmp 35), none⟩,
                ⟨(some 37), .move (.tmp 1), none⟩,
                ⟨(some 38), .binOp .neq 2 (.tmp 36) (.tmp 37) 2, none⟩])
             (.cond (.tmp 38) (.seq (.reg [⟨(some 4), .assign (.const (.int .i64 (-1))), none⟩])
               .ret)
              .skip))
            (.seq (.reg [⟨(some 39), .move (.tmp 1), none⟩,
                ⟨(some 40), .binOp .add 3 (.tmp 39) (.const (.int .i64 1)) 3, none⟩,
                ⟨(some 1), .assign (.tmp 40), none⟩])
             (.seq (.seq (.reg [⟨(some 41), .move (.tmp 0), none⟩,
                  ⟨(some 42), .move (.tmp 5), none⟩,
                  ⟨(some 43), .indexAddr 47 (.tmp 41) (.tmp 42), none⟩,
                  ⟨(some 44), .fieldAddr 98 (.tmp 43) 2, none⟩,
                  ⟨(some 45), .fieldAddr 49 (.tmp 44) 0, none⟩,
                  ⟨(some 46), .load 2 (.tmp 45), none⟩,
                  ⟨(some 47), .move (.tmp 1), none⟩,
                  ⟨(some 48), .binOp .neq 2 (.tmp 46) (.tmp 47) 2, none⟩])
               (.cond (.tmp 48) (.seq (.reg [⟨(some 4), .assign (.const (.int .i64 (-1))), none⟩])
                 .ret)
                .skip))
              (.seq (.reg [⟨(some 49), .move (.tmp 1), none⟩,
                  ⟨(some 50), .binOp .add 3 (.tmp 49) (.const (.int .i64 1)) 3, none⟩,
                  ⟨(some 1), .assign (.tmp 50), none⟩])
               (.seq (.seq (.reg [⟨(some 51), .move (.tmp 0), none⟩,
                    ⟨(some 52), .move (.tmp 5), none⟩,
                    ⟨(some 53), .indexAddr 47 (.tmp 51) (.tmp 52), none⟩,
                    ⟨(some 54), .fieldAddr 98 (.tmp 53) 2, none⟩,
                    ⟨(some 55), .fieldAddr 49 (.tmp 54) 1, none⟩,
                    ⟨(some 56), .load 2 (.tmp 55), none⟩,
                    ⟨(some 57), .move (.tmp 1), none⟩,
                    ⟨(some 58), .binOp .neq 2 (.tmp 56) (.tmp 57) 2, none⟩])
                 (.cond (.tmp 58) (.seq (.reg [⟨(some 4), .assign (.const (.int .i64 (-1))), none⟩])
                   .ret)
                  .skip))
                (.seq (.reg [⟨(some 59), .move (.tmp 1), none⟩,
                    ⟨(some 60), .binOp .add 3 (.tmp 59) (.const (.int .i64 1)) 3, none⟩,
                    ⟨(some 1), .assign (.tmp 60), none⟩])
                 (.seq (.seq (.reg [⟨(some 61), .move (.tmp 0), none⟩,
                      ⟨(some 62), .move (.tmp 5), none⟩,
                      ⟨(some 63), .indexAddr 47 (.tmp 61) (.tmp 62), none⟩,
                      ⟨(some 64), .fieldAddr 98 (.tmp 63) 3, none⟩,
                      ⟨(some 65), .fieldAddr 51 (.tmp 64) 0, none⟩,
                      ⟨(some 66), .load 2 (.tmp 65), none⟩,
                      ⟨(some 67), .move (.tmp 1), none⟩,
                      ⟨(some 68), .binOp .neq 2 (.tmp 66) (.tmp 67) 2, none⟩])
                   (.cond (.tmp 68) (.seq (.reg [⟨(some 4), .assign (.const (.int .i64 (-1))), none⟩])
                     .ret)
                    .skip))
                  (.seq (.reg [⟨(some 69), .move (.tmp 1), none⟩,
                      ⟨(some 70), .binOp .add 3 (.tmp 69) (.const (.int .i64 1)) 3, none⟩,
                      ⟨(some 1), .assign (.tmp 70), none⟩])
                   (.seq (.seq (.reg [⟨(some 71), .move (.tmp 0), none⟩,
                        ⟨(some 72), .move (.tmp 5), none⟩,
                        ⟨(some 73), .indexAddr 47 (.tmp 71) (.tmp 72), none⟩,
                        ⟨(some 74), .fieldAddr 98 (.tmp 73) 3, none⟩,
                        ⟨(some 75), .fieldAddr 51 (.tmp 74) 1, none⟩,
                        ⟨(some 76), .load 2 (.tmp 75), none⟩,
                        ⟨(some 77), .move (.tmp 1), none⟩,
                        ⟨(some 78), .binOp .neq 2 (.tmp 76) (.tmp 77) 2, none⟩])
                     (.cond (.tmp 78) (.seq (.reg [⟨(some 4), .assign (.const (.int .i64 (-1))), none⟩])
                       .ret)
                      .skip))
                    (.seq (.reg [⟨(some 79), .move (.tmp 1), none⟩,
                        ⟨(some 80), .binOp .add 3 (.tmp 79) (.const (.int .i64 1)) 3, none⟩,
                        ⟨(some 1), .assign (.tmp 80), none⟩])
                     (.seq (.seq (.reg [⟨(some 81), .move (.tmp 0), none⟩,
                          ⟨(some 82), .move (.tmp 5), none⟩,
                          ⟨(some 83), .indexAddr 47 (.tmp 81) (.tmp 82), none⟩,
                          ⟨(some 84), .fieldAddr 98 (.tmp 83) 3, none⟩,
                          ⟨(some 85), .fieldAddr 51 (.tmp 84) 2, none⟩,
                          ⟨(some 86), .load 2 (.tmp 85), none⟩,
                          ⟨(some 87), .move (.tmp 1), none⟩,
                          ⟨(some 88), .binOp .neq 2 (.tmp 86) (.tmp 87) 2, none⟩])
                       (.cond (.tmp 88) (.seq (.reg [⟨(some 4), .assign (.const (.int .i64 (-1))), none⟩])
                         .ret)
                        .skip))
                      (.seq (.reg [⟨(some 89), .move (.tmp 1), none⟩,
                          ⟨(some 90), .binOp .add 3 (.tmp 89) (.const (.int .i64 1)) 3, none⟩,
                          ⟨(some 1), .assign (.tmp 90), none⟩])
                       (.seq (.seq (.reg [⟨(some 91), .move (.tmp 0), none⟩,
                            ⟨(some 92), .move (.tmp 5), none⟩,
                            ⟨(some 93), .indexAddr 47 (.tmp 91) (.tmp 92), none⟩,
                            ⟨(some 94), .fieldAddr 98 (.tmp 93) 3, none⟩,
                            ⟨(some 95), .fieldAddr 51 (.tmp 94) 3, none⟩,
                            ⟨(some 96), .load 2 (.tmp 95), none⟩,
                            ⟨(some 97), .move (.tmp 1), none⟩,
                            ⟨(some 98), .binOp .neq 2 (.tmp 96) (.tmp 97) 2, none⟩])
                         (.cond (.tmp 98) (.seq (.reg [⟨(some 4), .assign (.const (.int .i64 (-1))), none⟩])
                           .ret)
                          .skip))
                        (.reg [⟨(some 99), .move (.tmp 1), none⟩,
                           ⟨(some 100), .binOp .add 3 (.tmp 99) (.const (.int .i64 1)) 3, none⟩,
                           ⟨(some 1), .assign (.tmp 100), none⟩])))))))))))))))))))
      (.reg [⟨(some 10), .move (.tmp 5), none⟩,
         ⟨(some 11), .binOp .add 3 (.tmp 10) (.const (.int .i64 1)) 3, none⟩,
         ⟨(some 5), .assign (.tmp 11), none⟩]))))))
 (.seq (.reg [⟨(some 101), .move (.tmp 1), none⟩,
     ⟨(some 4), .assign (.tmp 101), none⟩])
  .ret)))
theorem s57 : slimF Try.f57 = some (c57, [.t 4], 102) := by kernel_rfl
theorem o57 : okF [] Try.f57 = true := by kernel_rfl
noncomputable def g57 : Fsem := semOf (fun i : Int => match i with | k => [.nils, .int .i64 k]) (fun i => match i with | k => 0 ≤ k) (fun _ i => match i with | k => .int .i64 k)
@[go_sem] theorem g57_eq {n : Nat} {k : Int} : g57 n [.nils, .int .i64 k] = ⟨0 ≤ k, .int .i64 k⟩ :=
  semOf_eq (args := fun i : Int => match i with | k => [.nils, .int .i64 k]) k rfl (by
    intro j h
    skip
    obtain ⟨_, h⟩ := cons_inj h
    simp at h
    simp [h])
theorem p57 : Pure Try.prog 57 g57 := by
  refine semOf_pure fun i n h2 hpre => ?_
  obtain ⟨k, rfl⟩ : ∃ k, k = i := ⟨i, rfl⟩
  have hT : Table Try.prog [] := .nil
  replace hpre : 0 ≤ k := hpre
  have hk : ¬ k < 0 := by omega
  refine SatP.of_body hT hm Try.func57 s57 o57 h2 (by simp) ?_
  simp (config := {contextual := true, maxSteps := 2000000, implicitDefEqProofs := false}) [c57, go_sem]
  refine VW_listK hT h2 hm ([] : List Unit) [0] (fun pre post (b : Unit) => [(5, .int .i64 0), (1, .int .i64 k)]) (fun pre post (b : Unit) => True) () ?_ ?_ ?_ ?_
  · trivial
  · simp [SubI, go_sem]
  · intro _ _
    simp (config := {contextual := true, maxSteps := 2000000, implicitDefEqProofs := false}) [go_sem]
  · intro pre x post _ hl
    simp at hl
/- laws.markInt64S -/
def c87 : SCode := (.seq (.reg [⟨(some 4), .assign (.const (.int .i64 0)), none⟩])
(.seq (.seq (.reg [⟨(some 5), .assign (.const (.int .i64 0)), none⟩])
  (.block 0 (.loop (.seq (.seq (.reg [⟨(some 6), .move (.tmp 5), none⟩,
         ⟨(some 7), .move (.tmp 0), none⟩,
         ⟨(some 8), .call ⟨(.builtin .len), #[(.tmp 7)], #[52]⟩, none⟩,
         ⟨(some 9), .binOp .lss 3 (.tmp 6) (.tmp 8) 3, none⟩])
      (.cond (.tmp 9) .skip
       (.exit 0)))
     (.seq (.block 1 (.seq (.reg [⟨(some 12), .move (.tmp 0), none⟩,
           ⟨(some 13), .move (.tmp 5), none⟩,
           ⟨(some 14), .move (.tmp 1), none⟩,
           ⟨(some 15), .indexAddr 52 (.tmp 12) (.tmp 13), none⟩,
           ⟨none, .store 2 (.tmp 15) (.tmp 14), none⟩])
        (.reg [⟨(some 16), .move (.tmp 1), none⟩,
           ⟨(some 17), .binOp .add 3 (.tmp 16) (.const (.int .i64 1)) 3, none⟩,
           ⟨(some 1), .assign (.tmp 17), none⟩])))
      (.reg [⟨(some 10), .move (.tmp 5), none⟩,
         ⟨(some 11), .binOp .add 3 (.tmp 10) (.const (.int .i64 1)) 3, none⟩,
         ⟨(some 5), .assign (.tmp 11), none⟩]))))))
 (.seq (.reg [⟨(some 18), .move (.tmp 1), none⟩,
     ⟨(some 4), .assign (.tmp 18), none⟩])
  .ret)))
theorem s87 : slimF Try.f87 = some (c87, [.t 4], 19) := by kernel_rfl
theorem o87 : okF [] Try.f87 = true := by kernel_rfl
noncomputable def g87 : Fsem := semOf (fun i : Int => match i with | k => [.nils, .int .i64 k]) (fun i => match i with | k => 0 ≤ k) (fun _ i => match i with | k => .int .i64 k)
@[go_sem] theorem g87_eq {n : Nat} {k : Int} : g87 n [.nils, .int .i64 k] = ⟨0 ≤ k, .int .i64 k⟩ :=
  semOf_eq (args := fun i : Int => match i with | k => [.nils, .int .i64 k]) k rfl (by
    intro j h
    skip
    obtain ⟨_, h⟩ := cons_inj h
    simp at h
    simp [h])
theorem p87 : Pure Try.prog 87 g87 := by
  refine semOf_pure fun i n h2 hpre => ?_
  obtain ⟨k, rfl⟩ : ∃ k, k = i := ⟨i, rfl⟩
  have hT : Table Try.prog [] := .nil
  replace hpre : 0 ≤ k := hpre
  have hk : ¬ k < 0 := by omega
  refine SatP.of_body hT hm Try.func87 s87 o87 h2 (by simp) ?_
  simp (config := {contextual := true, maxSteps := 2000000, implicitDefEqProofs := false}) [c87, go_sem]
  refine VW_listK hT h2 hm ([] : List Unit) [0] (fun pre post (b : Unit) => [(5, .int .i64 0), (1, .int .i64 k)]) (fun pre post (b : Unit) => True) () ?_ ?_ ?_ ?_
  · trivial
  · simp [SubI, go_sem]
  · intro _ _
    simp (config := {contextual := true, maxSteps := 2000000, implicitDefEqProofs := false}) [go_sem]
  · intro pre x post _ hl
    simp at hl
/- laws.heldInt64S -/
def c88 : SCode := (.seq (.reg [⟨(some 4), .assign (.const (.int .i64 0)), none⟩])
(.seq (.seq (.reg [⟨(some 5), .assign (.const (.int .i64 0)), none⟩])
  (.block 0 (.loop (.seq (.seq (.reg [⟨(some 6), .move (.tmp 5), none⟩,
         ⟨(some 7), .move (.tmp 0), none⟩,
         ⟨(some 8), .call ⟨(.builtin .len), #[(.tmp 7)], #[52]⟩, none⟩,
         ⟨(some 9), .binOp .lss 3 (.tmp 6) (.tmp 8) 3, none⟩])
      (.cond (.tmp 9) .skip
       (.exit 0)))
     (.seq (.block 1 (.seq (.seq (.reg [⟨(some 12), .move (.tmp 0), none⟩,
            ⟨(some 13), .move (.tmp 5), none⟩,
            ⟨(some 14), .indexAddr 52 (.tmp 12) (.tmp 13), none⟩,
            ⟨(some 15), .load 2 (.tmp 14), none⟩,
            ⟨(some 16), .move (.tmp 1), none⟩,
            ⟨(some 17), .binOp .neq 2 (.tmp 15) (.tmp 16) 2, none⟩])
         (.cond (.tmp 17) (.seq (.reg [⟨(some 4), .assign (.const (.int .i64 (-1))), none⟩])
           .ret)
          .skip))
        (.reg [⟨(some 18), .move (.tmp 1), none⟩,
           ⟨(some 19), .binOp .add 3 (.tmp 18) (.const (.int .i64 1)) 3, none⟩,
           ⟨(some 1), .assign (.tmp 19), none⟩])))
      (.reg [⟨(some 10), .move (.tmp 5), none⟩,
         ⟨(some 11), .binOp .add 3 (.tmp 10) (.const (.int .i64 1)) 3, none⟩,
         ⟨(some 5), .assign (.tmp 11), none⟩]))))))
 (.seq (.reg [⟨(some 20), .move (.tmp 1), none⟩,
     ⟨(some 4), .assign (.tmp 20), none⟩])
  .ret)))
theorem s88 : slimF Try.f88 = some (c88, [.t 4], 21) := by kernel_rfl
theorem o88 : okF [] Try.f88 = true := by kernel_rfl
noncomputable def g88 : Fsem := semOf (fun i : Int => match i with | k => [.nils, .int .i64 k]) (fun i => match i with | k => 0 ≤ k) (fun _ i => match i with | k => .int .i64 k)
@[go_sem] theorem g88_eq {n : Nat} {k : Int} : g88 n [.nils, .int .i64 k] = ⟨0 ≤ k, .int .i64 k⟩ :=
  semOf_eq (args := fun i : Int => match i with | k => [.nils, .int .i64 k]) k rfl (by
    intro j h
    skip
    obtain ⟨_, h⟩ := cons_inj h
    simp at h
    simp [h])
theorem p88 : Pure Try.prog 88 g88 := by
  refine semOf_pure fun i n h2 hpre => ?_
  obtain ⟨k, rfl⟩ : ∃ k, k = i := ⟨i, rfl⟩
  have hT : Table Try.prog [] := .nil
  replace hpre : 0 ≤ k := hpre
  have hk : ¬ k < 0 := by omega
  refine SatP.of_body hT hm Try.func88 s88 o88 h2 (by simp) ?_
  simp (config := {contextual := true, maxSteps := 2000000, implicitDefEqProofs := false}) [c88, go_sem]
  refine VW_listK hT h2 hm ([] : List Unit) [0] (fun pre post (b : Unit) => [(5, .int .i64 0), (1, .int .i64 k)]) (fun pre post (b : Unit) => True) () ?_ ?_ ?_ ?_
  · trivial
  · simp [SubI, go_sem]
  · intro _ _
    simp (config := {contextual := true, maxSteps := 2000000, implicitDefEqProofs := false}) [go_sem]
  · intro pre x post _ hl
    simp at hl
/- laws.markTry -/
def c56 : SCode := (.seq (.reg [⟨(some 2), .box 54 (.tmp 0), none⟩,
   ⟨(some 4), .assign (.const (.int .i64 0)), none⟩])
(.seq (.reg [⟨(some 5), .fieldAddr 54 (.tmp 2) 4, none⟩,
    ⟨(some 6), .load 52 (.tmp 5), none⟩,
    ⟨(some 7), .move (.tmp 1), none⟩,
    ⟨(some 8), .call ⟨(.value (.func 87)), #[(.tmp 6), (.tmp 7)], #[52, 3]⟩, none⟩,
    ⟨(some 1), .assign (.tmp 8), none⟩])
 (.seq (.reg [⟨(some 9), .fieldAddr 54 (.tmp 2) 5, none⟩,
     ⟨(some 10), .load 52 (.tmp 9), none⟩,
     ⟨(some 11), .move (.tmp 1), none⟩,
     ⟨(some 12), .call ⟨(.value (.func 87)), #[(.tmp 10), (.tmp 11)], #[52, 3]⟩, none⟩,
     ⟨(some 1), .assign (.tmp 12), none⟩])
  (.seq (.reg [⟨(some 13), .move (.tmp 1), none⟩,
      ⟨(some 4), .assign (.tmp 13), none⟩])
   .ret))))
theorem s56 : slimF Try.f56 = some (c56, [.t 4], 14) := by kernel_rfl
theorem o56 : okF [(87, g87)] Try.f56 = true := by kernel_rfl
noncomputable def g56 : Fsem := semOf (fun i : Int => match i with | k => [.agg [.int .i64 0, .int .i64 0, .int .i64 0, .int .i64 0, .int .i64 0, .int .i64 0, .int .i64 0, .int .i64 0, .int .i64 0, .nils, .nils, .bool false], .int .i64 k]) (fun i => match i with | k => 0 ≤ k) (fun _ i => match i with | k => .int .i64 k)
@[go_sem] theorem g56_eq {n : Nat} {k : Int} : g56 n [.agg [.int .i64 0, .int .i64 0, .int .i64 0, .int .i64 0, .int .i64 0, .int .i64 0, .int .i64 0, .int .i64 0, .int .i64 0, .nils, .nils, .bool false], .int .i64 k] = ⟨0 ≤ k, .int .i64 k⟩ :=
  semOf_eq (args := fun i : Int => match i with | k => [.agg [.int .i64 0, .int .i64 0, .int .i64 0, .int .i64 0, .int .i64 0, .int .i64 0, .int .i64 0, .int .i64 0, .int .i64 0, .nils, .nils, .bool false], .int .i64 k]) k rfl (by
    intro j h
    skip
    obtain ⟨_, h⟩ := cons_inj h
    simp at h
    simp [h])
theorem p56 : Pure Try.prog 56 g56 := by
  refine semOf_pure fun i n h2 hpre => ?_
  obtain ⟨k, rfl⟩ : ∃ k, k = i := ⟨i, rfl⟩
  have hT : Table Try.prog [(87, g87)] := (.cons p87 .nil)
  replace hpre : 0 ≤ k := hpre
  have hk : ¬ k < 0 := by omega
  refine SatP.of_body hT hm Try.func56 s56 o56 h2 (by simp) ?_
  simp (config := {contextual := true, maxSteps := 2000000, implicitDefEqProofs := false}) [c56, go_sem, hpre, hk]
/- laws.heldTry -/
def c58 : SCode := (.seq (.reg [⟨(some 2), .box 54 (.tmp 0), none⟩,
   ⟨(some 4), .assign (.const (.int .i64 0)), none⟩])
(.seq (.reg [⟨(some 5), .fieldAddr 54 (.tmp 2) 4, none⟩,
    ⟨(some 6), .load 52 (.tmp 5), none⟩,
    ⟨(some 7), .move (.tmp 1), none⟩,
    ⟨(some 8), .call ⟨(.value (.func 88)), #[(.tmp 6), (.tmp 7)], #[52, 3]⟩, none⟩,
    ⟨(some 1), .assign (.tmp 8), none⟩])
 (.seq (.seq (.reg [⟨(some 9), .move (.tmp 1), none⟩,
      ⟨(some 10), .binOp .lss 3 (.tmp 9) (.const (.int .i64 0)) 3, none⟩])
   (.cond (.tmp 10) (.seq (.reg [⟨(some 4), .assign (.const (.int .i64 (-1))), none⟩])
     .ret)
    .skip))
  (.seq (.reg [⟨(some 11), .fieldAddr 54 (.tmp 2) 5, none⟩,
      ⟨(some 12), .load 52 (.tmp 11), none⟩,
      ⟨(some 13), .move (.tmp 1), none⟩,
      ⟨(some 14), .call ⟨(.value (.func 88)), #[(.tmp 12), (.tmp 13)], #[52, 3]⟩, none⟩,
      ⟨(some 1), .assign (.tmp 14), none⟩])
   (.seq (.seq (.reg [⟨(some 15), .move (.tmp 1), none⟩,
        ⟨(some 16), .binOp .lss 3 (.tmp 15) (.const (.int .i64 0)) 3, none⟩])
     (.cond (.tmp 16) (.seq (.reg [⟨(some 4), .assign (.const (.int .i64 (-1))), none⟩])
       .ret)
      .skip))
    (.seq (.reg [⟨(some 17), .move (.tmp 1), none⟩,
        ⟨(some 4), .assign (.tmp 17), none⟩])
     .ret))))))
theorem s58 : slimF Try.f58 = some (c58, [.t 4], 18) := by kernel_rfl
theorem o58 : okF [(88, g88)] Try.f58 = true := by kernel_rfl
noncomputable def g58 : Fsem := semOf (fun i : Int => match i with | k => [.agg [.int .i64 0, .int .i64 0, .int .i64 0, .int .i64 0, .int .i64 0, .int .i64 0, .int .i64 0, .int .i64 0, .int .i64 0, .nils, .nils, .bool false], .int .i64 k]) (fun i => match i with | k => 0 ≤ k) (fun _ i => match i with | k => .int .i64 k)
@[go_sem] theorem g58_eq {n : Nat} {k : Int} : g58 n [.agg [.int .i64 0, .int .i64 0, .int .i64 0, .int .i64 0, .int .i64 0, .int .i64 0, .int .i64 0, .int .i64 0, .int .i64 0, .nils, .nils, .bool false], .int .i64 k] = ⟨0 ≤ k, .int .i64 k⟩ :=
  semOf_eq (args := fun i : Int => match i with | k => [.agg [.int .i64 0, .int .i64 0, .int .i64 0, .int .i64 0, .int .i64 0, .int .i64 0, .int .i64 0, .int .i64 0, .int .i64 0, .nils, .nils, .bool false], .int .i64 k]) k rfl (by
    intro j h
    skip
    obtain ⟨_, h⟩ := cons_inj h
    simp at h
    simp [h])
theorem p58 : Pure Try.prog 58 g58 := by
  refine semOf_pure fun i n h2 hpre => ?_
  obtain ⟨k, rfl⟩ : ∃ k, k = i := ⟨i, rfl⟩
  have hT : Table Try.prog [(88, g88)] := (.cons p88 .nil)
  replace hpre : 0 ≤ k := hpre
  have hk : ¬ k < 0 := by omega
  refine SatP.of_body hT hm Try.func58 s58 o58 h2 (by simp) ?_
  simp (config := {contextual := true, maxSteps := 2000000, implicitDefEqProofs := false}) [c58, go_sem, hpre, hk]
/- laws.markMon -/
def c25 : SCode := (.seq (.reg [⟨(some 2), .box 56 (.tmp 0), none⟩,
   ⟨(some 4), .assign (.const (.int .i64 0)), none⟩])
(.seq (.reg [⟨(some 5), .fieldAddr 56 (.tmp 2) 2, none⟩,
    ⟨(some 6), .load 47 (.tmp 5), none⟩,
    ⟨(some 7), .move (.tmp 1), none⟩,
    ⟨(some 8), .call ⟨(.value (.func 55)), #[(.tmp 6), (.tmp 7)], #[47, 3]⟩, none⟩,
    ⟨(some 1), .assign (.tmp 8), none⟩])
 (.seq (.reg [⟨(some 9), .fieldAddr 56 (.tmp 2) 3, none⟩,
     ⟨(some 10), .load 54 (.tmp 9), none⟩,
     ⟨(some 11), .move (.tmp 1), none⟩,
     ⟨(some 12), .call ⟨(.value (.func 56)), #[(.tmp 10), (.tmp 11)], #[54, 3]⟩, none⟩,
     ⟨(some 1), .assign (.tmp 12), none⟩])
  (.seq (.reg [⟨(some 13), .move (.tmp 1), none⟩,
      ⟨(some 4), .assign (.tmp 13), none⟩])
   .ret))))
theorem s25 : slimF Try.f25 = some (c25, [.t 4], 14) := by kernel_rfl
theorem o25 : okF [(55, g55), (56, g56)] Try.f25 = true := by kernel_rfl
noncomputable def g25 : Fsem := semOf (fun i : Int × Int × Int => match i with | ⟨id, many, k⟩ => [.agg [.int .i64 id, .int .i64 many, .nils, .int .i64 0, .int .i64 0, .int .i64 0, .int .i64 0, .int .i64 0, .int .i64 0, .int .i64 0, .int .i64 0, .int .i64 0, .nils, .nils, .bool false], .int .i64 k]) (fun i => match i with | ⟨id, many, k⟩ => 0 ≤ k) (fun _ i => match i with | ⟨id, many, k⟩ => .int .i64 k)
@[go_sem] theorem g25_eq {n : Nat} {id many k : Int} : g25 n [.agg [.int .i64 id, .int .i64 many, .nils, .int .i64 0, .int .i64 0, .int .i64 0, .int .i64 0, .int .i64 0, .int .i64 0, .int .i64 0, .int .i64 0, .int .i64 0, .nils, .nils, .bool false], .int .i64 k] = ⟨0 ≤ k, .int .i64 k⟩ :=
  semOf_eq (args := fun i : Int × Int × Int => match i with | ⟨id, many, k⟩ => [.agg [.int .i64 id, .int .i64 many, .nils, .int .i64 0, .int .i64 0, .int .i64 0, .int .i64 0, .int .i64 0, .int .i64 0, .int .i64 0, .int .i64 0, .int .i64 0, .nils, .nils, .bool false], .int .i64 k]) (id, many, k) rfl (by
    intro j h
    obtain ⟨id', many', k'⟩ := j
    obtain ⟨_, h⟩ := cons_inj h
    simp at h
    simp [h])
theorem p25 : Pure Try.prog 25 g25 := by
  refine semOf_pure fun i n h2 hpre => ?_
  obtain ⟨id, many, k⟩ := i
  have hT : Table Try.prog [(55, g55), (56, g56)] := (.cons p55 (.cons p56 .nil))
  replace hpre : 0 ≤ k := hpre
  have hk : ¬ k < 0 := by omega
  refine SatP.of_body hT hm Try.func25 s25 o25 h2 (by simp) ?_
  simp (config := {contextual := true, maxSteps := 2000000, implicitDefEqProofs := false}) [c25, go_sem, hpre, hk]
/- laws.heldMon -/
def c26 : SCode := (.seq (.reg [⟨(some 2), .box 56 (.tmp 0), none⟩,
   ⟨(some 4), .assign (.const (.int .i64 0)), none⟩])
(.seq (.reg [⟨(some 5), .fieldAddr 56 (.tmp 2) 2, none⟩,
    ⟨(some 6), .load 47 (.tmp 5), none⟩,
    ⟨(some 7), .move (.tmp 1), none⟩,
    ⟨(some 8), .call ⟨(.value (.func 57)), #[(.tmp 6), (.tmp 7)], #[47, 3]⟩, none⟩,
    ⟨(some 1), .assign (.tmp 8), none⟩])
 (.seq (.seq (.reg [⟨(some 9), .move (.tmp 1), none⟩,
      ⟨(some 10), .binOp .lss 3 (.tmp 9) (.const (.int .i64 0)) 3, none⟩])
   (.cond (.tmp 10) (.seq (.reg [⟨(some 4), .assign (.const (.int .i64 (-1))), none⟩])
     .ret)
    .skip))
  (.seq (.reg [⟨(some 11), .fieldAddr 56 (.tmp 2) 3, none⟩,
      ⟨(some 12), .load 54 (.tmp 11), none⟩,
      ⟨(some 13), .move (.tmp 1), none⟩,
      ⟨(some 14), .call ⟨(.value (.func 58)), #[(.tmp 12), (.tmp 13)], #[54, 3]⟩, none⟩,
      ⟨(some 1), .assign (.tmp 14), none⟩])
   (.seq (.seq (.reg [⟨(some 15), .move (.tmp 1), none⟩,
        ⟨(some 16), .binOp .lss 3 (.tmp 15) (.const (.int .i64 0)) 3, none⟩])
     (.cond (.tmp 16) (.seq (.reg [⟨(some 4), .assign (.const (.int .i64 (-1))), none⟩])
       .ret)
      .skip))
    (.seq (.reg [⟨(some 17), .move (.tmp 1), none⟩,
        ⟨(some 4), .assign (.tmp 17), none⟩])
     .ret))))))
theorem s26 : slimF Try.f26 = some (c26, [.t 4], 18) := by kernel_rfl
theorem o26 : okF [(57, g57), (58, g58)] Try.f26 = true := by kernel_rfl
noncomputable def g26 : Fsem := semOf (fun i : Int × Int × Int => match i with | ⟨id, many, k⟩ => [.agg [.int .i64 id, .int .i64 many, .nils, .int .i64 0, .int .i64 0, .int .i64 0, .int .i64 0, .int .i64 0, .int .i64 0, .int .i64 0, .int .i64 0, .int .i64 0, .nils, .nils, .bool false], .int .i64 k]) (fun i => match i with | ⟨id, many, k⟩ => 0 ≤ k) (fun _ i => match i with | ⟨id, many, k⟩ => .int .i64 k)
@[go_sem] theorem g26_eq {n : Nat} {id many k : Int} : g26 n [.agg [.int .i64 id, .int .i64 many, .nils, .int .i64 0, .int .i64 0, .int .i64 0, .int .i64 0, .int .i64 0, .int .i64 0, .int .i64 0, .int .i64 0, .int .i64 0, .nils, .nils, .bool false], .int .i64 k] = ⟨0 ≤ k, .int .i64 k⟩ :=
  semOf_eq (args := fun i : Int × Int × Int => match i with | ⟨id, many, k⟩ => [.agg [.int .i64 id, .int .i64 many, .nils, .int .i64 0, .int .i64 0, .int .i64 0, .int .i64 0, .int .i64 0, .int .i64 0, .int .i64 0, .int .i64 0, .int .i64 0, .nils, .nils, .bool false], .int .i64 k]) (id, many, k) rfl (by
    intro j h
    obtain ⟨id', many', k'⟩ := j
    obtain ⟨_, h⟩ := cons_inj h
    simp at h
    simp [h])
theorem p26 : Pure Try.prog 26 g26 := by
  refine semOf_pure fun i n h2 hpre => ?_
  obtain ⟨id, many, k⟩ := i
  have hT : Table Try.prog [(57, g57), (58, g58)] := (.cons p57 (.cons p58 .nil))
  replace hpre : 0 ≤ k := hpre
  have hk : ¬ k < 0 := by omega
  refine SatP.of_body hT hm Try.func26 s26 o26 h2 (by simp) ?_
  simp (config := {contextual := true, maxSteps := 2000000, implicitDefEqProofs := false}) [c26, go_sem, hpre, hk]
/- impl.NewMon -/
def c23 : SCode := (.seq (.reg [⟨(some 4), .alloc 56, none⟩,
   ⟨(some 5), .assign (.const (.int .i64 0)), none⟩])
(.seq (.seq (.reg [⟨(some 6), .move (.tmp 1), none⟩,
     ⟨(some 7), .call ⟨(.value (.func 45)), #[(.tmp 6), (.const (.int .i64 1)), (.const (.int .i64 5))], #[2, 2, 2]⟩, none⟩,
     ⟨(some 8), .unOp .not 4 (.tmp 7), none⟩,
     ⟨(some 9), .move (.tmp 8), none⟩,
     ⟨(some 10), .move (.tmp 0), (some (9, false))⟩,
     ⟨(some 11), .move (.tmp 1), (some (9, false))⟩,
     ⟨(some 12), .binOp .sub 2 (.tmp 11) (.const (.int .i64 1)) 2, (some (9, false))⟩,
     ⟨(some 13), .call ⟨(.value (.func 45)), #[(.tmp 10), (.const (.int .i64 0)), (.tmp 12)], #[2, 2, 2]⟩, (some (9, false))⟩,
     ⟨(some 14), .unOp .not 4 (.tmp 13), (some (9, false))⟩,
     ⟨(some 15), .pick (.tmp 9) (.const (.bool true)) (.tmp 14), none⟩])
  (.cond (.tmp 15) (.seq (.reg [⟨(some 16), .build 56 #[], none⟩,
       ⟨none, .store 56 (.tmp 4) (.tmp 16), none⟩,
       ⟨(some 5), .assign (.const (.int .i64 2)), none⟩])
    .ret)
   .skip))
 (.seq (.reg [⟨(some 17), .move (.tmp 0), none⟩,
     ⟨(some 18), .move (.tmp 1), none⟩,
     ⟨(some 19), .build 56 #[(0, (.tmp 17)), (1, (.tmp 18))], none⟩,
     ⟨none, .store 56 (.tmp 4) (.tmp 19), none⟩,
     ⟨(some 5), .assign (.const (.int .i64 0)), none⟩])
  .ret)))
theorem s23 : slimF Try.f23 = some (c23, [.c 4 56, .t 5], 20) := by kernel_rfl
theorem o23 : okF [(45, g45)] Try.f23 = true := by kernel_rfl
noncomputable def g23 : Fsem := sem2 (En.int .i64) (En.int .i64) (fun id many => True) (fun n id many => .tup [.agg [.int .i64 (bif (btw many 1 5 && btw id 0 (IntKind.i64.wrap (many - 1))) then id else 0), .int .i64 (bif (btw many 1 5 && btw id 0 (IntKind.i64.wrap (many - 1))) then many else 0), .nils, .int .i64 0, .int .i64 0, .int .i64 0, .int .i64 0, .int .i64 0, .int .i64 0, .int .i64 0, .int .i64 0, .int .i64 0, .nils, .nils, .bool false], .int .i64 (bif (btw many 1 5 && btw id 0 (IntKind.i64.wrap (many - 1))) then 0 else 2)])
@[go_sem] theorem g23_eq {n : Nat} {id : Int} {many : Int} : g23 n [.int .i64 id, .int .i64 many] = ⟨True, .tup [.agg [.int .i64 (bif (btw many 1 5 && btw id 0 (IntKind.i64.wrap (many - 1))) then id else 0), .int .i64 (bif (btw many 1 5 && btw id 0 (IntKind.i64.wrap (many - 1))) then many else 0), .nils, .int .i64 0, .int .i64 0, .int .i64 0, .int .i64 0, .int .i64 0, .int .i64 0, .int .i64 0, .int .i64 0, .int .i64 0, .nils, .nils, .bool false], .int .i64 (bif (btw many 1 5 && btw id 0 (IntKind.i64.wrap (many - 1))) then 0 else 2)]⟩ := sem2_eq (τ := 0) (τ' := 0) (E := (En.int .i64)) (F := (En.int .i64))
theorem p23 : Pure Try.prog 23 g23 := by
  refine sem2_pure fun τ τ' id many n h2 hpre => ?_
  have hT : Table Try.prog [(45, g45)] := (.cons p45 .nil)
  have hn0 : n ≠ 0 := by omega
  refine SatP.of_body hT hm Try.func23 s23 o23 h2 (by simp) ?_
  cases h1 : btw many 1 5 <;> cases h3 : btw id 0 (IntKind.i64.wrap (many - 1)) <;> simp (config := {contextual := true, maxSteps := 2000000, implicitDefEqProofs := false}) [c23, go_sem, h1, h3]
/- spec.NewMon -/
def c22 : SCode := (.seq (.reg [⟨(some 4), .alloc 56, none⟩,
   ⟨(some 5), .assign (.const (.int .i64 0)), none⟩])
(.seq (.seq (.reg [⟨(some 6), .move (.tmp 1), none⟩,
     ⟨(some 7), .call ⟨(.value (.func 43)), #[(.tmp 6), (.const (.int .i64 1)), (.const (.int .i64 5))], #[2, 2, 2]⟩, none⟩,
     ⟨(some 8), .unOp .not 4 (.tmp 7), none⟩,
     ⟨(some 9), .move (.tmp 8), none⟩,
     ⟨(some 10), .move (.tmp 0), (some (9, false))⟩,
     ⟨(some 11), .move (.tmp 1), (some (9, false))⟩,
     ⟨(some 12), .binOp .sub 2 (.tmp 11) (.const (.int .i64 1)) 2, (some (9, false))⟩,
     ⟨(some 13), .call ⟨(.value (.func 43)), #[(.tmp 10), (.const (.int .i64 0)), (.tmp 12)], #[2, 2, 2]⟩, (some (9, false))⟩,
     ⟨(some 14), .unOp .not 4 (.tmp 13), (some (9, false))⟩,
     ⟨(some 15), .pick (.tmp 9) (.const (.bool true)) (.tmp 14), none⟩])
  (.cond (.tmp 15) (.seq (.reg [⟨(some 16), .build 56 #[], none⟩,
       ⟨none, .store 56 (.tmp 4) (.tmp 16), none⟩,
       ⟨(some 5), .assign (.const (.int .i64 2)), none⟩])
    .ret)
   .skip))
 (.seq (.reg [⟨(some 17), .move (.tmp 0), none⟩,
     ⟨(some 18), .move (.tmp 1), none⟩,
     ⟨(some 19), .build 56 #[(0, (.tmp 17)), (1, (.tmp 18))], none⟩,
     ⟨none, .store 56 (.tmp 4) (.tmp 19), none⟩,
     ⟨(some 5), .assign (.const (.int .i64 0)), none⟩])
  .ret)))
theorem s22 : slimF Try.f22 = some (c22, [.c 4 56, .t 5], 20) := by kernel_rfl
theorem o22 : okF [(43, g43)] Try.f22 = true := by kernel_rfl
noncomputable def g22 : Fsem := sem2 (En.int .i64) (En.int .i64) (fun id many => True) (fun n id many => .tup [.agg [.int .i64 (bif (btw many 1 5 && btw id 0 (IntKind.i64.wrap (many - 1))) then id else 0), .int .i64 (bif (btw many 1 5 && btw id 0 (IntKind.i64.wrap (many - 1))) then many else 0), .nils, .int .i64 0, .int .i64 0, .int .i64 0, .int .i64 0, .int .i64 0, .int .i64 0, .int .i64 0, .int .i64 0, .int .i64 0, .nils, .nils, .bool false], .int .i64 (bif (btw many 1 5 && btw id 0 (IntKind.i64.wrap (many - 1))) then 0 else 2)])
@[go_sem] theorem g22_eq {n : Nat} {id : Int} {many : Int} : g22 n [.int .i64 id, .int .i64 many] = ⟨True, .tup [.agg [.int .i64 (bif (btw many 1 5 && btw id 0 (IntKind.i64.wrap (many - 1))) then id else 0), .int .i64 (bif (btw many 1 5 && btw id 0 (IntKind.i64.wrap (many - 1))) then many else 0), .nils, .int .i64 0, .int .i64 0, .int .i64 0, .int .i64 0, .int .i64 0, .int .i64 0, .int .i64 0, .int .i64 0, .int .i64 0, .nils, .nils, .bool false], .int .i64 (bif (btw many 1 5 && btw id 0 (IntKind.i64.wrap (many - 1))) then 0 else 2)]⟩ := sem2_eq (τ := 0) (τ' := 0) (E := (En.int .i64)) (F := (En.int .i64))
theorem p22 : Pure Try.prog 22 g22 := by
  refine sem2_pure fun τ τ' id many n h2 hpre => ?_
  have hT : Table Try.prog [(43, g43)] := (.cons p43 .nil)
  have hn0 : n ≠ 0 := by omega
  refine SatP.of_body hT hm Try.func22 s22 o22 h2 (by simp) ?_
  cases h1 : btw many 1 5 <;> cases h3 : btw id 0 (IntKind.i64.wrap (many - 1)) <;> simp (config := {contextual := true, maxSteps := 2000000, implicitDefEqProofs := false}) [c22, go_sem, h1, h3]
@[go_sem] theorem g24_nil {n : Nat} {a b c d : Int} : g24 n [.agg [.int .i64 a, .int .i64 b, .sl 0 9 [], .int .i64 0, .int .i64 0, .int .i64 0, .int .i64 0, .int .i64 0, .int .i64 0, .int .i64 0, .int .i64 0, .int .i64 0, .sl 0 1 [], .sl 0 1 [], .bool false], .agg [.int .i64 c, .int .i64 d, .sl 0 9 [], .int .i64 0, .int .i64 0, .int .i64 0, .int .i64 0, .int .i64 0, .int .i64 0, .int .i64 0, .int .i64 0, .int .i64 0, .sl 0 1 [], .sl 0 1 [], .bool false]] = ⟨True, .bool (eqB (⟨a, b, [], ⟨0, ⟨0, 0⟩, ⟨0, 0, 0, 0⟩, ⟨0, 0⟩, [], [], false⟩⟩ : Mon) ⟨c, d, [], ⟨0, ⟨0, 0⟩, ⟨0, 0, 0, 0⟩, ⟨0, 0⟩, [], [], false⟩⟩)⟩ := g24_eq (τ := 0) (τ' := 0) (x := ⟨a, b, [], ⟨0, ⟨0, 0⟩, ⟨0, 0, 0, 0⟩, ⟨0, 0⟩, [], [], false⟩⟩) (y := ⟨c, d, [], ⟨0, ⟨0, 0⟩, ⟨0, 0, 0, 0⟩, ⟨0, 0⟩, [], [], false⟩⟩)
/- laws.FnExactNewMon -/
def c6 : SCode := (.seq (.reg [⟨(some 4), .assign (.const (.bool false)), none⟩])
(.seq (.reg [⟨(some 14), .move (.tmp 0), none⟩,
    ⟨(some 15), .move (.tmp 1), none⟩,
    ⟨(some 16), .call ⟨(.value (.func 22)), #[(.tmp 14), (.tmp 15)], #[2, 2]⟩, none⟩,
    ⟨(some 13), .move (.tmp 16), none⟩,
    ⟨(some 17), .extract (.tmp 13) 0, none⟩,
    ⟨(some 18), .extract (.tmp 13) 1, none⟩,
    ⟨(some 5), .alloc 56, none⟩,
    ⟨none, .store 56 (.tmp 5) (.tmp 17), none⟩,
    ⟨(some 6), .assign (.tmp 18), none⟩])
 (.seq (.reg [⟨(some 20), .move (.tmp 0), none⟩,
     ⟨(some 21), .move (.tmp 1), none⟩,
     ⟨(some 22), .call ⟨(.value (.func 23)), #[(.tmp 20), (.tmp 21)], #[2, 2]⟩, none⟩,
     ⟨(some 19), .move (.tmp 22), none⟩,
     ⟨(some 23), .extract (.tmp 19) 0, none⟩,
     ⟨(some 24), .extract (.tmp 19) 1, none⟩,
     ⟨(some 7), .alloc 56, none⟩,
     ⟨none, .store 56 (.tmp 7) (.tmp 23), none⟩,
     ⟨(some 8), .assign (.tmp 24), none⟩])
  (.seq (.seq (.reg [⟨(some 25), .load 56 (.tmp 7), none⟩,
       ⟨(some 26), .load 56 (.tmp 5), none⟩,
       ⟨(some 27), .call ⟨(.value (.func 24)), #[(.tmp 25), (.tmp 26)], #[56, 56]⟩, none⟩,
       ⟨(some 28), .unOp .not 4 (.tmp 27), none⟩,
       ⟨(some 29), .move (.tmp 28), none⟩,
       ⟨(some 30), .move (.tmp 8), (some (29, false))⟩,
       ⟨(some 31), .move (.tmp 6), (some (29, false))⟩,
       ⟨(some 32), .binOp .neq 2 (.tmp 30) (.tmp 31) 2, (some (29, false))⟩,
       ⟨(some 33), .pick (.tmp 29) (.const (.bool true)) (.tmp 32), none⟩])
    (.cond (.tmp 33) (.seq (.reg [⟨(some 4), .assign (.const (.bool false)), none⟩])
      .ret)
     .skip))
   (.seq (.reg [⟨(some 9), .assign (.const (.int .i64 1)), none⟩])
    (.seq (.reg [⟨(some 34), .load 56 (.tmp 7), none⟩,
        ⟨(some 35), .move (.tmp 9), none⟩,
        ⟨(some 36), .call ⟨(.value (.func 25)), #[(.tmp 34), (.tmp 35)], #[56, 3]⟩, none⟩,
        ⟨(some 9), .assign (.tmp 36), none⟩])
     (.seq (.reg [⟨(some 10), .assign (.const (.int .i64 1)), none⟩])
      (.seq (.reg [⟨(some 37), .load 56 (.tmp 7), none⟩,
          ⟨(some 38), .move (.tmp 10), none⟩,
          ⟨(some 39), .call ⟨(.value (.func 26)), #[(.tmp 37), (.tmp 38)], #[56, 3]⟩, none⟩,
          ⟨(some 10), .assign (.tmp 39), none⟩])
       (.seq (.seq (.reg [⟨(some 40), .move (.tmp 10), none⟩,
            ⟨(some 41), .binOp .lss 3 (.tmp 40) (.const (.int .i64 0)) 3, none⟩])
         (.cond (.tmp 41) (.seq (.reg [⟨(some 4), .assign (.const (.bool false)), none⟩])
           .ret)
          .skip))
        (.seq (.seq (.reg [⟨(some 42), .move (.tmp 10), none⟩,
             ⟨(some 43), .move (.tmp 9), none⟩,
             ⟨(some 44), .binOp .neq 3 (.tmp 42) (.tmp 43) 3, none⟩])
          (.cond (.tmp 44) (.seq (.reg [⟨(some 4), .assign (.const (.bool false)), none⟩])
            .ret)
           .skip))
         (.seq (.reg [⟨(some 46), .move (.tmp 0), none⟩,
             ⟨(some 47), .move (.tmp 1), none⟩,
             ⟨(some 48), .call ⟨(.value (.func 23)), #[(.tmp 46), (.tmp 47)], #[2, 2]⟩, none⟩,
             ⟨(some 45), .move (.tmp 48), none⟩,
             ⟨(some 49), .extract (.tmp 45) 0, none⟩,
             ⟨(some 50), .extract (.tmp 45) 1, none⟩,
             ⟨(some 11), .alloc 56, none⟩,
             ⟨none, .store 56 (.tmp 11) (.tmp 49), none⟩,
             ⟨(some 12), .assign (.tmp 50), none⟩])
          (.seq (.seq (.reg [⟨(some 51), .load 56 (.tmp 11), none⟩,
               ⟨(some 52), .load 56 (.tmp 5), none⟩,
               ⟨(some 53), .call ⟨(.value (.func 24)), #[(.tmp 51), (.tmp 52)], #[56, 56]⟩, none⟩,
               ⟨(some 54), .unOp .not 4 (.tmp 53), none⟩,
               ⟨(some 55), .move (.tmp 54), none⟩,
               ⟨(some 56), .move (.tmp 12), (some (55, false))⟩,
               ⟨(some 57), .move (.tmp 6), (some (55, false))⟩,
               ⟨(some 58), .binOp .neq 2 (.tmp 56) (.tmp 57) 2, (some (55, false))⟩,
               ⟨(some 59), .pick (.tmp 55) (.const (.bool true)) (.tmp 58), none⟩])
            (.cond (.tmp 59) (.seq (.reg [⟨(some 4), .assign (.const (.bool false)), none⟩])
              .ret)
             .skip))
           (.seq (.reg [⟨(some 10), .assign (.const (.int .i64 1)), none⟩])
            (.seq (.reg [⟨(some 60), .load 56 (.tmp 7), none⟩,
                ⟨(some 61), .move (.tmp 10), none⟩,
                ⟨(some 62), .call ⟨(.value (.func 26)), #[(.tmp 60), (.tmp 61)], #[56, 3]⟩, none⟩,
                ⟨(some 10), .assign (.tmp 62), none⟩])
             (.seq (.seq (.reg [⟨(some 63), .move (.tmp 10), none⟩,
                  ⟨(some 64), .binOp .lss 3 (.tmp 63) (.const (.int .i64 0)) 3, none⟩])
               (.cond (.tmp 64) (.seq (.reg [⟨(some 4), .assign (.const (.bool false)), none⟩])
                 .ret)
                .skip))
              (.seq (.seq (.reg [⟨(some 65), .move (.tmp 10), none⟩,
                   ⟨(some 66), .move (.tmp 9), none⟩,
                   ⟨(some 67), .binOp .neq 3 (.tmp 65) (.tmp 66) 3, none⟩])
                (.cond (.tmp 67) (.seq (.reg [⟨(some 4), .assign (.const (.bool false)), none⟩])
                  .ret)
                 .skip))
               (.seq (.reg [⟨(some 4), .assign (.const (.bool true)), none⟩])
                .ret)))))))))))))))))
theorem s6 : slimF Try.f6 = some (c6, [.t 4], 68) := by kernel_rfl
theorem o6 : okF [(22, g22), (23, g23), (24, (nilw [.a [none, none, some 9, none, none, none, none, none, none, none, none, none, some 1, some 1, none], .a [none, none, some 9, none, none, none, none, none, none, none, none, none, some 1, some 1, none]] g24)), (25, g25), (26, g26)] Try.f6 = true := by kernel_rfl
noncomputable def g6 : Fsem := sem2 (En.int .i64) (En.int .i64) (fun id many => True) (fun n id many => .bool true)
@[go_sem] theorem g6_eq {n : Nat} {id : Int} {many : Int} : g6 n [.int .i64 id, .int .i64 many] = ⟨True, .bool true⟩ := sem2_eq (τ := 0) (τ' := 0) (E := (En.int .i64)) (F := (En.int .i64))
theorem p6 : Pure Try.prog 6 g6 := by
  refine sem2_pure fun τ τ' id many n h2 hpre => ?_
  have hT : Table Try.prog [(22, g22), (23, g23), (24, (nilw [.a [none, none, some 9, none, none, none, none, none, none, none, none, none, some 1, some 1, none], .a [none, none, some 9, none, none, none, none, none, none, none, none, none, some 1, some 1, none]] g24)), (25, g25), (26, g26)] := (.cons p22 (.cons p23 (.cons (nilw_pure _ p24) (.cons p25 (.cons p26 .nil)))))
  have hn0 : n ≠ 0 := by omega
  refine SatP.of_body hT hm Try.func6 s6 o6 h2 (by simp) ?_
  have hself : ∀ {α : Type} (x : α), eqB x x = true := fun x => eqB_iff.2 rfl
  simp (config := {contextual := true, maxSteps := 2000000, implicitDefEqProofs := false}) [c6, go_sem, hself]
theorem sat_FnExactNewMon (x0 : Int) (x1 : Int) (_ : (Lit.int .i64 x0).wf = true) (_ : (Lit.int .i64 x1).wf = true) : SatM Try.prog 2 6 [] [(En.int .i64).av 1 x0, (En.int .i64).av 1 x1] [] (.bool true) := by
  have h := p6 2 [(En.int .i64).av 1 x0, (En.int .i64).av 1 x1] (by omega)
  have he : g6 2 [(En.int .i64).av 1 x0, (En.int .i64).av 1 x1] = ⟨True, .bool true⟩ := g6_eq
  rw [he] at h
  exact h trivial
end Go.Ve
