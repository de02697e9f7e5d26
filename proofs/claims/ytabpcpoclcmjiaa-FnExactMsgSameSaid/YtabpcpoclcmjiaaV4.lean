/- Comparisons of the reference: states. No condition. -/
import Derived.Test.YtabpcpoclcmjiaaV3
namespace Go.Ve
open Go.Proofs Go.RowKit
set_option linter.unusedVariables false
set_option linter.unusedSimpArgs false
set_option maxRecDepth 10000
set_option maxHeartbeats 4000000
/- spec.l17Same -/
def c47 : SCode := (.seq (.reg [⟨(some 2), .box 32 (.tmp 0), none⟩,
   ⟨(some 3), .box 32 (.tmp 1), none⟩,
   ⟨(some 4), .assign (.const (.bool false)), none⟩])
(.seq (.seq (.reg [⟨(some 9), .fieldAddr 32 (.tmp 2) 0, none⟩,
     ⟨(some 10), .load 24 (.tmp 9), none⟩,
     ⟨(some 11), .fieldAddr 32 (.tmp 3) 0, none⟩,
     ⟨(some 12), .load 24 (.tmp 11), none⟩,
     ⟨(some 13), .binOp .neq 24 (.tmp 10) (.tmp 12) 24, none⟩,
     ⟨(some 14), .move (.tmp 13), none⟩,
     ⟨(some 15), .fieldAddr 32 (.tmp 2) 1, (some (14, false))⟩,
     ⟨(some 16), .load 2 (.tmp 15), (some (14, false))⟩,
     ⟨(some 17), .fieldAddr 32 (.tmp 3) 1, (some (14, false))⟩,
     ⟨(some 18), .load 2 (.tmp 17), (some (14, false))⟩,
     ⟨(some 19), .binOp .neq 2 (.tmp 16) (.tmp 18) 2, (some (14, false))⟩,
     ⟨(some 20), .pick (.tmp 14) (.const (.bool true)) (.tmp 19), none⟩,
     ⟨(some 21), .move (.tmp 20), none⟩,
     ⟨(some 22), .fieldAddr 32 (.tmp 2) 2, (some (21, false))⟩,
     ⟨(some 23), .load 2 (.tmp 22), (some (21, false))⟩,
     ⟨(some 24), .fieldAddr 32 (.tmp 3) 2, (some (21, false))⟩,
     ⟨(some 25), .load 2 (.tmp 24), (some (21, false))⟩,
     ⟨(some 26), .binOp .neq 2 (.tmp 23) (.tmp 25) 2, (some (21, false))⟩,
     ⟨(some 27), .pick (.tmp 21) (.const (.bool true)) (.tmp 26), none⟩,
     ⟨(some 28), .move (.tmp 27), none⟩,
     ⟨(some 29), .fieldAddr 32 (.tmp 2) 3, (some (28, false))⟩,
     ⟨(some 30), .load 26 (.tmp 29), (some (28, false))⟩,
     ⟨(some 31), .fieldAddr 32 (.tmp 3) 3, (some (28, false))⟩,
     ⟨(some 32), .load 26 (.tmp 31), (some (28, false))⟩,
     ⟨(some 33), .binOp .neq 26 (.tmp 30) (.tmp 32) 26, (some (28, false))⟩,
     ⟨(some 34), .pick (.tmp 28) (.const (.bool true)) (.tmp 33), none⟩,
     ⟨(some 35), .move (.tmp 34), none⟩,
     ⟨(some 36), .fieldAddr 32 (.tmp 2) 7, (some (35, false))⟩,
     ⟨(some 37), .load 26 (.tmp 36), (some (35, false))⟩,
     ⟨(some 38), .fieldAddr 32 (.tmp 3) 7, (some (35, false))⟩,
     ⟨(some 39), .load 26 (.tmp 38), (some (35, false))⟩,
     ⟨(some 40), .binOp .neq 26 (.tmp 37) (.tmp 39) 26, (some (35, false))⟩,
     ⟨(some 41), .pick (.tmp 35) (.const (.bool true)) (.tmp 40), none⟩,
     ⟨(some 42), .move (.tmp 41), none⟩,
     ⟨(some 43), .fieldAddr 32 (.tmp 2) 4, (some (42, false))⟩,
     ⟨(some 44), .load 27 (.tmp 43), (some (42, false))⟩,
     ⟨(some 45), .call ⟨(.builtin .len), #[(.tmp 44)], #[27]⟩, (some (42, false))⟩,
     ⟨(some 46), .fieldAddr 32 (.tmp 3) 4, (some (42, false))⟩,
     ⟨(some 47), .load 27 (.tmp 46), (some (42, false))⟩,
     ⟨(some 48), .call ⟨(.builtin .len), #[(.tmp 47)], #[27]⟩, (some (42, false))⟩,
     ⟨(some 49), .binOp .neq 3 (.tmp 45) (.tmp 48) 3, (some (42, false))⟩,
     ⟨(some 50), .pick (.tmp 42) (.const (.bool true)) (.tmp 49), none⟩,
     ⟨(some 51), .move (.tmp 50), none⟩,
     ⟨(some 52), .fieldAddr 32 (.tmp 2) 5, (some (51, false))⟩,
     ⟨(some 53), .load 28 (.tmp 52), (some (51, false))⟩,
     ⟨(some 54), .call ⟨(.builtin .len), #[(.tmp 53)], #[28]⟩, (some (51, false))⟩,
     ⟨(some 55), .fieldAddr 32 (.tmp 3) 5, (some (51, false))⟩,
     ⟨(some 56), .load 28 (.tmp 55), (some (51, false))⟩,
     ⟨(some 57), .call ⟨(.builtin .len), #[(.tmp 56)], #[28]⟩, (some (51, false))⟩,
     ⟨(some 58), .binOp .neq 3 (.tmp 54) (.tmp 57) 3, (some (51, false))⟩,
     ⟨(some 59), .pick (.tmp 51) (.const (.bool true)) (.tmp 58), none⟩,
     ⟨(some 60), .move (.tmp 59), none⟩,
     ⟨(some 61), .fieldAddr 32 (.tmp 2) 6, (some (60, false))⟩,
     ⟨(some 62), .load 29 (.tmp 61), (some (60, false))⟩,
     ⟨(some 63), .call ⟨(.builtin .len), #[(.tmp 62)], #[29]⟩, (some (60, false))⟩,
     ⟨(some 64), .fieldAddr 32 (.tmp 3) 6, (some (60, false))⟩,
     ⟨(some 65), .load 29 (.tmp 64), (some (60, false))⟩,
     ⟨(some 66), .call ⟨(.builtin .len), #[(.tmp 65)], #[29]⟩, (some (60, false))⟩,
     ⟨(some 67), .binOp .neq 3 (.tmp 63) (.tmp 66) 3, (some (60, false))⟩,
     ⟨(some 68), .pick (.tmp 60) (.const (.bool true)) (.tmp 67), none⟩,
     ⟨(some 69), .move (.tmp 68), none⟩,
     ⟨(some 70), .fieldAddr 32 (.tmp 2) 8, (some (69, false))⟩,
     ⟨(some 71), .load 30 (.tmp 70), (some (69, false))⟩,
     ⟨(some 72), .call ⟨(.builtin .len), #[(.tmp 71)], #[30]⟩, (some (69, false))⟩,
     ⟨(some 73), .fieldAddr 32 (.tmp 3) 8, (some (69, false))⟩,
     ⟨(some 74), .load 30 (.tmp 73), (some (69, false))⟩,
     ⟨(some 75), .call ⟨(.builtin .len), #[(.tmp 74)], #[30]⟩, (some (69, false))⟩,
     ⟨(some 76), .binOp .neq 3 (.tmp 72) (.tmp 75) 3, (some (69, false))⟩,
     ⟨(some 77), .pick (.tmp 69) (.const (.bool true)) (.tmp 76), none⟩])
  (.cond (.tmp 77) (.seq (.reg [⟨(some 4), .assign (.const (.bool false)), none⟩])
    .ret)
   .skip))
 (.seq (.seq (.reg [⟨(some 5), .assign (.const (.int .i64 0)), none⟩])
   (.block 0 (.loop (.seq (.seq (.reg [⟨(some 78), .move (.tmp 5), none⟩,
          ⟨(some 79), .fieldAddr 32 (.tmp 2) 4, none⟩,
          ⟨(some 80), .load 27 (.tmp 79), none⟩,
          ⟨(some 81), .call ⟨(.builtin .len), #[(.tmp 80)], #[27]⟩, none⟩,
          ⟨(some 82), .binOp .lss 3 (.tmp 78) (.tmp 81) 3, none⟩])
       (.cond (.tmp 82) .skip
        (.exit 0)))
      (.seq (.block 1 (.seq (.draw [⟨(some 85), .fieldAddr 32 (.tmp 2) 4, none⟩,
            ⟨(some 86), .load 27 (.tmp 85), none⟩,
            ⟨(some 87), .move (.tmp 5), none⟩,
            ⟨(some 88), .indexAddr 27 (.tmp 86) (.tmp 87), none⟩,
            ⟨(some 89), .load 108 (.tmp 88), none⟩,
            ⟨(some 90), .fieldAddr 32 (.tmp 3) 4, none⟩,
            ⟨(some 91), .load 27 (.tmp 90), none⟩,
            ⟨(some 92), .move (.tmp 5), none⟩,
            ⟨(some 93), .indexAddr 27 (.tmp 91) (.tmp 92), none⟩,
            ⟨(some 94), .load 108 (.tmp 93), none⟩,
            ⟨(some 95), .binOp .neq 108 (.tmp 89) (.tmp 94) 108, none⟩] [[], [0], [], [0, 1, 2], [0, 1, 2, 3], [], [5], [], [5, 6, 7], [5, 6, 7, 8], [0, 1, 2, 3, 4, 5, 6, 7, 8, 9]])
         (.cond (.tmp 95) (.seq (.reg [⟨(some 4), .assign (.const (.bool false)), none⟩])
           .ret)
          .skip)))
       (.reg [⟨(some 83), .move (.tmp 5), none⟩,
          ⟨(some 84), .binOp .add 3 (.tmp 83) (.const (.int .i64 1)) 3, none⟩,
          ⟨(some 5), .assign (.tmp 84), none⟩]))))))
  (.seq (.seq (.reg [⟨(some 6), .assign (.const (.int .i64 0)), none⟩])
    (.block 2 (.loop (.seq (.seq (.reg [⟨(some 96), .move (.tmp 6), none⟩,
           ⟨(some 97), .fieldAddr 32 (.tmp 2) 5, none⟩,
           ⟨(some 98), .load 28 (.tmp 97), none⟩,
           ⟨(some 99), .call ⟨(.builtin .len), #[(.tmp 98)], #[28]⟩, none⟩,
           ⟨(some 100), .binOp .lss 3 (.tmp 96) (.tmp 99) 3, none⟩])
        (.cond (.tmp 100) .skip
         (.exit 2)))
       (.seq (.block 3 (.seq (.draw [⟨(some 103), .fieldAddr 32 (.tmp 2) 5, none⟩,
             ⟨(some 104), .load 28 (.tmp 103), none⟩,
             ⟨(some 105), .move (.tmp 6), none⟩,
             ⟨(some 106), .indexAddr 28 (.tmp 104) (.tmp 105), none⟩,
             ⟨(some 107), .load 111 (.tmp 106), none⟩,
             ⟨(some 108), .fieldAddr 32 (.tmp 3) 5, none⟩,
             ⟨(some 109), .load 28 (.tmp 108), none⟩,
             ⟨(some 110), .move (.tmp 6), none⟩,
             ⟨(some 111), .indexAddr 28 (.tmp 109) (.tmp 110), none⟩,
             ⟨(some 112), .load 111 (.tmp 111), none⟩,
             ⟨(some 113), .binOp .neq 111 (.tmp 107) (.tmp 112) 111, none⟩] [[], [0], [], [0, 1, 2], [0, 1, 2, 3], [], [5], [], [5, 6, 7], [5, 6, 7, 8], [0, 1, 2, 3, 4, 5, 6, 7, 8, 9]])
          (.cond (.tmp 113) (.seq (.reg [⟨(some 4), .assign (.const (.bool false)), none⟩])
            .ret)
           .skip)))
        (.reg [⟨(some 101), .move (.tmp 6), none⟩,
           ⟨(some 102), .binOp .add 3 (.tmp 101) (.const (.int .i64 1)) 3, none⟩,
           ⟨(some 6), .assign (.tmp 102), none⟩]))))))
   (.seq (.seq (.reg [⟨(some 7), .assign (.const (.int .i64 0)), none⟩])
     (.block 4 (.loop (.seq (.seq (.reg [⟨(some 114), .move (.tmp 7), none⟩,
            ⟨(some 115), .fieldAddr 32 (.tmp 2) 6, none⟩,
            ⟨(some 116), .load 29 (.tmp 115), none⟩,
            ⟨(some 117), .call ⟨(.builtin .len), #[(.tmp 116)], #[29]⟩, none⟩,
            ⟨(some 118), .binOp .lss 3 (.tmp 114) (.tmp 117) 3, none⟩])
         (.cond (.tmp 118) .skip
          (.exit 4)))
        (.seq (.block 5 (.seq (.draw [⟨(some 121), .fieldAddr 32 (.tmp 2) 6, none⟩,
              ⟨(some 122), .load 29 (.tmp 121), none⟩,
              ⟨(some 123), .move (.tmp 7), none⟩,
              ⟨(some 124), .indexAddr 29 (.tmp 122) (.tmp 123), none⟩,
              ⟨(some 125), .load 69 (.tmp 124), none⟩,
              ⟨(some 126), .fieldAddr 32 (.tmp 3) 6, none⟩,
              ⟨(some 127), .load 29 (.tmp 126), none⟩,
              ⟨(some 128), .move (.tmp 7), none⟩,
              ⟨(some 129), .indexAddr 29 (.tmp 127) (.tmp 128), none⟩,
              ⟨(some 130), .load 69 (.tmp 129), none⟩,
              ⟨(some 131), .binOp .neq 69 (.tmp 125) (.tmp 130) 69, none⟩] [[], [0], [], [0, 1, 2], [0, 1, 2, 3], [], [5], [], [5, 6, 7], [5, 6, 7, 8], [0, 1, 2, 3, 4, 5, 6, 7, 8, 9]])
           (.cond (.tmp 131) (.seq (.reg [⟨(some 4), .assign (.const (.bool false)), none⟩])
             .ret)
            .skip)))
         (.reg [⟨(some 119), .move (.tmp 7), none⟩,
            ⟨(some 120), .binOp .add 3 (.tmp 119) (.const (.int .i64 1)) 3, none⟩,
            ⟨(some 7), .assign (.tmp 120), none⟩]))))))
    (.seq (.seq (.reg [⟨(some 8), .assign (.const (.int .i64 0)), none⟩])
      (.block 6 (.loop (.seq (.seq (.reg [⟨(some 132), .move (.tmp 8), none⟩,
             ⟨(some 133), .fieldAddr 32 (.tmp 2) 8, none⟩,
             ⟨(some 134), .load 30 (.tmp 133), none⟩,
             ⟨(some 135), .call ⟨(.builtin .len), #[(.tmp 134)], #[30]⟩, none⟩,
             ⟨(some 136), .binOp .lss 3 (.tmp 132) (.tmp 135) 3, none⟩])
          (.cond (.tmp 136) .skip
           (.exit 6)))
         (.seq (.block 7 (.seq (.draw [⟨(some 139), .fieldAddr 32 (.tmp 2) 8, none⟩,
               ⟨(some 140), .load 30 (.tmp 139), none⟩,
               ⟨(some 141), .move (.tmp 8), none⟩,
               ⟨(some 142), .indexAddr 30 (.tmp 140) (.tmp 141), none⟩,
               ⟨(some 143), .load 71 (.tmp 142), none⟩,
               ⟨(some 144), .fieldAddr 32 (.tmp 3) 8, none⟩,
               ⟨(some 145), .load 30 (.tmp 144), none⟩,
               ⟨(some 146), .move (.tmp 8), none⟩,
               ⟨(some 147), .indexAddr 30 (.tmp 145) (.tmp 146), none⟩,
               ⟨(some 148), .load 71 (.tmp 147), none⟩,
               ⟨(some 149), .binOp .neq 71 (.tmp 143) (.tmp 148) 71, none⟩] [[], [0], [], [0, 1, 2], [0, 1, 2, 3], [], [5], [], [5, 6, 7], [5, 6, 7, 8], [0, 1, 2, 3, 4, 5, 6, 7, 8, 9]])
            (.cond (.tmp 149) (.seq (.reg [⟨(some 4), .assign (.const (.bool false)), none⟩])
              .ret)
             .skip)))
          (.reg [⟨(some 137), .move (.tmp 8), none⟩,
             ⟨(some 138), .binOp .add 3 (.tmp 137) (.const (.int .i64 1)) 3, none⟩,
             ⟨(some 8), .assign (.tmp 138), none⟩]))))))
     (.seq (.reg [⟨(some 4), .assign (.const (.bool true)), none⟩])
      .ret)))))))
theorem s47 : slimF Try.f47 = some (c47, [.t 4], 150) := by kernel_rfl
theorem o47 : okF [] Try.f47 = true := by kernel_rfl
noncomputable def g47 : Fsem := sem2 enPgSt enPgSt (fun x0 y0 => True) (fun n x0 y0 => .bool (eqB x0 y0))
@[go_sem] theorem g47_eq {n τ τ' : Nat} {x0 : PgSt} {y0 : PgSt} : g47 n [.agg [.int .i64 x0.pg.pool, .int .i64 x0.pg.no, .int .i64 x0.seen, .int .i64 x0.started, .int .i64 x0.tail.epoch, .int .i64 x0.tail.seq, .sl τ 5 (x0.base.map (enHead.av τ)), .sl τ 4 (x0.clients.map (enLst.av τ)), .sl τ 10 (x0.log.map (enEntry.av τ)), .int .i64 x0.firm.epoch, .int .i64 x0.firm.seq, .sl τ 6 (x0.chunks.map (enChunk.av τ))], .agg [.int .i64 y0.pg.pool, .int .i64 y0.pg.no, .int .i64 y0.seen, .int .i64 y0.started, .int .i64 y0.tail.epoch, .int .i64 y0.tail.seq, .sl τ' 5 (y0.base.map (enHead.av τ')), .sl τ' 4 (y0.clients.map (enLst.av τ')), .sl τ' 10 (y0.log.map (enEntry.av τ')), .int .i64 y0.firm.epoch, .int .i64 y0.firm.seq, .sl τ' 6 (y0.chunks.map (enChunk.av τ'))]] = ⟨True, .bool (eqB x0 y0)⟩ := sem2_eq  (E := enPgSt) (F := enPgSt)
theorem p47 : Pure Try.prog 47 g47 := by
  refine sem2_pure fun τ τ' x0 y0 n h2 hpre => ?_
  have hT : Table Try.prog [] := .nil
  have hn0 : n ≠ 0 := by omega
  refine SatP.of_body hT hm Try.func47 s47 o47 h2 (by simp) ?_
  rw [eqB_PgSt]
  by_cases hlen0 : x0.base.length = y0.base.length
  rotate_left
  · rw [eqB_ne_len hlen0]
    simp (config := {contextual := true, maxSteps := 2000000, implicitDefEqProofs := false}) [c47, go_sem, hlen0, and_true, eqB_Pg, eqB_Ver, eqB_Req, eqB_Head, eqB_Lst, eqB_Entry, eqB_Chunk, eqB_Op] <;> grind
  by_cases hlen1 : x0.clients.length = y0.clients.length
  rotate_left
  · rw [eqB_ne_len hlen1]
    simp (config := {contextual := true, maxSteps := 2000000, implicitDefEqProofs := false}) [c47, go_sem, hlen0, hlen1, and_true, eqB_Pg, eqB_Ver, eqB_Req, eqB_Head, eqB_Lst, eqB_Entry, eqB_Chunk, eqB_Op] <;> grind
  by_cases hlen2 : x0.log.length = y0.log.length
  rotate_left
  · rw [eqB_ne_len hlen2]
    simp (config := {contextual := true, maxSteps := 2000000, implicitDefEqProofs := false}) [c47, go_sem, hlen0, hlen1, hlen2, and_true, eqB_Pg, eqB_Ver, eqB_Req, eqB_Head, eqB_Lst, eqB_Entry, eqB_Chunk, eqB_Op] <;> grind
  by_cases hlen3 : x0.chunks.length = y0.chunks.length
  rotate_left
  · rw [eqB_ne_len hlen3]
    simp (config := {contextual := true, maxSteps := 2000000, implicitDefEqProofs := false}) [c47, go_sem, hlen0, hlen1, hlen2, hlen3, and_true, eqB_Pg, eqB_Ver, eqB_Req, eqB_Head, eqB_Lst, eqB_Entry, eqB_Chunk, eqB_Op] <;> grind
  rw [eqB_zip hlen0]
  generalize hr0 : (x0.base.zip y0.base).all (fun p => eqB p.1 p.2) = r0
  rw [eqB_zip hlen1]
  generalize hr1 : (x0.clients.zip y0.clients).all (fun p => eqB p.1 p.2) = r1
  rw [eqB_zip hlen2]
  generalize hr2 : (x0.log.zip y0.log).all (fun p => eqB p.1 p.2) = r2
  rw [eqB_zip hlen3]
  generalize hr3 : (x0.chunks.zip y0.chunks).all (fun p => eqB p.1 p.2) = r3
  simp (config := {contextual := true, maxSteps := 2000000, implicitDefEqProofs := false}) [c47, go_sem, hlen0, hlen1, hlen2, hlen3, eqB_Pg, eqB_Ver]
  simp only [← hlen0, ← hlen1, ← hlen2, ← hlen3]
  refine ⟨fun h => by grind, ?_⟩
  intros
  refine VW_listK hT h2 hm (x0.base.zip y0.base) [2, 3] (fun pre post (b : Unit) => [(5, .int .i64 pre.length)]) (fun pre post (b : Unit) => (post.all fun p => eqB p.1 p.2) = r0) () ?_ ?_ ?_ ?_
  · exact hr0
  · simp [SubI, go_sem]
  · intro _ hR
    have hR0 : true = r0 := hR
    have hzl : (x0.base.zip y0.base).length = x0.base.length := by rw [List.length_zip]; omega
    simp (config := {contextual := true, maxSteps := 2000000, implicitDefEqProofs := false}) [go_sem, hzl]
    intro hL0
    refine VW_listK hT h2 hm (x0.clients.zip y0.clients) [2, 3] (fun pre post (b : Unit) => [(6, .int .i64 pre.length)]) (fun pre post (b : Unit) => (post.all fun p => eqB p.1 p.2) = r1) () ?_ ?_ ?_ ?_
    · exact hr1
    · simp [SubI, go_sem]
    · intro _ hR
      have hR0 : true = r1 := hR
      have hzl : (x0.clients.zip y0.clients).length = x0.clients.length := by rw [List.length_zip]; omega
      simp (config := {contextual := true, maxSteps := 2000000, implicitDefEqProofs := false}) [go_sem, hzl]
      intro hL1
      refine VW_listK hT h2 hm (x0.log.zip y0.log) [2, 3] (fun pre post (b : Unit) => [(7, .int .i64 pre.length)]) (fun pre post (b : Unit) => (post.all fun p => eqB p.1 p.2) = r2) () ?_ ?_ ?_ ?_
      · exact hr2
      · simp [SubI, go_sem]
      · intro _ hR
        have hR0 : true = r2 := hR
        have hzl : (x0.log.zip y0.log).length = x0.log.length := by rw [List.length_zip]; omega
        simp (config := {contextual := true, maxSteps := 2000000, implicitDefEqProofs := false}) [go_sem, hzl]
        intro hL2
        refine VW_listK hT h2 hm (x0.chunks.zip y0.chunks) [2, 3] (fun pre post (b : Unit) => [(8, .int .i64 pre.length)]) (fun pre post (b : Unit) => (post.all fun p => eqB p.1 p.2) = r3) () ?_ ?_ ?_ ?_
        · exact hr3
        · simp [SubI, go_sem]
        · intro _ hR
          have hR0 : true = r3 := hR
          have hzl : (x0.chunks.zip y0.chunks).length = x0.chunks.length := by rw [List.length_zip]; omega
          simp (config := {contextual := true, maxSteps := 2000000, implicitDefEqProofs := false}) [go_sem, hzl]
          grind
        · rintro pre x rest _ hl hlen hR
          obtain ⟨hn1, hn2, hle1, hle2⟩ := zip_nth (f := (enChunk.av τ)) (g := (enChunk.av τ')) hlen3 hl
          have hw : x0.chunks.length ≤ maxLen → IntKind.i64.wrap ((pre.length : Int) + 1) = (pre.length : Int) + 1 := fun h => wrap_ok (by omega) (by simp only [maxLen] at h; omega)
          have h3 : (0 : Int) ≤ pre.length := by omega
          have h4 : (pre.length : Int) < (x0.chunks.length : Int) := by omega
          have h4' : (pre.length : Int) < (y0.chunks.length : Int) := by omega
          have h5 : ¬ (x0.chunks.length : Int) ≤ (pre.length : Int) := by omega
          simp only [List.all_cons] at hR
          generalize hra : (rest.all fun p => eqB p.1 p.2) = ra at hR
          simp only [eqB_Chunk] at hR
          simp (config := {contextual := true, maxSteps := 2000000, implicitDefEqProofs := false}) [go_sem, hn1, hn2, hw, h3, h4, h4', h5, SubI, hra, hra] <;> grind
      · rintro pre x rest _ hl hlen hR
        obtain ⟨hn1, hn2, hle1, hle2⟩ := zip_nth (f := (enEntry.av τ)) (g := (enEntry.av τ')) hlen2 hl
        have hw : x0.log.length ≤ maxLen → IntKind.i64.wrap ((pre.length : Int) + 1) = (pre.length : Int) + 1 := fun h => wrap_ok (by omega) (by simp only [maxLen] at h; omega)
        have h3 : (0 : Int) ≤ pre.length := by omega
        have h4 : (pre.length : Int) < (x0.log.length : Int) := by omega
        have h4' : (pre.length : Int) < (y0.log.length : Int) := by omega
        have h5 : ¬ (x0.log.length : Int) ≤ (pre.length : Int) := by omega
        simp only [List.all_cons] at hR
        generalize hra : (rest.all fun p => eqB p.1 p.2) = ra at hR
        simp only [eqB_Entry] at hR
        simp (config := {contextual := true, maxSteps := 2000000, implicitDefEqProofs := false}) [go_sem, hn1, hn2, hw, h3, h4, h4', h5, SubI, hra, hra] <;> grind
    · rintro pre x rest _ hl hlen hR
      obtain ⟨hn1, hn2, hle1, hle2⟩ := zip_nth (f := (enLst.av τ)) (g := (enLst.av τ')) hlen1 hl
      have hw : x0.clients.length ≤ maxLen → IntKind.i64.wrap ((pre.length : Int) + 1) = (pre.length : Int) + 1 := fun h => wrap_ok (by omega) (by simp only [maxLen] at h; omega)
      have h3 : (0 : Int) ≤ pre.length := by omega
      have h4 : (pre.length : Int) < (x0.clients.length : Int) := by omega
      have h4' : (pre.length : Int) < (y0.clients.length : Int) := by omega
      have h5 : ¬ (x0.clients.length : Int) ≤ (pre.length : Int) := by omega
      simp only [List.all_cons] at hR
      generalize hra : (rest.all fun p => eqB p.1 p.2) = ra at hR
      simp only [eqB_Lst] at hR
      simp (config := {contextual := true, maxSteps := 2000000, implicitDefEqProofs := false}) [go_sem, hn1, hn2, hw, h3, h4, h4', h5, SubI, hra, hra] <;> grind
  · rintro pre x rest _ hl hlen hR
    obtain ⟨hn1, hn2, hle1, hle2⟩ := zip_nth (f := (enHead.av τ)) (g := (enHead.av τ')) hlen0 hl
    have hw : x0.base.length ≤ maxLen → IntKind.i64.wrap ((pre.length : Int) + 1) = (pre.length : Int) + 1 := fun h => wrap_ok (by omega) (by simp only [maxLen] at h; omega)
    have h3 : (0 : Int) ≤ pre.length := by omega
    have h4 : (pre.length : Int) < (x0.base.length : Int) := by omega
    have h4' : (pre.length : Int) < (y0.base.length : Int) := by omega
    have h5 : ¬ (x0.base.length : Int) ≤ (pre.length : Int) := by omega
    simp only [List.all_cons] at hR
    generalize hra : (rest.all fun p => eqB p.1 p.2) = ra at hR
    simp only [eqB_Head] at hR
    simp (config := {contextual := true, maxSteps := 2000000, implicitDefEqProofs := false}) [go_sem, hn1, hn2, hw, h3, h4, h4', h5, SubI, hra, hra] <;> grind
end Go.Ve
