/- Contracts: monitors. No condition. -/
import Derived.Test.YtmpakjgbbjkacaaV5
namespace Go.Ve
open Go.Proofs Go.RowKit
set_option linter.unusedVariables false
set_option linter.unusedSimpArgs false
set_option maxRecDepth 10000
set_option maxHeartbeats 4000000
/- impl.MonOk -/
def c30 : SCode := (.seq (.reg [⟨(some 1), .box 56 (.tmp 0), none⟩,
   ⟨(some 2), .assign (.const (.bool false)), none⟩])
(.seq (.seq (.reg [⟨(some 5), .fieldAddr 56 (.tmp 1) 1, none⟩,
     ⟨(some 6), .load 2 (.tmp 5), none⟩,
     ⟨(some 7), .call ⟨(.value (.func 45)), #[(.tmp 6), (.const (.int .i64 1)), (.const (.int .i64 5))], #[2, 2, 2]⟩, none⟩,
     ⟨(some 8), .unOp .not 4 (.tmp 7), none⟩,
     ⟨(some 9), .move (.tmp 8), none⟩,
     ⟨(some 10), .fieldAddr 56 (.tmp 1) 0, (some (9, false))⟩,
     ⟨(some 11), .load 2 (.tmp 10), (some (9, false))⟩,
     ⟨(some 12), .fieldAddr 56 (.tmp 1) 1, (some (9, false))⟩,
     ⟨(some 13), .load 2 (.tmp 12), (some (9, false))⟩,
     ⟨(some 14), .binOp .sub 2 (.tmp 13) (.const (.int .i64 1)) 2, (some (9, false))⟩,
     ⟨(some 15), .call ⟨(.value (.func 45)), #[(.tmp 11), (.const (.int .i64 0)), (.tmp 14)], #[2, 2, 2]⟩, (some (9, false))⟩,
     ⟨(some 16), .unOp .not 4 (.tmp 15), (some (9, false))⟩,
     ⟨(some 17), .pick (.tmp 9) (.const (.bool true)) (.tmp 16), none⟩,
     ⟨(some 18), .move (.tmp 17), none⟩,
     ⟨(some 19), .load 56 (.tmp 1), (some (18, false))⟩,
     ⟨(some 20), .call ⟨(.value (.func 68)), #[(.tmp 19)], #[56]⟩, (some (18, false))⟩,
     ⟨(some 21), .unOp .not 4 (.tmp 20), (some (18, false))⟩,
     ⟨(some 22), .pick (.tmp 18) (.const (.bool true)) (.tmp 21), none⟩])
  (.cond (.tmp 22) (.seq (.reg [⟨(some 2), .assign (.const (.bool false)), none⟩])
    .ret)
   .skip))
 (.seq (.seq (.reg [⟨(some 23), .fieldAddr 56 (.tmp 1) 2, none⟩,
      ⟨(some 24), .load 47 (.tmp 23), none⟩,
      ⟨(some 25), .call ⟨(.builtin .len), #[(.tmp 24)], #[47]⟩, none⟩,
      ⟨(some 26), .move (.const (.int .i64 0)), none⟩])
   (.block 0 (.loop (.seq (.reg [⟨(some 27), .binOp .lss 3 (.tmp 26) (.tmp 25) 3, none⟩])
      (.seq (.cond (.tmp 27) .skip
        (.exit 0))
       (.seq (.block 1 (.seq (.reg [⟨(some 28), .move (.tmp 26), none⟩,
             ⟨(some 29), .indexAddr 47 (.tmp 24) (.tmp 26), none⟩,
             ⟨(some 30), .load 98 (.tmp 29), none⟩,
             ⟨(some 4), .alloc 98, none⟩,
             ⟨(some 3), .assign (.tmp 28), none⟩,
             ⟨none, .store 98 (.tmp 4) (.tmp 30), none⟩])
          (.seq (.draw [⟨(some 31), .load 98 (.tmp 4), none⟩,
              ⟨(some 32), .call ⟨(.value (.func 69)), #[(.tmp 31)], #[98]⟩, none⟩,
              ⟨(some 33), .unOp .not 4 (.tmp 32), none⟩,
              ⟨(some 34), .move (.tmp 33), none⟩,
              ⟨(some 35), .move (.tmp 3), (some (34, false))⟩,
              ⟨(some 36), .binOp .gtr 3 (.tmp 35) (.const (.int .i64 0)) 3, (some (34, false))⟩,
              ⟨(some 37), .move (.tmp 36), (some (34, false))⟩,
              ⟨(some 38), .fieldAddr 98 (.tmp 4) 0, (some (37, true))⟩,
              ⟨(some 39), .load 2 (.tmp 38), (some (37, true))⟩,
              ⟨(some 40), .fieldAddr 56 (.tmp 1) 2, (some (37, true))⟩,
              ⟨(some 41), .load 47 (.tmp 40), (some (37, true))⟩,
              ⟨(some 42), .move (.tmp 3), (some (37, true))⟩,
              ⟨(some 43), .binOp .sub 3 (.tmp 42) (.const (.int .i64 1)) 3, (some (37, true))⟩,
              ⟨(some 44), .indexAddr 47 (.tmp 41) (.tmp 43), (some (37, true))⟩,
              ⟨(some 45), .fieldAddr 98 (.tmp 44) 0, (some (37, true))⟩,
              ⟨(some 46), .load 2 (.tmp 45), (some (37, true))⟩,
              ⟨(some 47), .binOp .leq 2 (.tmp 39) (.tmp 46) 2, (some (37, true))⟩,
              ⟨(some 48), .pick (.tmp 37) (.tmp 47) (.const (.bool false)), (some (34, false))⟩,
              ⟨(some 49), .pick (.tmp 34) (.const (.bool true)) (.tmp 48), none⟩] [[], [0], [0, 1], [0, 1, 2], [0, 1, 2, 3], [0, 1, 2, 3, 4], [0, 1, 2, 3, 4, 5], [0, 1, 2, 3, 4, 5, 6], [0, 1, 2, 3, 4, 5, 6, 7], [0, 1, 2, 3, 4, 5, 6], [0, 1, 2, 3, 4, 5, 6, 9], [0, 1, 2, 3, 4, 5, 6], [0, 1, 2, 3, 4, 5, 6, 11], [0, 1, 2, 3, 4, 5, 6, 9, 10, 11, 12], [0, 1, 2, 3, 4, 5, 6, 9, 10, 11, 12, 13], [0, 1, 2, 3, 4, 5, 6, 9, 10, 11, 12, 13, 14], [0, 1, 2, 3, 4, 5, 6, 7, 8, 9, 10, 11, 12, 13, 14, 15], [0, 1, 2, 3, 4, 5, 6, 7, 8, 9, 10, 11, 12, 13, 14, 15, 16], [0, 1, 2, 3, 4, 5, 6, 7, 8, 9, 10, 11, 12, 13, 14, 15, 16, 17]])
           (.cond (.tmp 49) (.seq (.reg [⟨(some 2), .assign (.const (.bool false)), none⟩])
             .ret)
            .skip))))
        (.reg [⟨(some 50), .binOp .add 3 (.tmp 26) (.const (.int .i64 1)) 3, none⟩,
           ⟨(some 26), .move (.tmp 50), none⟩])))))))
  (.seq (.reg [⟨(some 2), .assign (.const (.bool true)), none⟩])
   .ret))))
theorem s30 : slimF Try.f30 = some (c30, [.t 2], 51) := by kernel_rfl
theorem o30 : okF [(45, g45), (68, g68), (69, g69)] Try.f30 = true := by kernel_rfl
noncomputable def g30 : Fsem := sem1 enMon (fun m => True) (fun n m => .bool (monOk m))
@[go_sem] theorem g30_eq {n τ : Nat} {m : Mon} : g30 n [.agg [.int .i64 m.id, .int .i64 m.many, .sl τ 9 (m.slots.map (enSlot.av τ)), .int .i64 m.try_.epoch, .int .i64 m.try_.ballot.no, .int .i64 m.try_.ballot.by_, .int .i64 m.try_.inc.epoch, .int .i64 m.try_.inc.kind, .int .i64 m.try_.inc.a, .int .i64 m.try_.inc.b, .int .i64 m.try_.highest.no, .int .i64 m.try_.highest.by_, .sl τ 1 (m.try_.promises.map (AV.int .i64)), .sl τ 1 (m.try_.accepts.map (AV.int .i64)), .bool m.try_.decided]] = ⟨True, .bool (monOk m)⟩ := sem1_eq  (E := enMon)
theorem p30 : Pure Try.prog 30 g30 := by
  refine sem1_pure fun τ m n h2 hpre => ?_
  have hT : Table Try.prog [(45, g45), (68, g68), (69, g69)] := (.cons p45 (.cons p68 (.cons p69 .nil)))
  have hn0 : n ≠ 0 := by omega
  refine SatP.of_body hT hm Try.func30 s30 o30 h2 (by simp) ?_
  unfold monOk
  generalize hr : chk slotP none m.slots = r
  simp (config := {contextual := true, maxSteps := 2000000, implicitDefEqProofs := false}) [c30, go_sem]
  refine ⟨fun h => by grind, ?_⟩
  intro hq1 hq2 hq3 hL
  refine VW_listKe [] [1] hT h2 hm m.slots [1, 24, 25] (fun pre post (b : Unit) => [(26, .int .i64 pre.length)]) (fun pre post (b : Unit) => chk slotP pre.getLast? post = r) () ?_ ?_ ?_ ?_
  · exact hr
  · simp [SubE, SubR, go_sem]
  · intro _ hR
    have hR0 : true = r := hR
    simp (config := {contextual := true, maxSteps := 2000000, implicitDefEqProofs := false}) [go_sem]
    grind
  · rintro pre0 x rest _ hl hlen hR
    rcases List.eq_nil_or_concat pre0 with rfl | ⟨q, y, rfl⟩
    · have hln : m.slots.length = 0 + (rest.length + 1) := by rw [← hl]; simp
      have hn : nth (List.map (enSlot.av τ) m.slots) (0) = (enSlot.av τ) x := by rw [← hl]; simp [go_sem]
      have hw : m.slots.length ≤ maxLen → IntKind.i64.wrap ((0 : Int) + 1) = (0 : Int) + 1 := fun h => wrap_ok (by omega) (by simp only [maxLen] at h; omega)
      have h3 : (0 : Int) ≤ (0 : Int) := by omega
      have h4 : (0 : Int) < (m.slots.length : Int) := by omega
      have h5 : ¬ (m.slots.length : Int) ≤ (0 : Int) := by omega
      have hw0 : IntKind.i64.wrap 1 = 1 := by decide
      have h4n : 0 < m.slots.length := by omega
      simp only [chk, slotP, List.getLast?_nil] at hR
      (simp (config := {contextual := true, maxSteps := 2000000, implicitDefEqProofs := false}) [go_sem, hL, SubE, SubR, hw0, h4n, hn, hw, h3, h4, h5] <;> grind)
    · have hln : m.slots.length = q.length + 1 + (rest.length + 1) := by rw [← hl]; simp; omega
      have hn : nth (List.map (enSlot.av τ) m.slots) (q.length + 1) = (enSlot.av τ) x := by rw [← hl]; simp [go_sem]
      have hw : m.slots.length ≤ maxLen → IntKind.i64.wrap (((q.length : Int) + 1) + 1) = ((q.length : Int) + 1) + 1 := fun h => wrap_ok (by omega) (by simp only [maxLen] at h; omega)
      have h3 : (0 : Int) ≤ ((q.length : Int) + 1) := by omega
      have h4 : ((q.length : Int) + 1) < (m.slots.length : Int) := by omega
      have h5 : ¬ (m.slots.length : Int) ≤ ((q.length : Int) + 1) := by omega
      have h6 : nth (List.map (enSlot.av τ) m.slots) q.length = (enSlot.av τ) y := by rw [← hl]; simp [go_sem]
      have h7 : m.slots.length ≤ maxLen → IntKind.i64.wrap (q.length : Int) = (q.length : Int) := fun h => wrap_ok (by omega) (by simp only [maxLen] at h; omega)
      have h8 : (0 : Int) ≤ (q.length : Int) := by omega
      have h9 : (0 : Int) < ((q.length : Int) + 1) := by omega
      have h10 : (q.length : Int) < (m.slots.length : Int) := by omega
      simp only [chk, slotP, last_concat] at hR
      (simp (config := {contextual := true, maxSteps := 2000000, implicitDefEqProofs := false}) [go_sem, hL, SubE, SubR, hn, hw, h3, h4, h5, h6, h7, h8, h9, h10] <;> grind)
/- spec.MonOk -/
def c28 : SCode := (.seq (.reg [⟨(some 1), .box 56 (.tmp 0), none⟩,
   ⟨(some 2), .assign (.const (.bool false)), none⟩])
(.seq (.seq (.reg [⟨(some 5), .fieldAddr 56 (.tmp 1) 1, none⟩,
     ⟨(some 6), .load 2 (.tmp 5), none⟩,
     ⟨(some 7), .call ⟨(.value (.func 43)), #[(.tmp 6), (.const (.int .i64 1)), (.const (.int .i64 5))], #[2, 2, 2]⟩, none⟩,
     ⟨(some 8), .unOp .not 4 (.tmp 7), none⟩,
     ⟨(some 9), .move (.tmp 8), none⟩,
     ⟨(some 10), .fieldAddr 56 (.tmp 1) 0, (some (9, false))⟩,
     ⟨(some 11), .load 2 (.tmp 10), (some (9, false))⟩,
     ⟨(some 12), .fieldAddr 56 (.tmp 1) 1, (some (9, false))⟩,
     ⟨(some 13), .load 2 (.tmp 12), (some (9, false))⟩,
     ⟨(some 14), .binOp .sub 2 (.tmp 13) (.const (.int .i64 1)) 2, (some (9, false))⟩,
     ⟨(some 15), .call ⟨(.value (.func 43)), #[(.tmp 11), (.const (.int .i64 0)), (.tmp 14)], #[2, 2, 2]⟩, (some (9, false))⟩,
     ⟨(some 16), .unOp .not 4 (.tmp 15), (some (9, false))⟩,
     ⟨(some 17), .pick (.tmp 9) (.const (.bool true)) (.tmp 16), none⟩,
     ⟨(some 18), .move (.tmp 17), none⟩,
     ⟨(some 19), .fieldAddr 56 (.tmp 1) 2, (some (18, false))⟩,
     ⟨(some 20), .load 47 (.tmp 19), (some (18, false))⟩,
     ⟨(some 21), .call ⟨(.builtin .len), #[(.tmp 20)], #[47]⟩, (some (18, false))⟩,
     ⟨(some 22), .binOp .gtr 3 (.tmp 21) (.const (.int .i64 60)) 3, (some (18, false))⟩,
     ⟨(some 23), .pick (.tmp 18) (.const (.bool true)) (.tmp 22), none⟩])
  (.cond (.tmp 23) (.seq (.reg [⟨(some 2), .assign (.const (.bool false)), none⟩])
    .ret)
   .skip))
 (.seq (.seq (.reg [⟨(some 3), .assign (.const (.int .i64 0)), none⟩])
   (.block 0 (.loop (.seq (.seq (.reg [⟨(some 24), .move (.tmp 3), none⟩,
          ⟨(some 25), .fieldAddr 56 (.tmp 1) 2, none⟩,
          ⟨(some 26), .load 47 (.tmp 25), none⟩,
          ⟨(some 27), .call ⟨(.builtin .len), #[(.tmp 26)], #[47]⟩, none⟩,
          ⟨(some 28), .binOp .lss 3 (.tmp 24) (.tmp 27) 3, none⟩])
       (.cond (.tmp 28) .skip
        (.exit 0)))
      (.seq (.block 1 (.seq (.reg [⟨(some 31), .fieldAddr 56 (.tmp 1) 2, none⟩,
            ⟨(some 32), .load 47 (.tmp 31), none⟩,
            ⟨(some 33), .move (.tmp 3), none⟩,
            ⟨(some 34), .indexAddr 47 (.tmp 32) (.tmp 33), none⟩,
            ⟨(some 35), .load 98 (.tmp 34), none⟩,
            ⟨(some 4), .alloc 98, none⟩,
            ⟨none, .store 98 (.tmp 4) (.tmp 35), none⟩])
         (.seq (.draw [⟨(some 36), .fieldAddr 98 (.tmp 4) 0, none⟩,
             ⟨(some 37), .load 2 (.tmp 36), none⟩,
             ⟨(some 38), .call ⟨(.value (.func 61)), #[(.tmp 37)], #[2]⟩, none⟩,
             ⟨(some 39), .unOp .not 4 (.tmp 38), none⟩,
             ⟨(some 40), .move (.tmp 39), none⟩,
             ⟨(some 41), .move (.tmp 3), (some (40, false))⟩,
             ⟨(some 42), .binOp .gtr 3 (.tmp 41) (.const (.int .i64 0)) 3, (some (40, false))⟩,
             ⟨(some 43), .move (.tmp 42), (some (40, false))⟩,
             ⟨(some 44), .fieldAddr 56 (.tmp 1) 2, (some (43, true))⟩,
             ⟨(some 45), .load 47 (.tmp 44), (some (43, true))⟩,
             ⟨(some 46), .move (.tmp 3), (some (43, true))⟩,
             ⟨(some 47), .binOp .sub 3 (.tmp 46) (.const (.int .i64 1)) 3, (some (43, true))⟩,
             ⟨(some 48), .indexAddr 47 (.tmp 45) (.tmp 47), (some (43, true))⟩,
             ⟨(some 49), .fieldAddr 98 (.tmp 48) 0, (some (43, true))⟩,
             ⟨(some 50), .load 2 (.tmp 49), (some (43, true))⟩,
             ⟨(some 51), .fieldAddr 98 (.tmp 4) 0, (some (43, true))⟩,
             ⟨(some 52), .load 2 (.tmp 51), (some (43, true))⟩,
             ⟨(some 53), .binOp .geq 2 (.tmp 50) (.tmp 52) 2, (some (43, true))⟩,
             ⟨(some 54), .pick (.tmp 43) (.tmp 53) (.const (.bool false)), (some (40, false))⟩,
             ⟨(some 55), .pick (.tmp 40) (.const (.bool true)) (.tmp 54), none⟩,
             ⟨(some 56), .move (.tmp 55), none⟩,
             ⟨(some 57), .fieldAddr 98 (.tmp 4) 1, (some (56, false))⟩,
             ⟨(some 58), .load 49 (.tmp 57), (some (56, false))⟩,
             ⟨(some 59), .call ⟨(.value (.func 62)), #[(.tmp 58)], #[49]⟩, (some (56, false))⟩,
             ⟨(some 60), .unOp .not 4 (.tmp 59), (some (56, false))⟩,
             ⟨(some 61), .pick (.tmp 56) (.const (.bool true)) (.tmp 60), none⟩,
             ⟨(some 62), .move (.tmp 61), none⟩,
             ⟨(some 63), .fieldAddr 98 (.tmp 4) 2, (some (62, false))⟩,
             ⟨(some 64), .load 49 (.tmp 63), (some (62, false))⟩,
             ⟨(some 65), .call ⟨(.value (.func 62)), #[(.tmp 64)], #[49]⟩, (some (62, false))⟩,
             ⟨(some 66), .unOp .not 4 (.tmp 65), (some (62, false))⟩,
             ⟨(some 67), .pick (.tmp 62) (.const (.bool true)) (.tmp 66), none⟩,
             ⟨(some 68), .move (.tmp 67), none⟩,
             ⟨(some 69), .fieldAddr 98 (.tmp 4) 1, (some (68, false))⟩,
             ⟨(some 70), .load 49 (.tmp 69), (some (68, false))⟩,
             ⟨(some 71), .fieldAddr 98 (.tmp 4) 2, (some (68, false))⟩,
             ⟨(some 72), .load 49 (.tmp 71), (some (68, false))⟩,
             ⟨(some 73), .call ⟨(.value (.func 63)), #[(.tmp 70), (.tmp 72)], #[49, 49]⟩, (some (68, false))⟩,
             ⟨(some 74), .pick (.tmp 68) (.const (.bool true)) (.tmp 73), none⟩,
             ⟨(some 75), .move (.tmp 74), none⟩,
             ⟨(some 76), .fieldAddr 98 (.tmp 4) 2, (some (75, false))⟩,
             ⟨(some 77), .load 49 (.tmp 76), (some (75, false))⟩,
             ⟨(some 78), .fieldAddr 98 (.tmp 4) 3, (some (75, false))⟩,
             ⟨(some 79), .load 51 (.tmp 78), (some (75, false))⟩,
             ⟨(some 80), .fieldAddr 98 (.tmp 4) 0, (some (75, false))⟩,
             ⟨(some 81), .load 2 (.tmp 80), (some (75, false))⟩,
             ⟨(some 82), .call ⟨(.value (.func 64)), #[(.tmp 77), (.tmp 79), (.tmp 81)], #[49, 51, 2]⟩, (some (75, false))⟩,
             ⟨(some 83), .unOp .not 4 (.tmp 82), (some (75, false))⟩,
             ⟨(some 84), .pick (.tmp 75) (.const (.bool true)) (.tmp 83), none⟩] [[], [0], [0, 1], [0, 1, 2], [0, 1, 2, 3], [0, 1, 2, 3, 4], [0, 1, 2, 3, 4, 5], [0, 1, 2, 3, 4, 5, 6], [0, 1, 2, 3, 4, 5, 6, 7], [0, 1, 2, 3, 4, 5, 6, 7, 8], [0, 1, 2, 3, 4, 5, 6, 7], [0, 1, 2, 3, 4, 5, 6, 7, 10], [0, 1, 2, 3, 4, 5, 6, 7, 8, 9, 10, 11], [0, 1, 2, 3, 4, 5, 6, 7, 8, 9, 10, 11, 12], [0, 1, 2, 3, 4, 5, 6, 7, 8, 9, 10, 11, 12, 13], [0, 1, 2, 3, 4, 5, 6, 7], [0, 1, 2, 3, 4, 5, 6, 7, 15], [0, 1, 2, 3, 4, 5, 6, 7, 8, 9, 10, 11, 12, 13, 14, 15, 16], [0, 1, 2, 3, 4, 5, 6, 7, 8, 9, 10, 11, 12, 13, 14, 15, 16, 17], [0, 1, 2, 3, 4, 5, 6, 7, 8, 9, 10, 11, 12, 13, 14, 15, 16, 17, 18], [0, 1, 2, 3, 4, 5, 6, 7, 8, 9, 10, 11, 12, 13, 14, 15, 16, 17, 18, 19], [0, 1, 2, 3, 4, 5, 6, 7, 8, 9, 10, 11, 12, 13, 14, 15, 16, 17, 18, 19, 20], [0, 1, 2, 3, 4, 5, 6, 7, 8, 9, 10, 11, 12, 13, 14, 15, 16, 17, 18, 19, 20, 21], [0, 1, 2, 3, 4, 5, 6, 7, 8, 9, 10, 11, 12, 13, 14, 15, 16, 17, 18, 19, 20, 21, 22], [0, 1, 2, 3, 4, 5, 6, 7, 8, 9, 10, 11, 12, 13, 14, 15, 16, 17, 18, 19, 20, 21, 22, 23], [0, 1, 2, 3, 4, 5, 6, 7, 8, 9, 10, 11, 12, 13, 14, 15, 16, 17, 18, 19, 20, 21, 22, 23, 24], [0, 1, 2, 3, 4, 5, 6, 7, 8, 9, 10, 11, 12, 13, 14, 15, 16, 17, 18, 19, 20, 21, 22, 23, 24, 25], [0, 1, 2, 3, 4, 5, 6, 7, 8, 9, 10, 11, 12, 13, 14, 15, 16, 17, 18, 19, 20, 21, 22, 23, 24, 25, 26], [0, 1, 2, 3, 4, 5, 6, 7, 8, 9, 10, 11, 12, 13, 14, 15, 16, 17, 18, 19, 20, 21, 22, 23, 24, 25, 26, 27], [0, 1, 2, 3, 4, 5, 6, 7, 8, 9, 10, 11, 12, 13, 14, 15, 16, 17, 18, 19, 20, 21, 22, 23, 24, 25, 26, 27, 28], [0, 1, 2, 3, 4, 5, 6, 7, 8, 9, 10, 11, 12, 13, 14, 15, 16, 17, 18, 19, 20, 21, 22, 23, 24, 25, 26, 27, 28, 29], [0, 1, 2, 3, 4, 5, 6, 7, 8, 9, 10, 11, 12, 13, 14, 15, 16, 17, 18, 19, 20, 21, 22, 23, 24, 25, 26, 27, 28, 29, 30], [0, 1, 2, 3, 4, 5, 6, 7, 8, 9, 10, 11, 12, 13, 14, 15, 16, 17, 18, 19, 20, 21, 22, 23, 24, 25, 26, 27, 28, 29, 30, 31], [0, 1, 2, 3, 4, 5, 6, 7, 8, 9, 10, 11, 12, 13, 14, 15, 16, 17, 18, 19, 20, 21, 22, 23, 24, 25, 26, 27, 28, 29, 30, 31, 32], [0, 1, 2, 3, 4, 5, 6, 7, 8, 9, 10, 11, 12, 13, 14, 15, 16, 17, 18, 19, 20, 21, 22, 23, 24, 25, 26, 27, 28, 29, 30, 31, 32, 33], [0, 1, 2, 3, 4, 5, 6, 7, 8, 9, 10, 11, 12, 13, 14, 15, 16, 17, 18, 19, 20, 21, 22, 23, 24, 25, 26, 27, 28, 29, 30, 31, 32], [0, 1, 2, 3, 4, 5, 6, 7, 8, 9, 10, 11, 12, 13, 14, 15, 16, 17, 18, 19, 20, 21, 22, 23, 24, 25, 26, 27, 28, 29, 30, 31, 32, 35], [0, 1, 2, 3, 4, 5, 6, 7, 8, 9, 10, 11, 12, 13, 14, 15, 16, 17, 18, 19, 20, 21, 22, 23, 24, 25, 26, 27, 28, 29, 30, 31, 32, 33, 34, 35, 36], [0, 1, 2, 3, 4, 5, 6, 7, 8, 9, 10, 11, 12, 13, 14, 15, 16, 17, 18, 19, 20, 21, 22, 23, 24, 25, 26, 27, 28, 29, 30, 31, 32, 33, 34, 35, 36, 37], [0, 1, 2, 3, 4, 5, 6, 7, 8, 9, 10, 11, 12, 13, 14, 15, 16, 17, 18, 19, 20, 21, 22, 23, 24, 25, 26, 27, 28, 29, 30, 31, 32, 33, 34, 35, 36, 37, 38], [0, 1, 2, 3, 4, 5, 6, 7, 8, 9, 10, 11, 12, 13, 14, 15, 16, 17, 18, 19, 20, 21, 22, 23, 24, 25, 26, 27, 28, 29, 30, 31, 32, 33, 34, 35, 36, 37, 38, 39], [0, 1, 2, 3, 4, 5, 6, 7, 8, 9, 10, 11, 12, 13, 14, 15, 16, 17, 18, 19, 20, 21, 22, 23, 24, 25, 26, 27, 28, 29, 30, 31, 32, 33, 34, 35, 36, 37, 38, 39, 40], [0, 1, 2, 3, 4, 5, 6, 7, 8, 9, 10, 11, 12, 13, 14, 15, 16, 17, 18, 19, 20, 21, 22, 23, 24, 25, 26, 27, 28, 29, 30, 31, 32, 33, 34, 35, 36, 37, 38, 39], [0, 1, 2, 3, 4, 5, 6, 7, 8, 9, 10, 11, 12, 13, 14, 15, 16, 17, 18, 19, 20, 21, 22, 23, 24, 25, 26, 27, 28, 29, 30, 31, 32, 33, 34, 35, 36, 37, 38, 39, 42], [0, 1, 2, 3, 4, 5, 6, 7, 8, 9, 10, 11, 12, 13, 14, 15, 16, 17, 18, 19, 20, 21, 22, 23, 24, 25, 26, 27, 28, 29, 30, 31, 32, 33, 34, 35, 36, 37, 38, 39], [0, 1, 2, 3, 4, 5, 6, 7, 8, 9, 10, 11, 12, 13, 14, 15, 16, 17, 18, 19, 20, 21, 22, 23, 24, 25, 26, 27, 28, 29, 30, 31, 32, 33, 34, 35, 36, 37, 38, 39, 44], [0, 1, 2, 3, 4, 5, 6, 7, 8, 9, 10, 11, 12, 13, 14, 15, 16, 17, 18, 19, 20, 21, 22, 23, 24, 25, 26, 27, 28, 29, 30, 31, 32, 33, 34, 35, 36, 37, 38, 39, 40, 41, 42, 43, 44, 45], [0, 1, 2, 3, 4, 5, 6, 7, 8, 9, 10, 11, 12, 13, 14, 15, 16, 17, 18, 19, 20, 21, 22, 23, 24, 25, 26, 27, 28, 29, 30, 31, 32, 33, 34, 35, 36, 37, 38, 39, 40, 41, 42, 43, 44, 45, 46], [0, 1, 2, 3, 4, 5, 6, 7, 8, 9, 10, 11, 12, 13, 14, 15, 16, 17, 18, 19, 20, 21, 22, 23, 24, 25, 26, 27, 28, 29, 30, 31, 32, 33, 34, 35, 36, 37, 38, 39, 40, 41, 42, 43, 44, 45, 46, 47]])
          (.cond (.tmp 84) (.seq (.reg [⟨(some 2), .assign (.const (.bool false)), none⟩])
            .ret)
           .skip))))
       (.reg [⟨(some 29), .move (.tmp 3), none⟩,
          ⟨(some 30), .binOp .add 3 (.tmp 29) (.const (.int .i64 1)) 3, none⟩,
          ⟨(some 3), .assign (.tmp 30), none⟩]))))))
  (.seq (.reg [⟨(some 85), .load 56 (.tmp 1), none⟩,
      ⟨(some 86), .call ⟨(.value (.func 65)), #[(.tmp 85)], #[56]⟩, none⟩,
      ⟨(some 2), .assign (.tmp 86), none⟩])
   .ret))))
theorem s28 : slimF Try.f28 = some (c28, [.t 2], 87) := by kernel_rfl
theorem o28 : okF [(43, g43), (61, g61), (62, g62), (63, g63), (64, g64), (65, g65)] Try.f28 = true := by kernel_rfl
noncomputable def g28 : Fsem := sem1 enMon (fun m => True) (fun n m => .bool (monOk m))
@[go_sem] theorem g28_eq {n τ : Nat} {m : Mon} : g28 n [.agg [.int .i64 m.id, .int .i64 m.many, .sl τ 9 (m.slots.map (enSlot.av τ)), .int .i64 m.try_.epoch, .int .i64 m.try_.ballot.no, .int .i64 m.try_.ballot.by_, .int .i64 m.try_.inc.epoch, .int .i64 m.try_.inc.kind, .int .i64 m.try_.inc.a, .int .i64 m.try_.inc.b, .int .i64 m.try_.highest.no, .int .i64 m.try_.highest.by_, .sl τ 1 (m.try_.promises.map (AV.int .i64)), .sl τ 1 (m.try_.accepts.map (AV.int .i64)), .bool m.try_.decided]] = ⟨True, .bool (monOk m)⟩ := sem1_eq  (E := enMon)
theorem p28 : Pure Try.prog 28 g28 := by
  refine sem1_pure fun τ m n h2 hpre => ?_
  have hT : Table Try.prog [(43, g43), (61, g61), (62, g62), (63, g63), (64, g64), (65, g65)] := (.cons p43 (.cons p61 (.cons p62 (.cons p63 (.cons p64 (.cons p65 .nil))))))
  have hn0 : n ≠ 0 := by omega
  refine SatP.of_body hT hm Try.func28 s28 o28 h2 (by simp) ?_
  have hlong : 60 < m.slots.length → monOk m = false := fun h => by
    cases hc : chk slotP none m.slots
    · simp [monOk, hc]
    · have := (slots_len _ _ hc).1
      omega
  cases hls : decide (m.slots.length ≤ 60)
  · have h6 : 60 < m.slots.length := by simpa using hls
    have h7 : (60 : Int) < m.slots.length := by omega
    rw [hlong h6]
    simp (config := {contextual := true, maxSteps := 2000000, implicitDefEqProofs := false}) [c28, go_sem, h6, h7] <;> grind
  have h8 : ¬ (60 : Int) < m.slots.length := by simp at hls; omega
  clear hlong
  unfold monOk
  generalize hr : chk slotP none m.slots = r
  simp (config := {contextual := true, maxSteps := 2000000, implicitDefEqProofs := false}) [c28, go_sem, h8]
  refine ⟨fun h => by grind, ?_⟩
  intros
  refine VW_listKe [] [1] hT h2 hm m.slots [1] (fun pre post (b : Unit) => [(3, .int .i64 pre.length)]) (fun pre post (b : Unit) => chk slotP pre.getLast? post = r) () ?_ ?_ ?_ ?_
  · exact hr
  · simp [SubE, SubR, go_sem]
  · intro _ hR
    have hR0 : true = r := hR
    simp (config := {contextual := true, maxSteps := 2000000, implicitDefEqProofs := false}) [go_sem]
    grind
  · rintro pre0 x rest _ hl hlen hR
    rcases List.eq_nil_or_concat pre0 with rfl | ⟨q, y, rfl⟩
    · have hln : m.slots.length = 0 + (rest.length + 1) := by rw [← hl]; simp
      have hn : nth (List.map (enSlot.av τ) m.slots) (0) = (enSlot.av τ) x := by rw [← hl]; simp [go_sem]
      have hw : m.slots.length ≤ maxLen → IntKind.i64.wrap ((0 : Int) + 1) = (0 : Int) + 1 := fun h => wrap_ok (by omega) (by simp only [maxLen] at h; omega)
      have h3 : (0 : Int) ≤ (0 : Int) := by omega
      have h4 : (0 : Int) < (m.slots.length : Int) := by omega
      have h5 : ¬ (m.slots.length : Int) ≤ (0 : Int) := by omega
      have hw0 : IntKind.i64.wrap 1 = 1 := by decide
      have h4n : 0 < m.slots.length := by omega
      simp only [chk, slotP, slotOk, List.getLast?_nil] at hR
      (simp (config := {contextual := true, maxSteps := 2000000, implicitDefEqProofs := false}) [go_sem, SubE, SubR, hw0, h4n, hn, hw, h3, h4, h5] <;> grind)
    · have hln : m.slots.length = q.length + 1 + (rest.length + 1) := by rw [← hl]; simp; omega
      have hn : nth (List.map (enSlot.av τ) m.slots) (q.length + 1) = (enSlot.av τ) x := by rw [← hl]; simp [go_sem]
      have hw : m.slots.length ≤ maxLen → IntKind.i64.wrap (((q.length : Int) + 1) + 1) = ((q.length : Int) + 1) + 1 := fun h => wrap_ok (by omega) (by simp only [maxLen] at h; omega)
      have h3 : (0 : Int) ≤ ((q.length : Int) + 1) := by omega
      have h4 : ((q.length : Int) + 1) < (m.slots.length : Int) := by omega
      have h5 : ¬ (m.slots.length : Int) ≤ ((q.length : Int) + 1) := by omega
      have h6 : nth (List.map (enSlot.av τ) m.slots) q.length = (enSlot.av τ) y := by rw [← hl]; simp [go_sem]
      have h7 : m.slots.length ≤ maxLen → IntKind.i64.wrap (q.length : Int) = (q.length : Int) := fun h => wrap_ok (by omega) (by simp only [maxLen] at h; omega)
      have h8 : (0 : Int) ≤ (q.length : Int) := by omega
      have h9 : (0 : Int) < ((q.length : Int) + 1) := by omega
      have h10 : (q.length : Int) < (m.slots.length : Int) := by omega
      simp only [chk, slotP, slotOk, last_concat] at hR
      (simp (config := {contextual := true, maxSteps := 2000000, implicitDefEqProofs := false}) [go_sem, SubE, SubR, hn, hw, h3, h4, h5, h6, h7, h8, h9, h10] <;> grind)
end Go.Ve
