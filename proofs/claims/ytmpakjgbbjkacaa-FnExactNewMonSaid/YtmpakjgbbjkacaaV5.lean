/- Contracts: attempts. No condition. -/
import Derived.Test.YtmpakjgbbjkacaaV4
namespace Go.Ve
open Go.Proofs Go.RowKit
set_option linter.unusedVariables false
set_option linter.unusedSimpArgs false
set_option maxRecDepth 10000
set_option maxHeartbeats 4000000
/- (impl.Mon).tryOk -/
def c68 : SCode := (.seq (.reg [⟨(some 1), .box 56 (.tmp 0), none⟩,
   ⟨(some 2), .assign (.const (.bool false)), none⟩])
(.seq (.reg [⟨(some 4), .fieldAddr 56 (.tmp 1) 3, none⟩,
    ⟨(some 5), .load 54 (.tmp 4), none⟩,
    ⟨(some 3), .alloc 54, none⟩,
    ⟨none, .store 54 (.tmp 3) (.tmp 5), none⟩])
 (.seq (.seq (.reg [⟨(some 6), .load 54 (.tmp 3), none⟩,
      ⟨(some 7), .call ⟨(.value (.func 98)), #[(.tmp 6)], #[54]⟩, none⟩])
   (.cond (.tmp 7) (.seq (.reg [⟨(some 2), .assign (.const (.bool true)), none⟩])
     .ret)
    .skip))
  (.seq (.draw [⟨(some 8), .fieldAddr 54 (.tmp 3) 0, none⟩,
      ⟨(some 9), .load 2 (.tmp 8), none⟩,
      ⟨(some 10), .call ⟨(.value (.func 99)), #[(.tmp 9)], #[2]⟩, none⟩,
      ⟨(some 11), .move (.tmp 10), none⟩,
      ⟨(some 12), .fieldAddr 54 (.tmp 3) 1, (some (11, true))⟩,
      ⟨(some 13), .load 49 (.tmp 12), (some (11, true))⟩,
      ⟨(some 14), .call ⟨(.value (.func 100)), #[(.tmp 13)], #[49]⟩, (some (11, true))⟩,
      ⟨(some 15), .pick (.tmp 11) (.tmp 14) (.const (.bool false)), none⟩,
      ⟨(some 16), .move (.tmp 15), none⟩,
      ⟨(some 17), .fieldAddr 54 (.tmp 3) 1, (some (16, true))⟩,
      ⟨(some 18), .load 49 (.tmp 17), (some (16, true))⟩,
      ⟨(some 19), .build 49 #[], (some (16, true))⟩,
      ⟨(some 20), .binOp .neq 49 (.tmp 18) (.tmp 19) 49, (some (16, true))⟩,
      ⟨(some 21), .pick (.tmp 16) (.tmp 20) (.const (.bool false)), none⟩,
      ⟨(some 22), .move (.tmp 21), none⟩,
      ⟨(some 23), .fieldAddr 54 (.tmp 3) 1, (some (22, true))⟩,
      ⟨(some 24), .fieldAddr 49 (.tmp 23) 1, (some (22, true))⟩,
      ⟨(some 25), .load 2 (.tmp 24), (some (22, true))⟩,
      ⟨(some 26), .fieldAddr 56 (.tmp 1) 0, (some (22, true))⟩,
      ⟨(some 27), .load 2 (.tmp 26), (some (22, true))⟩,
      ⟨(some 28), .binOp .eql 2 (.tmp 25) (.tmp 27) 2, (some (22, true))⟩,
      ⟨(some 29), .pick (.tmp 22) (.tmp 28) (.const (.bool false)), none⟩,
      ⟨(some 30), .move (.tmp 29), none⟩,
      ⟨(some 31), .fieldAddr 54 (.tmp 3) 2, (some (30, true))⟩,
      ⟨(some 32), .load 51 (.tmp 31), (some (30, true))⟩,
      ⟨(some 33), .fieldAddr 54 (.tmp 3) 0, (some (30, true))⟩,
      ⟨(some 34), .load 2 (.tmp 33), (some (30, true))⟩,
      ⟨(some 35), .call ⟨(.value (.func 101)), #[(.tmp 32), (.tmp 34)], #[51, 2]⟩, (some (30, true))⟩,
      ⟨(some 36), .pick (.tmp 30) (.tmp 35) (.const (.bool false)), none⟩,
      ⟨(some 37), .move (.tmp 36), none⟩,
      ⟨(some 38), .fieldAddr 54 (.tmp 3) 3, (some (37, true))⟩,
      ⟨(some 39), .load 49 (.tmp 38), (some (37, true))⟩,
      ⟨(some 40), .call ⟨(.value (.func 100)), #[(.tmp 39)], #[49]⟩, (some (37, true))⟩,
      ⟨(some 41), .pick (.tmp 37) (.tmp 40) (.const (.bool false)), none⟩,
      ⟨(some 42), .move (.tmp 41), none⟩,
      ⟨(some 43), .fieldAddr 54 (.tmp 3) 3, (some (42, true))⟩,
      ⟨(some 44), .load 49 (.tmp 43), (some (42, true))⟩,
      ⟨(some 45), .fieldAddr 54 (.tmp 3) 1, (some (42, true))⟩,
      ⟨(some 46), .load 49 (.tmp 45), (some (42, true))⟩,
      ⟨(some 47), .call ⟨(.value (.func 102)), #[(.tmp 44), (.tmp 46)], #[49, 49]⟩, (some (42, true))⟩,
      ⟨(some 48), .pick (.tmp 42) (.tmp 47) (.const (.bool false)), none⟩,
      ⟨(some 49), .move (.tmp 48), none⟩,
      ⟨(some 50), .load 56 (.tmp 1), (some (49, true))⟩,
      ⟨(some 51), .fieldAddr 54 (.tmp 3) 4, (some (49, true))⟩,
      ⟨(some 52), .load 52 (.tmp 51), (some (49, true))⟩,
      ⟨(some 53), .call ⟨(.value (.func 103)), #[(.tmp 50), (.tmp 52)], #[56, 52]⟩, (some (49, true))⟩,
      ⟨(some 54), .pick (.tmp 49) (.tmp 53) (.const (.bool false)), none⟩,
      ⟨(some 55), .move (.tmp 54), none⟩,
      ⟨(some 56), .load 56 (.tmp 1), (some (55, true))⟩,
      ⟨(some 57), .fieldAddr 54 (.tmp 3) 5, (some (55, true))⟩,
      ⟨(some 58), .load 52 (.tmp 57), (some (55, true))⟩,
      ⟨(some 59), .call ⟨(.value (.func 103)), #[(.tmp 56), (.tmp 58)], #[56, 52]⟩, (some (55, true))⟩,
      ⟨(some 60), .pick (.tmp 55) (.tmp 59) (.const (.bool false)), none⟩,
      ⟨(some 61), .move (.tmp 60), none⟩,
      ⟨(some 62), .fieldAddr 54 (.tmp 3) 5, (some (61, true))⟩,
      ⟨(some 63), .load 52 (.tmp 62), (some (61, true))⟩,
      ⟨(some 64), .call ⟨(.builtin .len), #[(.tmp 63)], #[52]⟩, (some (61, true))⟩,
      ⟨(some 65), .binOp .eql 3 (.tmp 64) (.const (.int .i64 0)) 3, (some (61, true))⟩,
      ⟨(some 66), .move (.tmp 65), (some (61, true))⟩,
      ⟨(some 67), .load 56 (.tmp 1), (some (66, false))⟩,
      ⟨(some 68), .fieldAddr 54 (.tmp 3) 4, (some (66, false))⟩,
      ⟨(some 69), .load 52 (.tmp 68), (some (66, false))⟩,
      ⟨(some 70), .call ⟨(.value (.func 104)), #[(.tmp 67), (.tmp 69)], #[56, 52]⟩, (some (66, false))⟩,
      ⟨(some 71), .pick (.tmp 66) (.const (.bool true)) (.tmp 70), (some (61, true))⟩,
      ⟨(some 72), .pick (.tmp 61) (.tmp 71) (.const (.bool false)), none⟩,
      ⟨(some 73), .move (.tmp 72), none⟩,
      ⟨(some 74), .fieldAddr 54 (.tmp 3) 6, (some (73, true))⟩,
      ⟨(some 75), .load 4 (.tmp 74), (some (73, true))⟩,
      ⟨(some 76), .load 56 (.tmp 1), (some (73, true))⟩,
      ⟨(some 77), .fieldAddr 54 (.tmp 3) 5, (some (73, true))⟩,
      ⟨(some 78), .load 52 (.tmp 77), (some (73, true))⟩,
      ⟨(some 79), .call ⟨(.value (.func 104)), #[(.tmp 76), (.tmp 78)], #[56, 52]⟩, (some (73, true))⟩,
      ⟨(some 80), .binOp .eql 4 (.tmp 75) (.tmp 79) 4, (some (73, true))⟩,
      ⟨(some 81), .pick (.tmp 73) (.tmp 80) (.const (.bool false)), none⟩,
      ⟨(some 2), .assign (.tmp 81), none⟩] [[], [0], [0, 1], [0, 1, 2], [0, 1, 2, 3], [0, 1, 2, 3, 4], [0, 1, 2, 3, 4, 5], [0, 1, 2, 3, 4, 5, 6], [0, 1, 2, 3, 4, 5, 6, 7], [0, 1, 2, 3, 4, 5, 6, 7, 8], [0, 1, 2, 3, 4, 5, 6, 7, 8, 9], [0, 1, 2, 3, 4, 5, 6, 7, 8], [0, 1, 2, 3, 4, 5, 6, 7, 8, 9, 10, 11], [0, 1, 2, 3, 4, 5, 6, 7, 8, 9, 10, 11, 12], [0, 1, 2, 3, 4, 5, 6, 7, 8, 9, 10, 11, 12, 13], [0, 1, 2, 3, 4, 5, 6, 7, 8, 9, 10, 11, 12, 13, 14], [0, 1, 2, 3, 4, 5, 6, 7, 8, 9, 10, 11, 12, 13, 14, 15], [0, 1, 2, 3, 4, 5, 6, 7, 8, 9, 10, 11, 12, 13, 14, 15, 16], [0, 1, 2, 3, 4, 5, 6, 7, 8, 9, 10, 11, 12, 13, 14], [0, 1, 2, 3, 4, 5, 6, 7, 8, 9, 10, 11, 12, 13, 14, 18], [0, 1, 2, 3, 4, 5, 6, 7, 8, 9, 10, 11, 12, 13, 14, 15, 16, 17, 18, 19], [0, 1, 2, 3, 4, 5, 6, 7, 8, 9, 10, 11, 12, 13, 14, 15, 16, 17, 18, 19, 20], [0, 1, 2, 3, 4, 5, 6, 7, 8, 9, 10, 11, 12, 13, 14, 15, 16, 17, 18, 19, 20, 21], [0, 1, 2, 3, 4, 5, 6, 7, 8, 9, 10, 11, 12, 13, 14, 15, 16, 17, 18, 19, 20, 21, 22], [0, 1, 2, 3, 4, 5, 6, 7, 8, 9, 10, 11, 12, 13, 14, 15, 16, 17, 18, 19, 20, 21, 22, 23], [0, 1, 2, 3, 4, 5, 6, 7, 8, 9, 10, 11, 12, 13, 14, 15, 16, 17, 18, 19, 20, 21, 22], [0, 1, 2, 3, 4, 5, 6, 7, 8, 9, 10, 11, 12, 13, 14, 15, 16, 17, 18, 19, 20, 21, 22, 25], [0, 1, 2, 3, 4, 5, 6, 7, 8, 9, 10, 11, 12, 13, 14, 15, 16, 17, 18, 19, 20, 21, 22, 23, 24, 25, 26], [0, 1, 2, 3, 4, 5, 6, 7, 8, 9, 10, 11, 12, 13, 14, 15, 16, 17, 18, 19, 20, 21, 22, 23, 24, 25, 26, 27], [0, 1, 2, 3, 4, 5, 6, 7, 8, 9, 10, 11, 12, 13, 14, 15, 16, 17, 18, 19, 20, 21, 22, 23, 24, 25, 26, 27, 28], [0, 1, 2, 3, 4, 5, 6, 7, 8, 9, 10, 11, 12, 13, 14, 15, 16, 17, 18, 19, 20, 21, 22, 23, 24, 25, 26, 27, 28, 29], [0, 1, 2, 3, 4, 5, 6, 7, 8, 9, 10, 11, 12, 13, 14, 15, 16, 17, 18, 19, 20, 21, 22, 23, 24, 25, 26, 27, 28, 29, 30], [0, 1, 2, 3, 4, 5, 6, 7, 8, 9, 10, 11, 12, 13, 14, 15, 16, 17, 18, 19, 20, 21, 22, 23, 24, 25, 26, 27, 28, 29, 30, 31], [0, 1, 2, 3, 4, 5, 6, 7, 8, 9, 10, 11, 12, 13, 14, 15, 16, 17, 18, 19, 20, 21, 22, 23, 24, 25, 26, 27, 28, 29, 30, 31, 32], [0, 1, 2, 3, 4, 5, 6, 7, 8, 9, 10, 11, 12, 13, 14, 15, 16, 17, 18, 19, 20, 21, 22, 23, 24, 25, 26, 27, 28, 29, 30, 31, 32, 33], [0, 1, 2, 3, 4, 5, 6, 7, 8, 9, 10, 11, 12, 13, 14, 15, 16, 17, 18, 19, 20, 21, 22, 23, 24, 25, 26, 27, 28, 29, 30, 31, 32, 33, 34], [0, 1, 2, 3, 4, 5, 6, 7, 8, 9, 10, 11, 12, 13, 14, 15, 16, 17, 18, 19, 20, 21, 22, 23, 24, 25, 26, 27, 28, 29, 30, 31, 32, 33, 34, 35], [0, 1, 2, 3, 4, 5, 6, 7, 8, 9, 10, 11, 12, 13, 14, 15, 16, 17, 18, 19, 20, 21, 22, 23, 24, 25, 26, 27, 28, 29, 30, 31, 32, 33, 34], [0, 1, 2, 3, 4, 5, 6, 7, 8, 9, 10, 11, 12, 13, 14, 15, 16, 17, 18, 19, 20, 21, 22, 23, 24, 25, 26, 27, 28, 29, 30, 31, 32, 33, 34, 37], [0, 1, 2, 3, 4, 5, 6, 7, 8, 9, 10, 11, 12, 13, 14, 15, 16, 17, 18, 19, 20, 21, 22, 23, 24, 25, 26, 27, 28, 29, 30, 31, 32, 33, 34, 35, 36, 37, 38], [0, 1, 2, 3, 4, 5, 6, 7, 8, 9, 10, 11, 12, 13, 14, 15, 16, 17, 18, 19, 20, 21, 22, 23, 24, 25, 26, 27, 28, 29, 30, 31, 32, 33, 34, 35, 36, 37, 38, 39], [0, 1, 2, 3, 4, 5, 6, 7, 8, 9, 10, 11, 12, 13, 14, 15, 16, 17, 18, 19, 20, 21, 22, 23, 24, 25, 26, 27, 28, 29, 30, 31, 32, 33, 34, 35, 36, 37, 38, 39, 40], [0, 1, 2, 3, 4, 5, 6, 7, 8, 9, 10, 11, 12, 13, 14, 15, 16, 17, 18, 19, 20, 21, 22, 23, 24, 25, 26, 27, 28, 29, 30, 31, 32, 33, 34, 35, 36, 37, 38, 39, 40, 41], [0, 1, 2, 3, 4, 5, 6, 7, 8, 9, 10, 11, 12, 13, 14, 15, 16, 17, 18, 19, 20, 21, 22, 23, 24, 25, 26, 27, 28, 29, 30, 31, 32, 33, 34, 35, 36, 37, 38, 39, 40, 41], [0, 1, 2, 3, 4, 5, 6, 7, 8, 9, 10, 11, 12, 13, 14, 15, 16, 17, 18, 19, 20, 21, 22, 23, 24, 25, 26, 27, 28, 29, 30, 31, 32, 33, 34, 35, 36, 37, 38, 39, 40, 41, 43], [0, 1, 2, 3, 4, 5, 6, 7, 8, 9, 10, 11, 12, 13, 14, 15, 16, 17, 18, 19, 20, 21, 22, 23, 24, 25, 26, 27, 28, 29, 30, 31, 32, 33, 34, 35, 36, 37, 38, 39, 40, 41, 42, 43, 44], [0, 1, 2, 3, 4, 5, 6, 7, 8, 9, 10, 11, 12, 13, 14, 15, 16, 17, 18, 19, 20, 21, 22, 23, 24, 25, 26, 27, 28, 29, 30, 31, 32, 33, 34, 35, 36, 37, 38, 39, 40, 41, 42, 43, 44, 45], [0, 1, 2, 3, 4, 5, 6, 7, 8, 9, 10, 11, 12, 13, 14, 15, 16, 17, 18, 19, 20, 21, 22, 23, 24, 25, 26, 27, 28, 29, 30, 31, 32, 33, 34, 35, 36, 37, 38, 39, 40, 41, 42, 43, 44, 45, 46], [0, 1, 2, 3, 4, 5, 6, 7, 8, 9, 10, 11, 12, 13, 14, 15, 16, 17, 18, 19, 20, 21, 22, 23, 24, 25, 26, 27, 28, 29, 30, 31, 32, 33, 34, 35, 36, 37, 38, 39, 40, 41, 42, 43, 44, 45, 46, 47], [0, 1, 2, 3, 4, 5, 6, 7, 8, 9, 10, 11, 12, 13, 14, 15, 16, 17, 18, 19, 20, 21, 22, 23, 24, 25, 26, 27, 28, 29, 30, 31, 32, 33, 34, 35, 36, 37, 38, 39, 40, 41, 42, 43, 44, 45, 46, 47], [0, 1, 2, 3, 4, 5, 6, 7, 8, 9, 10, 11, 12, 13, 14, 15, 16, 17, 18, 19, 20, 21, 22, 23, 24, 25, 26, 27, 28, 29, 30, 31, 32, 33, 34, 35, 36, 37, 38, 39, 40, 41, 42, 43, 44, 45, 46, 47, 49], [0, 1, 2, 3, 4, 5, 6, 7, 8, 9, 10, 11, 12, 13, 14, 15, 16, 17, 18, 19, 20, 21, 22, 23, 24, 25, 26, 27, 28, 29, 30, 31, 32, 33, 34, 35, 36, 37, 38, 39, 40, 41, 42, 43, 44, 45, 46, 47, 48, 49, 50], [0, 1, 2, 3, 4, 5, 6, 7, 8, 9, 10, 11, 12, 13, 14, 15, 16, 17, 18, 19, 20, 21, 22, 23, 24, 25, 26, 27, 28, 29, 30, 31, 32, 33, 34, 35, 36, 37, 38, 39, 40, 41, 42, 43, 44, 45, 46, 47, 48, 49, 50, 51], [0, 1, 2, 3, 4, 5, 6, 7, 8, 9, 10, 11, 12, 13, 14, 15, 16, 17, 18, 19, 20, 21, 22, 23, 24, 25, 26, 27, 28, 29, 30, 31, 32, 33, 34, 35, 36, 37, 38, 39, 40, 41, 42, 43, 44, 45, 46, 47, 48, 49, 50, 51, 52], [0, 1, 2, 3, 4, 5, 6, 7, 8, 9, 10, 11, 12, 13, 14, 15, 16, 17, 18, 19, 20, 21, 22, 23, 24, 25, 26, 27, 28, 29, 30, 31, 32, 33, 34, 35, 36, 37, 38, 39, 40, 41, 42, 43, 44, 45, 46, 47, 48, 49, 50, 51, 52, 53], [0, 1, 2, 3, 4, 5, 6, 7, 8, 9, 10, 11, 12, 13, 14, 15, 16, 17, 18, 19, 20, 21, 22, 23, 24, 25, 26, 27, 28, 29, 30, 31, 32, 33, 34, 35, 36, 37, 38, 39, 40, 41, 42, 43, 44, 45, 46, 47, 48, 49, 50, 51, 52, 53, 54], [0, 1, 2, 3, 4, 5, 6, 7, 8, 9, 10, 11, 12, 13, 14, 15, 16, 17, 18, 19, 20, 21, 22, 23, 24, 25, 26, 27, 28, 29, 30, 31, 32, 33, 34, 35, 36, 37, 38, 39, 40, 41, 42, 43, 44, 45, 46, 47, 48, 49, 50, 51, 52, 53, 54, 55], [0, 1, 2, 3, 4, 5, 6, 7, 8, 9, 10, 11, 12, 13, 14, 15, 16, 17, 18, 19, 20, 21, 22, 23, 24, 25, 26, 27, 28, 29, 30, 31, 32, 33, 34, 35, 36, 37, 38, 39, 40, 41, 42, 43, 44, 45, 46, 47, 48, 49, 50, 51, 52, 53, 54, 55, 56], [0, 1, 2, 3, 4, 5, 6, 7, 8, 9, 10, 11, 12, 13, 14, 15, 16, 17, 18, 19, 20, 21, 22, 23, 24, 25, 26, 27, 28, 29, 30, 31, 32, 33, 34, 35, 36, 37, 38, 39, 40, 41, 42, 43, 44, 45, 46, 47, 48, 49, 50, 51, 52, 53, 54, 55, 56, 57], [0, 1, 2, 3, 4, 5, 6, 7, 8, 9, 10, 11, 12, 13, 14, 15, 16, 17, 18, 19, 20, 21, 22, 23, 24, 25, 26, 27, 28, 29, 30, 31, 32, 33, 34, 35, 36, 37, 38, 39, 40, 41, 42, 43, 44, 45, 46, 47, 48, 49, 50, 51, 52, 53, 54, 55, 56, 57, 58], [0, 1, 2, 3, 4, 5, 6, 7, 8, 9, 10, 11, 12, 13, 14, 15, 16, 17, 18, 19, 20, 21, 22, 23, 24, 25, 26, 27, 28, 29, 30, 31, 32, 33, 34, 35, 36, 37, 38, 39, 40, 41, 42, 43, 44, 45, 46, 47, 48, 49, 50, 51, 52, 53, 54, 55, 56, 57, 58], [0, 1, 2, 3, 4, 5, 6, 7, 8, 9, 10, 11, 12, 13, 14, 15, 16, 17, 18, 19, 20, 21, 22, 23, 24, 25, 26, 27, 28, 29, 30, 31, 32, 33, 34, 35, 36, 37, 38, 39, 40, 41, 42, 43, 44, 45, 46, 47, 48, 49, 50, 51, 52, 53, 54, 55, 56, 57, 58, 60], [0, 1, 2, 3, 4, 5, 6, 7, 8, 9, 10, 11, 12, 13, 14, 15, 16, 17, 18, 19, 20, 21, 22, 23, 24, 25, 26, 27, 28, 29, 30, 31, 32, 33, 34, 35, 36, 37, 38, 39, 40, 41, 42, 43, 44, 45, 46, 47, 48, 49, 50, 51, 52, 53, 54, 55, 56, 57, 58, 59, 60, 61], [0, 1, 2, 3, 4, 5, 6, 7, 8, 9, 10, 11, 12, 13, 14, 15, 16, 17, 18, 19, 20, 21, 22, 23, 24, 25, 26, 27, 28, 29, 30, 31, 32, 33, 34, 35, 36, 37, 38, 39, 40, 41, 42, 43, 44, 45, 46, 47, 48, 49, 50, 51, 52, 53, 54, 55, 56, 57, 58, 59, 60, 61, 62], [0, 1, 2, 3, 4, 5, 6, 7, 8, 9, 10, 11, 12, 13, 14, 15, 16, 17, 18, 19, 20, 21, 22, 23, 24, 25, 26, 27, 28, 29, 30, 31, 32, 33, 34, 35, 36, 37, 38, 39, 40, 41, 42, 43, 44, 45, 46, 47, 48, 49, 50, 51, 52, 53, 54, 55, 56, 57, 58, 59, 60, 61, 62, 63], [0, 1, 2, 3, 4, 5, 6, 7, 8, 9, 10, 11, 12, 13, 14, 15, 16, 17, 18, 19, 20, 21, 22, 23, 24, 25, 26, 27, 28, 29, 30, 31, 32, 33, 34, 35, 36, 37, 38, 39, 40, 41, 42, 43, 44, 45, 46, 47, 48, 49, 50, 51, 52, 53, 54, 55, 56, 57, 58, 59, 60, 61, 62, 63, 64], [0, 1, 2, 3, 4, 5, 6, 7, 8, 9, 10, 11, 12, 13, 14, 15, 16, 17, 18, 19, 20, 21, 22, 23, 24, 25, 26, 27, 28, 29, 30, 31, 32, 33, 34, 35, 36, 37, 38, 39, 40, 41, 42, 43, 44, 45, 46, 47, 48, 49, 50, 51, 52, 53, 54, 55, 56, 57, 58, 59, 60, 61, 62, 63, 64, 65], [0, 1, 2, 3, 4, 5, 6, 7, 8, 9, 10, 11, 12, 13, 14, 15, 16, 17, 18, 19, 20, 21, 22, 23, 24, 25, 26, 27, 28, 29, 30, 31, 32, 33, 34, 35, 36, 37, 38, 39, 40, 41, 42, 43, 44, 45, 46, 47, 48, 49, 50, 51, 52, 53, 54, 55, 56, 57, 58, 59, 60, 61, 62, 63, 64, 65, 66], [0, 1, 2, 3, 4, 5, 6, 7, 8, 9, 10, 11, 12, 13, 14, 15, 16, 17, 18, 19, 20, 21, 22, 23, 24, 25, 26, 27, 28, 29, 30, 31, 32, 33, 34, 35, 36, 37, 38, 39, 40, 41, 42, 43, 44, 45, 46, 47, 48, 49, 50, 51, 52, 53, 54, 55, 56, 57, 58, 59, 60, 61, 62, 63, 64, 65], [0, 1, 2, 3, 4, 5, 6, 7, 8, 9, 10, 11, 12, 13, 14, 15, 16, 17, 18, 19, 20, 21, 22, 23, 24, 25, 26, 27, 28, 29, 30, 31, 32, 33, 34, 35, 36, 37, 38, 39, 40, 41, 42, 43, 44, 45, 46, 47, 48, 49, 50, 51, 52, 53, 54, 55, 56, 57, 58, 59, 60, 61, 62, 63, 64, 65], [0, 1, 2, 3, 4, 5, 6, 7, 8, 9, 10, 11, 12, 13, 14, 15, 16, 17, 18, 19, 20, 21, 22, 23, 24, 25, 26, 27, 28, 29, 30, 31, 32, 33, 34, 35, 36, 37, 38, 39, 40, 41, 42, 43, 44, 45, 46, 47, 48, 49, 50, 51, 52, 53, 54, 55, 56, 57, 58, 59, 60, 61, 62, 63, 64, 65, 69], [0, 1, 2, 3, 4, 5, 6, 7, 8, 9, 10, 11, 12, 13, 14, 15, 16, 17, 18, 19, 20, 21, 22, 23, 24, 25, 26, 27, 28, 29, 30, 31, 32, 33, 34, 35, 36, 37, 38, 39, 40, 41, 42, 43, 44, 45, 46, 47, 48, 49, 50, 51, 52, 53, 54, 55, 56, 57, 58, 59, 60, 61, 62, 63, 64, 65, 68, 69, 70], [0, 1, 2, 3, 4, 5, 6, 7, 8, 9, 10, 11, 12, 13, 14, 15, 16, 17, 18, 19, 20, 21, 22, 23, 24, 25, 26, 27, 28, 29, 30, 31, 32, 33, 34, 35, 36, 37, 38, 39, 40, 41, 42, 43, 44, 45, 46, 47, 48, 49, 50, 51, 52, 53, 54, 55, 56, 57, 58, 59, 60, 61, 62, 63, 64, 65, 66, 67, 68, 69, 70, 71], [0, 1, 2, 3, 4, 5, 6, 7, 8, 9, 10, 11, 12, 13, 14, 15, 16, 17, 18, 19, 20, 21, 22, 23, 24, 25, 26, 27, 28, 29, 30, 31, 32, 33, 34, 35, 36, 37, 38, 39, 40, 41, 42, 43, 44, 45, 46, 47, 48, 49, 50, 51, 52, 53, 54, 55, 56, 57, 58, 59, 60, 61, 62, 63, 64, 65, 66, 67, 68, 69, 70, 71, 72], [0, 1, 2, 3, 4, 5, 6, 7, 8, 9, 10, 11, 12, 13, 14, 15, 16, 17, 18, 19, 20, 21, 22, 23, 24, 25, 26, 27, 28, 29, 30, 31, 32, 33, 34, 35, 36, 37, 38, 39, 40, 41, 42, 43, 44, 45, 46, 47, 48, 49, 50, 51, 52, 53, 54, 55, 56, 57, 58, 59, 60, 61, 62, 63, 64, 65, 66, 67, 68, 69, 70, 71, 72, 73]])
   .ret))))
theorem s68 : slimF Try.f68 = some (c68, [.t 2], 82) := by kernel_rfl
theorem o68 : okF [(98, g98), (99, g99), (100, g100), (101, g101), (102, g102), (103, g103), (104, g104)] Try.f68 = true := by kernel_rfl
noncomputable def g68 : Fsem := sem1 enMon (fun m => True) (fun n m => .bool (tryOk m))
@[go_sem] theorem g68_eq {n τ : Nat} {m : Mon} : g68 n [.agg [.int .i64 m.id, .int .i64 m.many, .sl τ 9 (m.slots.map (enSlot.av τ)), .int .i64 m.try_.epoch, .int .i64 m.try_.ballot.no, .int .i64 m.try_.ballot.by_, .int .i64 m.try_.inc.epoch, .int .i64 m.try_.inc.kind, .int .i64 m.try_.inc.a, .int .i64 m.try_.inc.b, .int .i64 m.try_.highest.no, .int .i64 m.try_.highest.by_, .sl τ 1 (m.try_.promises.map (AV.int .i64)), .sl τ 1 (m.try_.accepts.map (AV.int .i64)), .bool m.try_.decided]] = ⟨True, .bool (tryOk m)⟩ := sem1_eq  (E := enMon)
theorem p68 : Pure Try.prog 68 g68 := by
  refine sem1_pure fun τ m n h2 hpre => ?_
  have hT : Table Try.prog [(98, g98), (99, g99), (100, g100), (101, g101), (102, g102), (103, g103), (104, g104)] := (.cons p98 (.cons p99 (.cons p100 (.cons p101 (.cons p102 (.cons p103 (.cons p104 .nil)))))))
  have hn0 : n ≠ 0 := by omega
  refine SatP.of_body hT hm Try.func68 s68 o68 h2 (by simp) ?_
  cases hz : tryZero m.try_ <;> simp (config := {contextual := true, maxSteps := 2000000, implicitDefEqProofs := false}) [c68, go_sem, tryOk, tryMain, hz, eqB_Ballot, eqB_Inc, zB, zI] <;> first | done | ac_rfl | grind (splits := 60)
/- spec.l21Try -/
def c65 : SCode := (.seq (.reg [⟨(some 1), .box 56 (.tmp 0), none⟩,
   ⟨(some 2), .assign (.const (.bool false)), none⟩])
(.seq (.reg [⟨(some 4), .fieldAddr 56 (.tmp 1) 3, none⟩,
    ⟨(some 5), .load 54 (.tmp 4), none⟩,
    ⟨(some 3), .alloc 54, none⟩,
    ⟨none, .store 54 (.tmp 3) (.tmp 5), none⟩])
 (.seq (.seq (.reg [⟨(some 6), .fieldAddr 54 (.tmp 3) 0, none⟩,
      ⟨(some 7), .load 2 (.tmp 6), none⟩,
      ⟨(some 8), .binOp .eql 2 (.tmp 7) (.const (.int .i64 0)) 2, none⟩])
   (.cond (.tmp 8) (.seq (.reg [⟨(some 9), .fieldAddr 54 (.tmp 3) 1, none⟩,
        ⟨(some 10), .load 49 (.tmp 9), none⟩,
        ⟨(some 11), .build 49 #[], none⟩,
        ⟨(some 12), .binOp .eql 49 (.tmp 10) (.tmp 11) 49, none⟩,
        ⟨(some 13), .move (.tmp 12), none⟩,
        ⟨(some 14), .fieldAddr 54 (.tmp 3) 2, (some (13, true))⟩,
        ⟨(some 15), .load 51 (.tmp 14), (some (13, true))⟩,
        ⟨(some 16), .build 51 #[], (some (13, true))⟩,
        ⟨(some 17), .binOp .eql 51 (.tmp 15) (.tmp 16) 51, (some (13, true))⟩,
        ⟨(some 18), .pick (.tmp 13) (.tmp 17) (.const (.bool false)), none⟩,
        ⟨(some 19), .move (.tmp 18), none⟩,
        ⟨(some 20), .fieldAddr 54 (.tmp 3) 3, (some (19, true))⟩,
        ⟨(some 21), .load 49 (.tmp 20), (some (19, true))⟩,
        ⟨(some 22), .build 49 #[], (some (19, true))⟩,
        ⟨(some 23), .binOp .eql 49 (.tmp 21) (.tmp 22) 49, (some (19, true))⟩,
        ⟨(some 24), .pick (.tmp 19) (.tmp 23) (.const (.bool false)), none⟩,
        ⟨(some 25), .move (.tmp 24), none⟩,
        ⟨(some 26), .fieldAddr 54 (.tmp 3) 4, (some (25, true))⟩,
        ⟨(some 27), .load 52 (.tmp 26), (some (25, true))⟩,
        ⟨(some 28), .call ⟨(.builtin .len), #[(.tmp 27)], #[52]⟩, (some (25, true))⟩,
        ⟨(some 29), .binOp .eql 3 (.tmp 28) (.const (.int .i64 0)) 3, (some (25, true))⟩,
        ⟨(some 30), .pick (.tmp 25) (.tmp 29) (.const (.bool false)), none⟩,
        ⟨(some 31), .move (.tmp 30), none⟩,
        ⟨(some 32), .fieldAddr 54 (.tmp 3) 5, (some (31, true))⟩,
        ⟨(some 33), .load 52 (.tmp 32), (some (31, true))⟩,
        ⟨(some 34), .call ⟨(.builtin .len), #[(.tmp 33)], #[52]⟩, (some (31, true))⟩,
        ⟨(some 35), .binOp .eql 3 (.tmp 34) (.const (.int .i64 0)) 3, (some (31, true))⟩,
        ⟨(some 36), .pick (.tmp 31) (.tmp 35) (.const (.bool false)), none⟩,
        ⟨(some 37), .move (.tmp 36), none⟩,
        ⟨(some 38), .fieldAddr 54 (.tmp 3) 6, (some (37, true))⟩,
        ⟨(some 39), .load 4 (.tmp 38), (some (37, true))⟩,
        ⟨(some 40), .unOp .not 4 (.tmp 39), (some (37, true))⟩,
        ⟨(some 41), .pick (.tmp 37) (.tmp 40) (.const (.bool false)), none⟩,
        ⟨(some 2), .assign (.tmp 41), none⟩])
     .ret)
    .skip))
  (.seq (.seq (.reg [⟨(some 42), .fieldAddr 54 (.tmp 3) 0, none⟩,
       ⟨(some 43), .load 2 (.tmp 42), none⟩,
       ⟨(some 44), .call ⟨(.value (.func 61)), #[(.tmp 43)], #[2]⟩, none⟩,
       ⟨(some 45), .unOp .not 4 (.tmp 44), none⟩,
       ⟨(some 46), .move (.tmp 45), none⟩,
       ⟨(some 47), .fieldAddr 54 (.tmp 3) 1, (some (46, false))⟩,
       ⟨(some 48), .load 49 (.tmp 47), (some (46, false))⟩,
       ⟨(some 49), .call ⟨(.value (.func 91)), #[(.tmp 48)], #[49]⟩, (some (46, false))⟩,
       ⟨(some 50), .unOp .not 4 (.tmp 49), (some (46, false))⟩,
       ⟨(some 51), .pick (.tmp 46) (.const (.bool true)) (.tmp 50), none⟩,
       ⟨(some 52), .move (.tmp 51), none⟩,
       ⟨(some 53), .fieldAddr 54 (.tmp 3) 1, (some (52, false))⟩,
       ⟨(some 54), .fieldAddr 49 (.tmp 53) 1, (some (52, false))⟩,
       ⟨(some 55), .load 2 (.tmp 54), (some (52, false))⟩,
       ⟨(some 56), .fieldAddr 56 (.tmp 1) 0, (some (52, false))⟩,
       ⟨(some 57), .load 2 (.tmp 56), (some (52, false))⟩,
       ⟨(some 58), .binOp .neq 2 (.tmp 55) (.tmp 57) 2, (some (52, false))⟩,
       ⟨(some 59), .pick (.tmp 52) (.const (.bool true)) (.tmp 58), none⟩,
       ⟨(some 60), .move (.tmp 59), none⟩,
       ⟨(some 61), .fieldAddr 54 (.tmp 3) 2, (some (60, false))⟩,
       ⟨(some 62), .load 51 (.tmp 61), (some (60, false))⟩,
       ⟨(some 63), .call ⟨(.value (.func 90)), #[(.tmp 62)], #[51]⟩, (some (60, false))⟩,
       ⟨(some 64), .unOp .not 4 (.tmp 63), (some (60, false))⟩,
       ⟨(some 65), .pick (.tmp 60) (.const (.bool true)) (.tmp 64), none⟩,
       ⟨(some 66), .move (.tmp 65), none⟩,
       ⟨(some 67), .fieldAddr 54 (.tmp 3) 2, (some (66, false))⟩,
       ⟨(some 68), .fieldAddr 51 (.tmp 67) 0, (some (66, false))⟩,
       ⟨(some 69), .load 2 (.tmp 68), (some (66, false))⟩,
       ⟨(some 70), .fieldAddr 54 (.tmp 3) 0, (some (66, false))⟩,
       ⟨(some 71), .load 2 (.tmp 70), (some (66, false))⟩,
       ⟨(some 72), .binOp .neq 2 (.tmp 69) (.tmp 71) 2, (some (66, false))⟩,
       ⟨(some 73), .pick (.tmp 66) (.const (.bool true)) (.tmp 72), none⟩,
       ⟨(some 74), .move (.tmp 73), none⟩,
       ⟨(some 75), .fieldAddr 54 (.tmp 3) 3, (some (74, false))⟩,
       ⟨(some 76), .load 49 (.tmp 75), (some (74, false))⟩,
       ⟨(some 77), .call ⟨(.value (.func 62)), #[(.tmp 76)], #[49]⟩, (some (74, false))⟩,
       ⟨(some 78), .unOp .not 4 (.tmp 77), (some (74, false))⟩,
       ⟨(some 79), .pick (.tmp 74) (.const (.bool true)) (.tmp 78), none⟩,
       ⟨(some 80), .move (.tmp 79), none⟩,
       ⟨(some 81), .fieldAddr 54 (.tmp 3) 3, (some (80, false))⟩,
       ⟨(some 82), .load 49 (.tmp 81), (some (80, false))⟩,
       ⟨(some 83), .fieldAddr 54 (.tmp 3) 1, (some (80, false))⟩,
       ⟨(some 84), .load 49 (.tmp 83), (some (80, false))⟩,
       ⟨(some 85), .call ⟨(.value (.func 63)), #[(.tmp 82), (.tmp 84)], #[49, 49]⟩, (some (80, false))⟩,
       ⟨(some 86), .unOp .not 4 (.tmp 85), (some (80, false))⟩,
       ⟨(some 87), .pick (.tmp 80) (.const (.bool true)) (.tmp 86), none⟩])
    (.cond (.tmp 87) (.seq (.reg [⟨(some 2), .assign (.const (.bool false)), none⟩])
      .ret)
     .skip))
   (.seq (.seq (.reg [⟨(some 88), .fieldAddr 54 (.tmp 3) 4, none⟩,
        ⟨(some 89), .load 52 (.tmp 88), none⟩,
        ⟨(some 90), .fieldAddr 56 (.tmp 1) 1, none⟩,
        ⟨(some 91), .load 2 (.tmp 90), none⟩,
        ⟨(some 92), .binOp .sub 2 (.tmp 91) (.const (.int .i64 1)) 2, none⟩,
        ⟨(some 93), .call ⟨(.value (.func 92)), #[(.tmp 89), (.const (.int .i64 0)), (.tmp 92)], #[52, 2, 2]⟩, none⟩,
        ⟨(some 94), .unOp .not 4 (.tmp 93), none⟩,
        ⟨(some 95), .move (.tmp 94), none⟩,
        ⟨(some 96), .fieldAddr 54 (.tmp 3) 5, (some (95, false))⟩,
        ⟨(some 97), .load 52 (.tmp 96), (some (95, false))⟩,
        ⟨(some 98), .fieldAddr 56 (.tmp 1) 1, (some (95, false))⟩,
        ⟨(some 99), .load 2 (.tmp 98), (some (95, false))⟩,
        ⟨(some 100), .binOp .sub 2 (.tmp 99) (.const (.int .i64 1)) 2, (some (95, false))⟩,
        ⟨(some 101), .call ⟨(.value (.func 92)), #[(.tmp 97), (.const (.int .i64 0)), (.tmp 100)], #[52, 2, 2]⟩, (some (95, false))⟩,
        ⟨(some 102), .unOp .not 4 (.tmp 101), (some (95, false))⟩,
        ⟨(some 103), .pick (.tmp 95) (.const (.bool true)) (.tmp 102), none⟩,
        ⟨(some 104), .move (.tmp 103), none⟩,
        ⟨(some 105), .fieldAddr 54 (.tmp 3) 4, (some (104, false))⟩,
        ⟨(some 106), .load 52 (.tmp 105), (some (104, false))⟩,
        ⟨(some 107), .fieldAddr 56 (.tmp 1) 1, (some (104, false))⟩,
        ⟨(some 108), .load 2 (.tmp 107), (some (104, false))⟩,
        ⟨(some 109), .call ⟨(.value (.func 93)), #[(.tmp 106), (.tmp 108)], #[52, 2]⟩, (some (104, false))⟩,
        ⟨(some 110), .unOp .not 4 (.tmp 109), (some (104, false))⟩,
        ⟨(some 111), .move (.tmp 110), (some (104, false))⟩,
        ⟨(some 112), .fieldAddr 54 (.tmp 3) 5, (some (111, true))⟩,
        ⟨(some 113), .load 52 (.tmp 112), (some (111, true))⟩,
        ⟨(some 114), .call ⟨(.builtin .len), #[(.tmp 113)], #[52]⟩, (some (111, true))⟩,
        ⟨(some 115), .binOp .gtr 3 (.tmp 114) (.const (.int .i64 0)) 3, (some (111, true))⟩,
        ⟨(some 116), .pick (.tmp 111) (.tmp 115) (.const (.bool false)), (some (104, false))⟩,
        ⟨(some 117), .pick (.tmp 104) (.const (.bool true)) (.tmp 116), none⟩])
     (.cond (.tmp 117) (.seq (.reg [⟨(some 2), .assign (.const (.bool false)), none⟩])
       .ret)
      .skip))
    (.seq (.draw [⟨(some 118), .fieldAddr 54 (.tmp 3) 6, none⟩,
        ⟨(some 119), .load 4 (.tmp 118), none⟩,
        ⟨(some 120), .fieldAddr 54 (.tmp 3) 5, none⟩,
        ⟨(some 121), .load 52 (.tmp 120), none⟩,
        ⟨(some 122), .fieldAddr 56 (.tmp 1) 1, none⟩,
        ⟨(some 123), .load 2 (.tmp 122), none⟩,
        ⟨(some 124), .call ⟨(.value (.func 93)), #[(.tmp 121), (.tmp 123)], #[52, 2]⟩, none⟩,
        ⟨(some 125), .binOp .eql 4 (.tmp 119) (.tmp 124) 4, none⟩,
        ⟨(some 2), .assign (.tmp 125), none⟩] [[], [0], [], [2], [], [4], [2, 3, 4, 5], [0, 1, 2, 3, 4, 5, 6], [0, 1, 2, 3, 4, 5, 6, 7]])
     .ret))))))
theorem s65 : slimF Try.f65 = some (c65, [.t 2], 126) := by kernel_rfl
theorem o65 : okF [(61, g61), (91, g91), (90, g90), (62, g62), (63, g63), (92, g92), (93, g93)] Try.f65 = true := by kernel_rfl
noncomputable def g65 : Fsem := sem1 enMon (fun m => True) (fun n m => .bool (tryOk m))
@[go_sem] theorem g65_eq {n τ : Nat} {m : Mon} : g65 n [.agg [.int .i64 m.id, .int .i64 m.many, .sl τ 9 (m.slots.map (enSlot.av τ)), .int .i64 m.try_.epoch, .int .i64 m.try_.ballot.no, .int .i64 m.try_.ballot.by_, .int .i64 m.try_.inc.epoch, .int .i64 m.try_.inc.kind, .int .i64 m.try_.inc.a, .int .i64 m.try_.inc.b, .int .i64 m.try_.highest.no, .int .i64 m.try_.highest.by_, .sl τ 1 (m.try_.promises.map (AV.int .i64)), .sl τ 1 (m.try_.accepts.map (AV.int .i64)), .bool m.try_.decided]] = ⟨True, .bool (tryOk m)⟩ := sem1_eq  (E := enMon)
theorem p65 : Pure Try.prog 65 g65 := by
  refine sem1_pure fun τ m n h2 hpre => ?_
  have hT : Table Try.prog [(61, g61), (91, g91), (90, g90), (62, g62), (63, g63), (92, g92), (93, g93)] := (.cons p61 (.cons p91 (.cons p90 (.cons p62 (.cons p63 (.cons p92 (.cons p93 .nil)))))))
  have hn0 : n ≠ 0 := by omega
  refine SatP.of_body hT hm Try.func65 s65 o65 h2 (by simp) ?_
  have hri : ∀ l, chk (risP 0 (IntKind.i64.wrap (m.many - 1))) none l = idsOk m l := fun l => by rw [ris_eq]; rfl
  by_cases he : m.try_.epoch = 0
  · have h2 : tryMain m m.try_ = false := by simp [tryMain, he, btw]
    have h3 : tryOk m = tryZero m.try_ := by simp [tryOk, h2]
    rw [h3]
    simp (config := {contextual := true, maxSteps := 2000000, implicitDefEqProofs := false}) [c65, go_sem, tryZero, he, eqB_Ballot, eqB_Inc, zB, zI] <;> first | done | ac_rfl | grind (splits := 60)
  · have h2 : tryZero m.try_ = false := by simp [tryZero, he]
    have h3 : tryOk m = tryMain m m.try_ := by simp [tryOk, h2]
    rw [h3]
    simp (config := {contextual := true, maxSteps := 2000000, implicitDefEqProofs := false}) [c65, go_sem, he, hri, incFor, tryMain, eqB_Ballot, eqB_Inc, zB, zI] <;> first | done | ac_rfl | grind (splits := 60)
/- impl.slotOk -/
def c69 : SCode := (.seq (.reg [⟨(some 1), .box 98 (.tmp 0), none⟩,
   ⟨(some 2), .assign (.const (.bool false)), none⟩])
(.seq (.reg [⟨(some 3), .fieldAddr 98 (.tmp 1) 0, none⟩,
    ⟨(some 4), .load 2 (.tmp 3), none⟩,
    ⟨(some 5), .call ⟨(.value (.func 99)), #[(.tmp 4)], #[2]⟩, none⟩,
    ⟨(some 6), .move (.tmp 5), none⟩,
    ⟨(some 7), .fieldAddr 98 (.tmp 1) 1, (some (6, true))⟩,
    ⟨(some 8), .load 49 (.tmp 7), (some (6, true))⟩,
    ⟨(some 9), .call ⟨(.value (.func 100)), #[(.tmp 8)], #[49]⟩, (some (6, true))⟩,
    ⟨(some 10), .pick (.tmp 6) (.tmp 9) (.const (.bool false)), none⟩,
    ⟨(some 11), .move (.tmp 10), none⟩,
    ⟨(some 12), .fieldAddr 98 (.tmp 1) 2, (some (11, true))⟩,
    ⟨(some 13), .load 49 (.tmp 12), (some (11, true))⟩,
    ⟨(some 14), .call ⟨(.value (.func 100)), #[(.tmp 13)], #[49]⟩, (some (11, true))⟩,
    ⟨(some 15), .pick (.tmp 11) (.tmp 14) (.const (.bool false)), none⟩,
    ⟨(some 16), .move (.tmp 15), none⟩,
    ⟨(some 17), .fieldAddr 98 (.tmp 1) 1, (some (16, true))⟩,
    ⟨(some 18), .load 49 (.tmp 17), (some (16, true))⟩,
    ⟨(some 19), .fieldAddr 98 (.tmp 1) 2, (some (16, true))⟩,
    ⟨(some 20), .load 49 (.tmp 19), (some (16, true))⟩,
    ⟨(some 21), .call ⟨(.value (.func 102)), #[(.tmp 18), (.tmp 20)], #[49, 49]⟩, (some (16, true))⟩,
    ⟨(some 22), .unOp .not 4 (.tmp 21), (some (16, true))⟩,
    ⟨(some 23), .pick (.tmp 16) (.tmp 22) (.const (.bool false)), none⟩,
    ⟨(some 24), .move (.tmp 23), none⟩,
    ⟨(some 25), .fieldAddr 98 (.tmp 1) 3, (some (24, true))⟩,
    ⟨(some 26), .load 51 (.tmp 25), (some (24, true))⟩,
    ⟨(some 27), .fieldAddr 98 (.tmp 1) 2, (some (24, true))⟩,
    ⟨(some 28), .load 49 (.tmp 27), (some (24, true))⟩,
    ⟨(some 29), .fieldAddr 98 (.tmp 1) 0, (some (24, true))⟩,
    ⟨(some 30), .load 2 (.tmp 29), (some (24, true))⟩,
    ⟨(some 31), .call ⟨(.value (.func 105)), #[(.tmp 26), (.tmp 28), (.tmp 30)], #[51, 49, 2]⟩, (some (24, true))⟩,
    ⟨(some 32), .pick (.tmp 24) (.tmp 31) (.const (.bool false)), none⟩,
    ⟨(some 2), .assign (.tmp 32), none⟩])
 .ret))
theorem s69 : slimF Try.f69 = some (c69, [.t 2], 33) := by kernel_rfl
theorem o69 : okF [(99, g99), (100, g100), (102, g102), (105, g105)] Try.f69 = true := by kernel_rfl
noncomputable def g69 : Fsem := sem1 enSlot (fun s => True) (fun n s => .bool (slotOk s))
@[go_sem] theorem g69_eq {n : Nat} {s : Slot} : g69 n [.agg [.int .i64 s.epoch, .int .i64 s.promised.no, .int .i64 s.promised.by_, .int .i64 s.accepted.no, .int .i64 s.accepted.by_, .int .i64 s.inc.epoch, .int .i64 s.inc.kind, .int .i64 s.inc.a, .int .i64 s.inc.b]] = ⟨True, .bool (slotOk s)⟩ := sem1_eq (τ := 0) (E := enSlot)
theorem p69 : Pure Try.prog 69 g69 := by
  refine sem1_pure fun τ s n h2 hpre => ?_
  have hT : Table Try.prog [(99, g99), (100, g100), (102, g102), (105, g105)] := (.cons p99 (.cons p100 (.cons p102 (.cons p105 .nil))))
  have hn0 : n ≠ 0 := by omega
  refine SatP.of_body hT hm Try.func69 s69 o69 h2 (by simp) ?_
  simp (config := {contextual := true, maxSteps := 2000000, implicitDefEqProofs := false}) [c69, go_sem, slotOk] <;> first | done | ac_rfl | grind (splits := 60)
end Go.Ve
