/- Contracts of the seat: sorted insertion. No condition. -/
import Derived.Test.YtfeaokelfbjcdaaW3
namespace Go.Ve
open Go.Proofs Go.RowKit
set_option linter.unusedVariables false
set_option linter.unusedSimpArgs false
set_option maxRecDepth 10000
set_option maxHeartbeats 4000000
/- spec.l00Put -/
def c78 : SCode := (.seq (.reg [⟨(some 4), .assign (.const (.slice none 0 0)), none⟩])
(.seq (.reg [⟨(some 8), .buildSlice 22 0 #[], none⟩,
    ⟨(some 5), .assign (.tmp 8), none⟩])
 (.seq (.reg [⟨(some 6), .assign (.const (.bool false)), none⟩])
  (.seq (.seq (.reg [⟨(some 7), .assign (.const (.int .i64 0)), none⟩])
    (.block 0 (.loop (.seq (.seq (.reg [⟨(some 9), .move (.tmp 7), none⟩,
           ⟨(some 10), .move (.tmp 0), none⟩,
           ⟨(some 11), .call ⟨(.builtin .len), #[(.tmp 10)], #[22]⟩, none⟩,
           ⟨(some 12), .binOp .lss 3 (.tmp 9) (.tmp 11) 3, none⟩])
        (.cond (.tmp 12) .skip
         (.exit 0)))
       (.seq (.block 1 (.seq (.seq (.reg [⟨(some 15), .move (.tmp 6), none⟩,
              ⟨(some 16), .unOp .not 4 (.tmp 15), none⟩,
              ⟨(some 17), .move (.tmp 16), none⟩,
              ⟨(some 18), .move (.tmp 0), (some (17, true))⟩,
              ⟨(some 19), .move (.tmp 7), (some (17, true))⟩,
              ⟨(some 20), .indexAddr 22 (.tmp 18) (.tmp 19), (some (17, true))⟩,
              ⟨(some 21), .load 2 (.tmp 20), (some (17, true))⟩,
              ⟨(some 22), .move (.tmp 1), (some (17, true))⟩,
              ⟨(some 23), .binOp .geq 2 (.tmp 21) (.tmp 22) 2, (some (17, true))⟩,
              ⟨(some 24), .pick (.tmp 17) (.tmp 23) (.const (.bool false)), none⟩])
           (.cond (.tmp 24) (.seq (.reg [⟨(some 6), .assign (.const (.bool true)), none⟩])
             (.seq (.reg [⟨(some 25), .move (.tmp 0), none⟩,
                 ⟨(some 26), .move (.tmp 7), none⟩,
                 ⟨(some 27), .indexAddr 22 (.tmp 25) (.tmp 26), none⟩,
                 ⟨(some 28), .load 2 (.tmp 27), none⟩,
                 ⟨(some 29), .move (.tmp 1), none⟩,
                 ⟨(some 30), .binOp .gtr 2 (.tmp 28) (.tmp 29) 2, none⟩])
              (.cond (.tmp 30) (.reg [⟨(some 31), .move (.tmp 5), none⟩,
                  ⟨(some 32), .move (.tmp 1), none⟩,
                  ⟨(some 33), .buildSlice 22 1 #[(0, (.tmp 32))], none⟩,
                  ⟨(some 34), .call ⟨(.builtin .append), #[(.tmp 31), (.tmp 33)], #[22, 22]⟩, none⟩,
                  ⟨(some 5), .assign (.tmp 34), none⟩])
               .skip)))
            .skip))
          (.reg [⟨(some 35), .move (.tmp 5), none⟩,
             ⟨(some 36), .move (.tmp 0), none⟩,
             ⟨(some 37), .move (.tmp 7), none⟩,
             ⟨(some 38), .indexAddr 22 (.tmp 36) (.tmp 37), none⟩,
             ⟨(some 39), .load 2 (.tmp 38), none⟩,
             ⟨(some 40), .buildSlice 22 1 #[(0, (.tmp 39))], none⟩,
             ⟨(some 41), .call ⟨(.builtin .append), #[(.tmp 35), (.tmp 40)], #[22, 22]⟩, none⟩,
             ⟨(some 5), .assign (.tmp 41), none⟩])))
        (.reg [⟨(some 13), .move (.tmp 7), none⟩,
           ⟨(some 14), .binOp .add 3 (.tmp 13) (.const (.int .i64 1)) 3, none⟩,
           ⟨(some 7), .assign (.tmp 14), none⟩]))))))
   (.seq (.seq (.reg [⟨(some 42), .move (.tmp 6), none⟩,
        ⟨(some 43), .unOp .not 4 (.tmp 42), none⟩])
     (.cond (.tmp 43) (.reg [⟨(some 44), .move (.tmp 5), none⟩,
         ⟨(some 45), .move (.tmp 1), none⟩,
         ⟨(some 46), .buildSlice 22 1 #[(0, (.tmp 45))], none⟩,
         ⟨(some 47), .call ⟨(.builtin .append), #[(.tmp 44), (.tmp 46)], #[22, 22]⟩, none⟩,
         ⟨(some 5), .assign (.tmp 47), none⟩])
      .skip))
    (.seq (.reg [⟨(some 48), .move (.tmp 5), none⟩,
        ⟨(some 4), .assign (.tmp 48), none⟩])
     .ret))))))
theorem s78 : slimF Try.f78 = some (c78, [.t 4], 49) := by kernel_rfl
theorem o78 : okF [] Try.f78 = true := by kernel_rfl
theorem sat_78 {n : Nat} (h2 : 2 ≤ n) {τ : Nat} {l : List Int} {v : Int} (hl : l.length ≤ 1048576) : SatM Try.prog n 78 [] [.sl τ 1 (l.map (AV.int .i64)), .int .i64 v] [.row 2 1 ((insL v l).map (AV.int .i64))] (.osl 0 1 0 (insL v l).length) := by
  have hT : Table Try.prog [] := .nil
  have hn0 : n ≠ 0 := by omega
  refine SatM.of_bodyV hT hm Try.func78 s78 o78 h2 (by simp) ?_
  have hl20 := hl
  generalize hr : insL v l = r
  rw [← insG_false] at hr
  simp (config := {contextual := true, maxSteps := 2000000, implicitDefEqProofs := false}) [c78, go_sem]
  refine VW_listKE [] [5] hT h2 hm l [0, 1] (fun pre post (b : List Int × Bool) => [.row 2 1 (b.1.map (AV.int .i64))]) (fun pre post (b : List Int × Bool) => [(7, .int .i64 pre.length), (5, .osl 0 1 0 b.1.length), (6, .bool b.2)]) (fun pre post (b : List Int × Bool) => b.1 ++ insG v b.2 post = r ∧ b.1.length ≤ pre.length + (if b.2 then 1 else 0)) ([], false) ?_ ?_ ?_ ?_
  · exact ⟨by simpa using hr, by simp⟩
  · simp [SubE, SubR, go_sem]
  · rintro ⟨acc, d⟩ ⟨hR, hR2⟩
    simp only at hR hR2
    cases d
    · simp [insG] at hR
      simp (config := {contextual := true, maxSteps := 2000000, implicitDefEqProofs := false}) [go_sem, ← hR]
      intro _
      refine ⟨by simp at hR2; omega, _, [2], Sub.refl 0 _, ?_⟩
      simp [retM, resAV, rvV, rinOf, Root.rnp, AV.rnp, AV.rnp2, AV.rnp1, AV.rnp0, posOf, go_sem, Rz, nz_int, nz_osl, nz_tup]
      intro x hx y hy
      rcases hx with ⟨a, _, rfl⟩ | rfl <;> (simp only [AV.cells, List.mem_cons, List.not_mem_nil, or_false] at hy; subst hy; exact .int ..)
    · simp [insG] at hR
      simp (config := {contextual := true, maxSteps := 2000000, implicitDefEqProofs := false}) [go_sem, hR]
      intro _
      refine ⟨_, [0], Sub.refl 0 _, ?_⟩
      simp [retM, resAV, rvV, rinOf, Root.rnp, AV.rnp, AV.rnp2, AV.rnp1, AV.rnp0, posOf, go_sem, Rz, nz_int, nz_osl, nz_tup]
  · rintro pre x post ⟨acc, d⟩ hl hlen ⟨hR, hR2⟩
    have hln : l.length = pre.length + (post.length + 1) := by rw [← hl]; simp
    have hn : nth (List.map (AV.int .i64) l) (pre.length) = (AV.int .i64) x := by rw [← hl]; simp [go_sem]
    have hw : l.length ≤ maxLen → IntKind.i64.wrap ((pre.length : Int) + 1) = (pre.length : Int) + 1 := fun h => wrap_ok (by omega) (by simp only [maxLen] at h; omega)
    have h3 : (0 : Int) ≤ (pre.length : Int) := by omega
    have h4 : (pre.length : Int) < (l.length : Int) := by omega
    have h5 : ¬ (l.length : Int) ≤ (pre.length : Int) := by omega
    simp only at hR hR2
    simp only [insG] at hR
    have hal : acc.length ≤ 1048580 := by split at hR2 <;> omega
    simp (config := {contextual := true, maxSteps := 2000000, implicitDefEqProofs := false}) [go_sem, hn, hw, h3, h4, h5, SubE, SubR]
    intro _
    cases d
    · simp at hR hR2
      refine ⟨fun _ hvx => ⟨fun hlt => ⟨by omega, by omega, acc ++ [v, x], ⟨by rw [if_pos hvx, if_pos hlt] at hR; simpa using hR, by simp; omega⟩, by simp, by simp⟩, fun hge => ⟨by omega, acc ++ [x], ⟨by rw [if_pos hvx, if_neg (by omega)] at hR; simpa using hR, by simp; omega⟩, by simp, by simp⟩⟩, fun hc => ⟨by omega, acc ++ [x], .inl ⟨⟨by rw [if_neg (by have := hc rfl; omega)] at hR; simpa using hR, by simp; omega⟩, by simp, by simp, rfl⟩⟩⟩
    · simp at hR hR2
      exact ⟨fun h => (by cases h), fun _ => ⟨by omega, acc ++ [x], .inr ⟨⟨by simpa using hR, by simp; omega⟩, by simp, by simp, rfl⟩⟩⟩
end Go.Ve
