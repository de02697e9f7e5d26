/- Contracts of the seat: intervals. No condition. -/
import Derived.Test.YtfeaokelfbjcdaaW5
namespace Go.Ve
open Go.Proofs Go.RowKit
set_option linter.unusedVariables false
set_option linter.unusedSimpArgs false
set_option maxRecDepth 10000
set_option maxHeartbeats 4000000
def hdI : List Itv → Itv
  | [] => ⟨0, 0, [], false⟩
  | v :: _ => v
/- impl.IntervalsOk -/
def c30 : SCode := (.seq (.reg [⟨(some 2), .assign (.const (.bool false)), none⟩])
(.seq (.reg [⟨(some 3), .assign (.const (.int .i64 1)), none⟩])
 (.seq (.seq (.reg [⟨(some 6), .move (.tmp 0), none⟩,
      ⟨(some 7), .call ⟨(.builtin .len), #[(.tmp 6)], #[33]⟩, none⟩,
      ⟨(some 8), .move (.const (.int .i64 0)), none⟩])
   (.block 0 (.loop (.seq (.reg [⟨(some 9), .binOp .lss 3 (.tmp 8) (.tmp 7) 3, none⟩])
      (.seq (.cond (.tmp 9) .skip
        (.exit 0))
       (.seq (.block 1 (.seq (.reg [⟨(some 10), .indexAddr 33 (.tmp 6) (.tmp 8), none⟩,
             ⟨(some 11), .load 43 (.tmp 10), none⟩,
             ⟨(some 5), .alloc 43, none⟩,
             ⟨none, .store 43 (.tmp 5) (.tmp 11), none⟩])
          (.seq (.seq (.draw [⟨(some 12), .fieldAddr 43 (.tmp 5) 0, none⟩,
               ⟨(some 13), .load 2 (.tmp 12), none⟩,
               ⟨(some 14), .move (.tmp 3), none⟩,
               ⟨(some 15), .binOp .neq 2 (.tmp 13) (.tmp 14) 2, none⟩,
               ⟨(some 16), .move (.tmp 15), none⟩,
               ⟨(some 17), .fieldAddr 43 (.tmp 5) 1, (some (16, false))⟩,
               ⟨(some 18), .load 2 (.tmp 17), (some (16, false))⟩,
               ⟨(some 19), .fieldAddr 43 (.tmp 5) 0, (some (16, false))⟩,
               ⟨(some 20), .load 2 (.tmp 19), (some (16, false))⟩,
               ⟨(some 21), .call ⟨(.value (.func 47)), #[(.tmp 18), (.tmp 20), (.const (.int .i64 60))], #[2, 2, 2]⟩, (some (16, false))⟩,
               ⟨(some 22), .unOp .not 4 (.tmp 21), (some (16, false))⟩,
               ⟨(some 23), .pick (.tmp 16) (.const (.bool true)) (.tmp 22), none⟩,
               ⟨(some 24), .move (.tmp 23), none⟩,
               ⟨(some 25), .fieldAddr 43 (.tmp 5) 2, (some (24, false))⟩,
               ⟨(some 26), .load 22 (.tmp 25), (some (24, false))⟩,
               ⟨(some 27), .call ⟨(.value (.func 15)), #[(.tmp 26)], #[22]⟩, (some (24, false))⟩,
               ⟨(some 28), .unOp .not 4 (.tmp 27), (some (24, false))⟩,
               ⟨(some 29), .pick (.tmp 24) (.const (.bool true)) (.tmp 28), none⟩,
               ⟨(some 30), .move (.tmp 29), none⟩,
               ⟨(some 31), .fieldAddr 43 (.tmp 5) 2, (some (30, false))⟩,
               ⟨(some 32), .load 22 (.tmp 31), (some (30, false))⟩,
               ⟨(some 33), .call ⟨(.builtin .len), #[(.tmp 32)], #[22]⟩, (some (30, false))⟩,
               ⟨(some 34), .move (.tmp 0), (some (30, false))⟩,
               ⟨(some 35), .indexAddr 33 (.tmp 34) (.const (.int .i64 0)), (some (30, false))⟩,
               ⟨(some 36), .fieldAddr 43 (.tmp 35) 2, (some (30, false))⟩,
               ⟨(some 37), .load 22 (.tmp 36), (some (30, false))⟩,
               ⟨(some 38), .call ⟨(.builtin .len), #[(.tmp 37)], #[22]⟩, (some (30, false))⟩,
               ⟨(some 39), .binOp .neq 3 (.tmp 33) (.tmp 38) 3, (some (30, false))⟩,
               ⟨(some 40), .pick (.tmp 30) (.const (.bool true)) (.tmp 39), none⟩] [[], [0], [], [0, 1, 2], [0, 1, 2, 3], [0, 1, 2, 3, 4], [0, 1, 2, 3, 4, 5], [0, 1, 2, 3, 4], [0, 1, 2, 3, 4, 7], [0, 1, 2, 3, 4, 5, 6, 7, 8], [0, 1, 2, 3, 4, 5, 6, 7, 8, 9], [0, 1, 2, 3, 4, 5, 6, 7, 8, 9, 10], [0, 1, 2, 3, 4, 5, 6, 7, 8, 9, 10, 11], [0, 1, 2, 3, 4, 5, 6, 7, 8, 9, 10, 11, 12], [0, 1, 2, 3, 4, 5, 6, 7, 8, 9, 10, 11, 12, 13], [0, 1, 2, 3, 4, 5, 6, 7, 8, 9, 10, 11, 12, 13, 14], [0, 1, 2, 3, 4, 5, 6, 7, 8, 9, 10, 11, 12, 13, 14, 15], [0, 1, 2, 3, 4, 5, 6, 7, 8, 9, 10, 11, 12, 13, 14, 15, 16], [0, 1, 2, 3, 4, 5, 6, 7, 8, 9, 10, 11, 12, 13, 14, 15, 16, 17], [0, 1, 2, 3, 4, 5, 6, 7, 8, 9, 10, 11, 12, 13, 14, 15, 16, 17, 18], [0, 1, 2, 3, 4, 5, 6, 7, 8, 9, 10, 11, 12, 13, 14, 15, 16, 17, 18, 19], [0, 1, 2, 3, 4, 5, 6, 7, 8, 9, 10, 11, 12, 13, 14, 15, 16, 17, 18, 19, 20], [0, 1, 2, 3, 4, 5, 6, 7, 8, 9, 10, 11, 12, 13, 14, 15, 16, 17, 18], [0, 1, 2, 3, 4, 5, 6, 7, 8, 9, 10, 11, 12, 13, 14, 15, 16, 17, 18, 22], [0, 1, 2, 3, 4, 5, 6, 7, 8, 9, 10, 11, 12, 13, 14, 15, 16, 17, 18, 22, 23], [0, 1, 2, 3, 4, 5, 6, 7, 8, 9, 10, 11, 12, 13, 14, 15, 16, 17, 18, 22, 23, 24], [0, 1, 2, 3, 4, 5, 6, 7, 8, 9, 10, 11, 12, 13, 14, 15, 16, 17, 18, 22, 23, 24, 25], [0, 1, 2, 3, 4, 5, 6, 7, 8, 9, 10, 11, 12, 13, 14, 15, 16, 17, 18, 19, 20, 21, 22, 23, 24, 25, 26], [0, 1, 2, 3, 4, 5, 6, 7, 8, 9, 10, 11, 12, 13, 14, 15, 16, 17, 18, 19, 20, 21, 22, 23, 24, 25, 26, 27]])
            (.cond (.tmp 40) (.seq (.reg [⟨(some 2), .assign (.const (.bool false)), none⟩])
              .ret)
             .skip))
           (.reg [⟨(some 41), .fieldAddr 43 (.tmp 5) 1, none⟩,
              ⟨(some 42), .load 2 (.tmp 41), none⟩,
              ⟨(some 43), .binOp .add 2 (.tmp 42) (.const (.int .i64 1)) 2, none⟩,
              ⟨(some 3), .assign (.tmp 43), none⟩]))))
        (.reg [⟨(some 44), .binOp .add 3 (.tmp 8) (.const (.int .i64 1)) 3, none⟩,
           ⟨(some 8), .move (.tmp 44), none⟩])))))))
  (.seq (.reg [⟨(some 45), .move (.tmp 0), none⟩,
      ⟨(some 46), .call ⟨(.builtin .len), #[(.tmp 45)], #[33]⟩, none⟩,
      ⟨(some 47), .binOp .leq 3 (.tmp 46) (.const (.int .i64 60)) 3, none⟩,
      ⟨(some 2), .assign (.tmp 47), none⟩])
   .ret))))
theorem s30 : slimF Try.f30 = some (c30, [.t 2], 48) := by kernel_rfl
theorem o30 : okF [(47, g47), (15, g15)] Try.f30 = true := by kernel_rfl
noncomputable def g30 : Fsem := sem1 enItv.list (fun ls => True) (fun n ls => .bool (itvsOk ls))
@[go_sem] theorem g30_eq {n τ : Nat} {ls : List Itv} : g30 n [.sl τ 4 (ls.map (enItv.av τ))] = ⟨True, .bool (itvsOk ls)⟩ := sem1_eq  (E := enItv.list)
theorem p30 : Pure Try.prog 30 g30 := by
  refine sem1_pure fun τ ls n h2 hpre => ?_
  have hT : Table Try.prog [(47, g47), (15, g15)] := (.cons p47 (.cons p15 .nil))
  have hn0 : n ≠ 0 := by omega
  refine SatP.of_body hT hm Try.func30 s30 o30 h2 (by simp) ?_
  simp only [itvsOk]
  generalize hr : itvL (hdA ls) 1 ls = r
  simp (config := {contextual := true, maxSteps := 2000000, implicitDefEqProofs := false}) [c30, go_sem]
  intro hL
  refine VW_listKE [] [] hT h2 hm ls [0, 6, 7] (fun pre post (b : Int) => []) (fun pre post (b : Int) => [(8, .int .i64 pre.length), (3, .int .i64 b)]) (fun pre post (b : Int) => itvL (hdA ls) b post = r ∧ 1 ≤ b) 1 ?_ ?_ ?_ ?_
  · exact ⟨hr, by decide⟩
  · simp [SubE, SubR, go_sem]
  · rintro b ⟨hR, hb⟩
    have hR0 : true = r := hR
    subst hR0
    simp (config := {contextual := true, maxSteps := 2000000, implicitDefEqProofs := false}) [go_sem]
  · rintro pre x post b hl hlen ⟨hR, hb⟩
    have hln : ls.length = pre.length + (post.length + 1) := by rw [← hl]; simp
    have hn : nth (List.map (enItv.av τ) ls) (pre.length) = (enItv.av τ) x := by rw [← hl]; simp [go_sem]
    have hw : ls.length ≤ maxLen → IntKind.i64.wrap ((pre.length : Int) + 1) = (pre.length : Int) + 1 := fun h => wrap_ok (by omega) (by simp only [maxLen] at h; omega)
    have h3 : (0 : Int) ≤ (pre.length : Int) := by omega
    have h4 : (pre.length : Int) < (ls.length : Int) := by omega
    have h5 : ¬ (ls.length : Int) ≤ (pre.length : Int) := by omega
    have h0 : nth (List.map (enItv.av τ) ls) 0 = enItv.av τ ⟨(hdI ls).first, (hdI ls).last, hdA ls, (hdI ls).may⟩ := by
      cases ls with
      | nil => simp at hln
      | cons y q => rfl
    have h01 : (0 : Int) < (ls.length : Int) := by omega
    have hwl : btw x.last b 60 = true → IntKind.i64.wrap (x.last + 1) = x.last + 1 ∧ 1 ≤ x.last + 1 := fun h => by simp only [btw, Bool.and_eq_true, decide_eq_true_eq] at h; exact ⟨wrap_ok (by omega) (by omega), by omega⟩
    simp only [itvL] at hR
    simp (config := {contextual := true, maxSteps := 2000000, implicitDefEqProofs := false}) [go_sem, hn, hw, h3, h4, h5, hL, h0, h01, SubE, SubR]
    refine ⟨fun _ _ _ => by omega, fun hc hrr => ?_, fun c1 c2 c3 c4 => ?_⟩
    · exfalso
      subst hrr
      simp only [Bool.and_eq_true, decide_eq_true_eq] at hR
      rcases hc with ((hc | hc) | hc) | hc
      · exact hc hR.1.1.1.1
      · rw [hR.1.1.1.2] at hc; cases hc
      · rw [hR.1.1.2] at hc; cases hc
      · exact hc (by rw [hR.1.2])
    · obtain ⟨w1, w2⟩ := hwl c2
      rw [w1]
      simp [c1, c2, c3, Int.ofNat.inj c4] at hR
      exact ⟨hR, w2⟩
/- spec.l13Ok -/
def c56 : SCode := (.seq (.reg [⟨(some 2), .assign (.const (.bool false)), none⟩])
(.seq (.seq (.reg [⟨(some 6), .move (.tmp 0), none⟩,
     ⟨(some 7), .call ⟨(.builtin .len), #[(.tmp 6)], #[33]⟩, none⟩,
     ⟨(some 8), .binOp .gtr 3 (.tmp 7) (.const (.int .i64 60)) 3, none⟩])
  (.cond (.tmp 8) (.seq (.reg [⟨(some 2), .assign (.const (.bool false)), none⟩])
    .ret)
   .skip))
 (.seq (.reg [⟨(some 3), .assign (.const (.int .i64 1)), none⟩])
  (.seq (.seq (.reg [⟨(some 4), .assign (.const (.int .i64 0)), none⟩])
    (.block 0 (.loop (.seq (.seq (.reg [⟨(some 9), .move (.tmp 4), none⟩,
           ⟨(some 10), .move (.tmp 0), none⟩,
           ⟨(some 11), .call ⟨(.builtin .len), #[(.tmp 10)], #[33]⟩, none⟩,
           ⟨(some 12), .binOp .lss 3 (.tmp 9) (.tmp 11) 3, none⟩])
        (.cond (.tmp 12) .skip
         (.exit 0)))
       (.seq (.block 1 (.seq (.reg [⟨(some 15), .move (.tmp 0), none⟩,
             ⟨(some 16), .move (.tmp 4), none⟩,
             ⟨(some 17), .indexAddr 33 (.tmp 15) (.tmp 16), none⟩,
             ⟨(some 18), .load 43 (.tmp 17), none⟩,
             ⟨(some 5), .alloc 43, none⟩,
             ⟨none, .store 43 (.tmp 5) (.tmp 18), none⟩])
          (.seq (.seq (.draw [⟨(some 19), .fieldAddr 43 (.tmp 5) 0, none⟩,
               ⟨(some 20), .load 2 (.tmp 19), none⟩,
               ⟨(some 21), .move (.tmp 3), none⟩,
               ⟨(some 22), .binOp .neq 2 (.tmp 20) (.tmp 21) 2, none⟩,
               ⟨(some 23), .move (.tmp 22), none⟩,
               ⟨(some 24), .fieldAddr 43 (.tmp 5) 1, (some (23, false))⟩,
               ⟨(some 25), .load 2 (.tmp 24), (some (23, false))⟩,
               ⟨(some 26), .fieldAddr 43 (.tmp 5) 0, (some (23, false))⟩,
               ⟨(some 27), .load 2 (.tmp 26), (some (23, false))⟩,
               ⟨(some 28), .call ⟨(.value (.func 65)), #[(.tmp 25), (.tmp 27), (.const (.int .i64 60))], #[2, 2, 2]⟩, (some (23, false))⟩,
               ⟨(some 29), .unOp .not 4 (.tmp 28), (some (23, false))⟩,
               ⟨(some 30), .pick (.tmp 23) (.const (.bool true)) (.tmp 29), none⟩,
               ⟨(some 31), .move (.tmp 30), none⟩,
               ⟨(some 32), .fieldAddr 43 (.tmp 5) 2, (some (31, false))⟩,
               ⟨(some 33), .load 22 (.tmp 32), (some (31, false))⟩,
               ⟨(some 34), .call ⟨(.value (.func 46)), #[(.tmp 33)], #[22]⟩, (some (31, false))⟩,
               ⟨(some 35), .unOp .not 4 (.tmp 34), (some (31, false))⟩,
               ⟨(some 36), .pick (.tmp 31) (.const (.bool true)) (.tmp 35), none⟩,
               ⟨(some 37), .move (.tmp 36), none⟩,
               ⟨(some 38), .fieldAddr 43 (.tmp 5) 2, (some (37, false))⟩,
               ⟨(some 39), .load 22 (.tmp 38), (some (37, false))⟩,
               ⟨(some 40), .call ⟨(.builtin .len), #[(.tmp 39)], #[22]⟩, (some (37, false))⟩,
               ⟨(some 41), .move (.tmp 0), (some (37, false))⟩,
               ⟨(some 42), .indexAddr 33 (.tmp 41) (.const (.int .i64 0)), (some (37, false))⟩,
               ⟨(some 43), .fieldAddr 43 (.tmp 42) 2, (some (37, false))⟩,
               ⟨(some 44), .load 22 (.tmp 43), (some (37, false))⟩,
               ⟨(some 45), .call ⟨(.builtin .len), #[(.tmp 44)], #[22]⟩, (some (37, false))⟩,
               ⟨(some 46), .binOp .neq 3 (.tmp 40) (.tmp 45) 3, (some (37, false))⟩,
               ⟨(some 47), .pick (.tmp 37) (.const (.bool true)) (.tmp 46), none⟩] [[], [0], [], [0, 1, 2], [0, 1, 2, 3], [0, 1, 2, 3, 4], [0, 1, 2, 3, 4, 5], [0, 1, 2, 3, 4], [0, 1, 2, 3, 4, 7], [0, 1, 2, 3, 4, 5, 6, 7, 8], [0, 1, 2, 3, 4, 5, 6, 7, 8, 9], [0, 1, 2, 3, 4, 5, 6, 7, 8, 9, 10], [0, 1, 2, 3, 4, 5, 6, 7, 8, 9, 10, 11], [0, 1, 2, 3, 4, 5, 6, 7, 8, 9, 10, 11, 12], [0, 1, 2, 3, 4, 5, 6, 7, 8, 9, 10, 11, 12, 13], [0, 1, 2, 3, 4, 5, 6, 7, 8, 9, 10, 11, 12, 13, 14], [0, 1, 2, 3, 4, 5, 6, 7, 8, 9, 10, 11, 12, 13, 14, 15], [0, 1, 2, 3, 4, 5, 6, 7, 8, 9, 10, 11, 12, 13, 14, 15, 16], [0, 1, 2, 3, 4, 5, 6, 7, 8, 9, 10, 11, 12, 13, 14, 15, 16, 17], [0, 1, 2, 3, 4, 5, 6, 7, 8, 9, 10, 11, 12, 13, 14, 15, 16, 17, 18], [0, 1, 2, 3, 4, 5, 6, 7, 8, 9, 10, 11, 12, 13, 14, 15, 16, 17, 18, 19], [0, 1, 2, 3, 4, 5, 6, 7, 8, 9, 10, 11, 12, 13, 14, 15, 16, 17, 18, 19, 20], [0, 1, 2, 3, 4, 5, 6, 7, 8, 9, 10, 11, 12, 13, 14, 15, 16, 17, 18], [0, 1, 2, 3, 4, 5, 6, 7, 8, 9, 10, 11, 12, 13, 14, 15, 16, 17, 18, 22], [0, 1, 2, 3, 4, 5, 6, 7, 8, 9, 10, 11, 12, 13, 14, 15, 16, 17, 18, 22, 23], [0, 1, 2, 3, 4, 5, 6, 7, 8, 9, 10, 11, 12, 13, 14, 15, 16, 17, 18, 22, 23, 24], [0, 1, 2, 3, 4, 5, 6, 7, 8, 9, 10, 11, 12, 13, 14, 15, 16, 17, 18, 22, 23, 24, 25], [0, 1, 2, 3, 4, 5, 6, 7, 8, 9, 10, 11, 12, 13, 14, 15, 16, 17, 18, 19, 20, 21, 22, 23, 24, 25, 26], [0, 1, 2, 3, 4, 5, 6, 7, 8, 9, 10, 11, 12, 13, 14, 15, 16, 17, 18, 19, 20, 21, 22, 23, 24, 25, 26, 27]])
            (.cond (.tmp 47) (.seq (.reg [⟨(some 2), .assign (.const (.bool false)), none⟩])
              .ret)
             .skip))
           (.reg [⟨(some 48), .fieldAddr 43 (.tmp 5) 1, none⟩,
              ⟨(some 49), .load 2 (.tmp 48), none⟩,
              ⟨(some 50), .binOp .add 2 (.tmp 49) (.const (.int .i64 1)) 2, none⟩,
              ⟨(some 3), .assign (.tmp 50), none⟩]))))
        (.reg [⟨(some 13), .move (.tmp 4), none⟩,
           ⟨(some 14), .binOp .add 3 (.tmp 13) (.const (.int .i64 1)) 3, none⟩,
           ⟨(some 4), .assign (.tmp 14), none⟩]))))))
   (.seq (.reg [⟨(some 2), .assign (.const (.bool true)), none⟩])
    .ret)))))
theorem s56 : slimF Try.f56 = some (c56, [.t 2], 51) := by kernel_rfl
theorem o56 : okF [(65, g65), (46, g46)] Try.f56 = true := by kernel_rfl
noncomputable def g56 : Fsem := sem1 enItv.list (fun ls => True) (fun n ls => .bool (itvsOk ls))
@[go_sem] theorem g56_eq {n τ : Nat} {ls : List Itv} : g56 n [.sl τ 4 (ls.map (enItv.av τ))] = ⟨True, .bool (itvsOk ls)⟩ := sem1_eq  (E := enItv.list)
theorem p56 : Pure Try.prog 56 g56 := by
  refine sem1_pure fun τ ls n h2 hpre => ?_
  have hT : Table Try.prog [(65, g65), (46, g46)] := (.cons p65 (.cons p46 .nil))
  have hn0 : n ≠ 0 := by omega
  refine SatP.of_body hT hm Try.func56 s56 o56 h2 (by simp) ?_
  simp only [itvsOk]
  generalize hr : itvL (hdA ls) 1 ls = r
  simp (config := {contextual := true, maxSteps := 2000000, implicitDefEqProofs := false}) [c56, go_sem]
  intro hL hg1
  refine VW_listKE [] [] hT h2 hm ls [0] (fun pre post (b : Int) => []) (fun pre post (b : Int) => [(4, .int .i64 pre.length), (3, .int .i64 b)]) (fun pre post (b : Int) => itvL (hdA ls) b post = r ∧ 1 ≤ b) 1 ?_ ?_ ?_ ?_
  · exact ⟨hr, by decide⟩
  · simp [SubE, SubR, go_sem]
  · rintro b ⟨hR, hb⟩
    have hR0 : true = r := hR
    subst hR0
    simp (config := {contextual := true, maxSteps := 2000000, implicitDefEqProofs := false}) [go_sem]
  · rintro pre x post b hl hlen ⟨hR, hb⟩
    have hln : ls.length = pre.length + (post.length + 1) := by rw [← hl]; simp
    have hn : nth (List.map (enItv.av τ) ls) (pre.length) = (enItv.av τ) x := by rw [← hl]; simp [go_sem]
    have hw : ls.length ≤ maxLen → IntKind.i64.wrap ((pre.length : Int) + 1) = (pre.length : Int) + 1 := fun h => wrap_ok (by omega) (by simp only [maxLen] at h; omega)
    have h3 : (0 : Int) ≤ (pre.length : Int) := by omega
    have h4 : (pre.length : Int) < (ls.length : Int) := by omega
    have h5 : ¬ (ls.length : Int) ≤ (pre.length : Int) := by omega
    have h0 : nth (List.map (enItv.av τ) ls) 0 = enItv.av τ ⟨(hdI ls).first, (hdI ls).last, hdA ls, (hdI ls).may⟩ := by
      cases ls with
      | nil => simp at hln
      | cons y q => rfl
    have h01 : (0 : Int) < (ls.length : Int) := by omega
    have hwl : btw x.last b 60 = true → IntKind.i64.wrap (x.last + 1) = x.last + 1 ∧ 1 ≤ x.last + 1 := fun h => by simp only [btw, Bool.and_eq_true, decide_eq_true_eq] at h; exact ⟨wrap_ok (by omega) (by omega), by omega⟩
    simp only [itvL] at hR
    simp (config := {contextual := true, maxSteps := 2000000, implicitDefEqProofs := false}) [go_sem, hn, hw, h3, h4, h5, hL, h0, h01, SubE, SubR]
    refine ⟨fun _ _ _ => by omega, fun hc => ?_, fun c1 c2 c3 c4 => ?_⟩
    · by_cases hrr : r = true
      case neg => simpa using hrr
      exfalso
      subst hrr
      simp only [Bool.and_eq_true, decide_eq_true_eq] at hR
      rcases hc with ((hc | hc) | hc) | hc
      · exact hc hR.1.1.1.1
      · rw [hR.1.1.1.2] at hc; cases hc
      · rw [hR.1.1.2] at hc; cases hc
      · exact hc (by rw [hR.1.2])
    · obtain ⟨w1, w2⟩ := hwl c2
      rw [w1]
      simp [c1, c2, c3, Int.ofNat.inj c4] at hR
      exact ⟨hR, w2⟩
end Go.Ve
