/- Contracts of the seat: counts in tables of places. No condition. -/
import Derived.Test.YtidfijaobkaalaaV14
namespace Go.Ve
open Go.Proofs Go.RowKit
set_option linter.unusedVariables false
set_option linter.unusedSimpArgs false
set_option maxRecDepth 10000
set_option maxHeartbeats 4000000
/- spec.l10Count -/
def c103 : SCode := (.seq (.reg [⟨(some 4), .assign (.const (.int .i64 0)), none⟩])
(.seq (.reg [⟨(some 5), .assign (.const (.int .i64 0)), none⟩])
 (.seq (.seq (.reg [⟨(some 6), .assign (.const (.int .i64 0)), none⟩])
   (.block 0 (.loop (.seq (.seq (.reg [⟨(some 8), .move (.tmp 6), none⟩,
          ⟨(some 9), .move (.tmp 0), none⟩,
          ⟨(some 10), .call ⟨(.builtin .len), #[(.tmp 9)], #[53]⟩, none⟩,
          ⟨(some 11), .binOp .lss 3 (.tmp 8) (.tmp 10) 3, none⟩])
       (.cond (.tmp 11) .skip
        (.exit 0)))
      (.seq (.block 1 (.seq (.reg [⟨(some 7), .assign (.const (.int .i64 0)), none⟩])
         (.block 2 (.loop (.seq (.seq (.reg [⟨(some 14), .move (.tmp 7), none⟩,
                ⟨(some 15), .move (.tmp 0), none⟩,
                ⟨(some 16), .move (.tmp 6), none⟩,
                ⟨(some 17), .indexAddr 53 (.tmp 15) (.tmp 16), none⟩,
                ⟨(some 18), .load 28 (.tmp 17), none⟩,
                ⟨(some 19), .call ⟨(.builtin .len), #[(.tmp 18)], #[28]⟩, none⟩,
                ⟨(some 20), .binOp .lss 3 (.tmp 14) (.tmp 19) 3, none⟩])
             (.cond (.tmp 20) .skip
              (.exit 2)))
            (.seq (.block 3 (.seq (.reg [⟨(some 23), .move (.tmp 0), none⟩,
                  ⟨(some 24), .move (.tmp 6), none⟩,
                  ⟨(some 25), .indexAddr 53 (.tmp 23) (.tmp 24), none⟩,
                  ⟨(some 26), .load 28 (.tmp 25), none⟩,
                  ⟨(some 27), .move (.tmp 7), none⟩,
                  ⟨(some 28), .indexAddr 28 (.tmp 26) (.tmp 27), none⟩,
                  ⟨(some 29), .load 2 (.tmp 28), none⟩,
                  ⟨(some 30), .move (.tmp 1), none⟩,
                  ⟨(some 31), .binOp .eql 2 (.tmp 29) (.tmp 30) 2, none⟩])
               (.cond (.tmp 31) (.reg [⟨(some 32), .move (.tmp 5), none⟩,
                   ⟨(some 33), .binOp .add 2 (.tmp 32) (.const (.int .i64 1)) 2, none⟩,
                   ⟨(some 5), .assign (.tmp 33), none⟩])
                .skip)))
             (.reg [⟨(some 21), .move (.tmp 7), none⟩,
                ⟨(some 22), .binOp .add 3 (.tmp 21) (.const (.int .i64 1)) 3, none⟩,
                ⟨(some 7), .assign (.tmp 22), none⟩])))))))
       (.reg [⟨(some 12), .move (.tmp 6), none⟩,
          ⟨(some 13), .binOp .add 3 (.tmp 12) (.const (.int .i64 1)) 3, none⟩,
          ⟨(some 6), .assign (.tmp 13), none⟩]))))))
  (.seq (.reg [⟨(some 34), .move (.tmp 5), none⟩,
      ⟨(some 4), .assign (.tmp 34), none⟩])
   .ret))))
theorem s103 : slimF Try.f103 = some (c103, [.t 4], 35) := by kernel_rfl
theorem o103 : okF [] Try.f103 = true := by kernel_rfl
noncomputable def g103 : Fsem := sem2 (En.int .i64).list.list (En.int .i64) (fun p id => tblOk p = true) (fun n p id => .int .i64 (cnt id (flatL p)))
@[go_sem] theorem g103_eq {n τ : Nat} {p : List (List Int)} {id : Int} : g103 n [.sl τ 1 (p.map ((En.int .i64).list.av τ)), .int .i64 id] = ⟨tblOk p = true, .int .i64 (cnt id (flatL p))⟩ := sem2_eq (τ' := 0) (E := (En.int .i64).list.list) (F := (En.int .i64))
theorem p103 : Pure Try.prog 103 g103 := by
  refine sem2_pure fun τ τ' p id n h2 hpre => ?_
  have hT : Table Try.prog [] := .nil
  have hn0 : n ≠ 0 := by omega
  refine SatP.of_body hT hm Try.func103 s103 o103 h2 (by simp) ?_
  have hb := tbl_rows hpre
  obtain ⟨hb1, hb2⟩ := hb
  generalize hr : cnt id (flatL p) = r
  simp (config := {contextual := true, maxSteps := 2000000, implicitDefEqProofs := false}) [c103, go_sem]
  refine VW_listK hT h2 hm p [0, 1] (fun pre post (b : Int) => [(6, .int .i64 pre.length), (5, .int .i64 b)]) (fun pre post (b : Int) => b + cnt id (flatL post) = r ∧ 0 ≤ b ∧ b ≤ 7 * (pre.length : Int)) 0 ?_ ?_ ?_ ?_
  · exact ⟨by omega, by omega, by simp⟩
  · simp [SubI, go_sem]
  · rintro b ⟨hR, hR2, hR3⟩
    simp (config := {contextual := true, maxSteps := 2000000, implicitDefEqProofs := false}) [go_sem]
    simp [cnt, flatL] at hR
    exact fun _ => hR
  · rintro pre0 x rest b ⟨⟩ hlen ⟨hR, hR2, hR3⟩
    have hl : pre0 ++ x :: rest = pre0 ++ x :: rest := rfl
    generalize hpe : pre0 ++ x :: rest = p at *
    have hln : p.length = pre0.length + (rest.length + 1) := by rw [← hpe]; simp
    have hn : nth (List.map ((En.list (En.int .i64)).av τ) p) (pre0.length) = ((En.list (En.int .i64)).av τ) x := by rw [← hpe]; simp [go_sem]
    have hw : p.length ≤ maxLen → IntKind.i64.wrap ((pre0.length : Int) + 1) = (pre0.length : Int) + 1 := fun h => wrap_ok (by omega) (by simp only [maxLen] at h; omega)
    have h3 : (0 : Int) ≤ (pre0.length : Int) := by omega
    have h4 : (pre0.length : Int) < (p.length : Int) := by omega
    have h5 : ¬ (p.length : Int) ≤ (pre0.length : Int) := by omega
    have hx7 : x.length ≤ 7 := hb2 x (by rw [← hpe]; simp)
    have hp16 : p.length ≤ 16 := hb1
    simp only [flatL, cnt_append] at hR
    simp (config := {contextual := true, maxSteps := 2000000, implicitDefEqProofs := false}) [go_sem, hn, hw, h3, h4, h5]
    intro hLp
    refine VW_listK hT h2 hm x [0, 1, 6] (fun pre post (b : Int) => [(7, .int .i64 pre.length), (5, .int .i64 b)]) (fun pre post (b : Int) => b + cnt id post + cnt id (flatL rest) = r ∧ 0 ≤ b ∧ b ≤ 7 * (pre0.length : Int) + pre.length) b ?_ ?_ ?_ ?_
    · exact ⟨by omega, by omega, by simp; omega⟩
    · simp [SubI, go_sem]
    · rintro b ⟨hS, hS2, hS3⟩
      simp (config := {contextual := true, maxSteps := 2000000, implicitDefEqProofs := false}) [go_sem, SubI, hn, hw, h3, h4, h5, hLp]
      simp [cnt] at hS
      intro _
      exact ⟨by omega, hS2, by omega⟩
    · rintro pre y post b hl' hlen' ⟨hS, hS2, hS3⟩
      have hln' : x.length = pre.length + (post.length + 1) := by rw [← hl']; simp
      have hn' : nth (List.map (AV.int .i64) x) (pre.length) = (AV.int .i64) y := by rw [← hl']; simp [go_sem]
      have hw' : x.length ≤ maxLen → IntKind.i64.wrap ((pre.length : Int) + 1) = (pre.length : Int) + 1 := fun h => wrap_ok (by omega) (by simp only [maxLen] at h; omega)
      have h3' : (0 : Int) ≤ (pre.length : Int) := by omega
      have h4' : (pre.length : Int) < (x.length : Int) := by omega
      have h5' : ¬ (x.length : Int) ≤ (pre.length : Int) := by omega
      have hwb : IntKind.i64.wrap (b + 1) = b + 1 := wrap_ok (by omega) (by omega)
      simp only [cnt] at hS
      simp (config := {contextual := true, maxSteps := 2000000, implicitDefEqProofs := false}) [go_sem, SubI, hn, hw, h3, h4, h5, hn', hw', h3', h4', h5', hwb]
      intros
      refine ⟨fun h => ⟨by rw [if_pos h] at hS; omega, by omega, by omega⟩, fun h => ⟨by rw [if_neg h] at hS; omega, hS2, by omega⟩⟩
end Go.Ve
