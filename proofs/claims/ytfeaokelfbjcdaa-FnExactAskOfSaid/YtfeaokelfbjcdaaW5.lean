/- Contracts of the seat: whom to ask, the reference. No condition. -/
import Derived.Test.YtfeaokelfbjcdaaW4
namespace Go.Ve
open Go.Proofs Go.RowKit
set_option linter.unusedVariables false
set_option linter.unusedSimpArgs false
set_option maxRecDepth 10000
set_option maxHeartbeats 4000000
/- spec.l12Members -/
def c55 : SCode := (.seq (.reg [⟨(some 2), .assign (.const (.slice none 0 0)), none⟩])
(.seq (.reg [⟨(some 5), .buildSlice 22 0 #[], none⟩,
    ⟨(some 3), .assign (.tmp 5), none⟩])
 (.seq (.seq (.reg [⟨(some 4), .assign (.const (.int .i64 0)), none⟩])
   (.block 0 (.loop (.seq (.seq (.reg [⟨(some 6), .move (.tmp 4), none⟩,
          ⟨(some 7), .move (.tmp 0), none⟩,
          ⟨(some 8), .call ⟨(.builtin .len), #[(.tmp 7)], #[22]⟩, none⟩,
          ⟨(some 9), .binOp .lss 3 (.tmp 6) (.tmp 8) 3, none⟩])
       (.cond (.tmp 9) .skip
        (.exit 0)))
      (.seq (.block 1 (.seq (.reg [⟨(some 12), .move (.tmp 0), none⟩,
            ⟨(some 13), .move (.tmp 4), none⟩,
            ⟨(some 14), .indexAddr 22 (.tmp 12) (.tmp 13), none⟩,
            ⟨(some 15), .load 2 (.tmp 14), none⟩,
            ⟨(some 16), .binOp .geq 2 (.tmp 15) (.const (.int .i64 0)) 2, none⟩])
         (.cond (.tmp 16) (.reg [⟨(some 17), .move (.tmp 3), none⟩,
             ⟨(some 18), .move (.tmp 0), none⟩,
             ⟨(some 19), .move (.tmp 4), none⟩,
             ⟨(some 20), .indexAddr 22 (.tmp 18) (.tmp 19), none⟩,
             ⟨(some 21), .load 2 (.tmp 20), none⟩,
             ⟨(some 22), .call ⟨(.value (.func 78)), #[(.tmp 17), (.tmp 21)], #[22, 2]⟩, none⟩,
             ⟨(some 3), .assign (.tmp 22), none⟩])
          .skip)))
       (.reg [⟨(some 10), .move (.tmp 4), none⟩,
          ⟨(some 11), .binOp .add 3 (.tmp 10) (.const (.int .i64 1)) 3, none⟩,
          ⟨(some 4), .assign (.tmp 11), none⟩]))))))
  (.seq (.reg [⟨(some 23), .move (.tmp 3), none⟩,
      ⟨(some 2), .assign (.tmp 23), none⟩])
   .ret))))
theorem s55 : slimF Try.f55 = some (c55, [.t 2], 24) := by kernel_rfl
theorem o55 : okF [] Try.f55 = true := by kernel_rfl
noncomputable def g55 : Fsem := sem1 (En.int .i64).list (fun l => l.length ≤ 1000000) (fun n l => .sl n 1 ((memG [] l).map (AV.int .i64)))
@[go_sem] theorem g55_eq {n τ : Nat} {l : List Int} : g55 n [.sl τ 1 (l.map (AV.int .i64))] = ⟨l.length ≤ 1000000, .sl n 1 ((memG [] l).map (AV.int .i64))⟩ := sem1_eq  (E := (En.int .i64).list)
theorem p55 : Pure Try.prog 55 g55 := by
  refine sem1_pure fun τ l n h2 hpre => ?_
  have hT : Table Try.prog [] := .nil
  have hn0 : n ≠ 0 := by omega
  refine SatP.of_body hT hm Try.func55 s55 o55 h2 (by simp) ?_
  have hl20 : l.length ≤ 1000000 := hpre
  generalize hr : memG [] l = r
  simp (config := {contextual := true, maxSteps := 2000000, implicitDefEqProofs := false}) [c55, go_sem]
  refine VW_listKE [] [3] hT h2 hm l [0] (fun pre post (acc : List Int) => [.row 2 1 (acc.map (AV.int .i64))]) (fun pre post (acc : List Int) => [(4, .int .i64 pre.length), (3, .osl 0 1 0 acc.length)]) (fun pre post (acc : List Int) => memG acc post = r ∧ acc.length ≤ pre.length) [] ?_ ?_ ?_ ?_
  · exact ⟨hr, by simp⟩
  · simp [SubE, SubR, go_sem]
  · rintro acc ⟨hR, hR2⟩
    simp only [memG] at hR
    subst hR
    simp (config := {contextual := true, maxSteps := 2000000, implicitDefEqProofs := false}) [go_sem, hn0]
  · rintro pre x post acc hl hlen ⟨hR, hR2⟩
    have hln : l.length = pre.length + (post.length + 1) := by rw [← hl]; simp
    have hn : nth (List.map (AV.int .i64) l) (pre.length) = (AV.int .i64) x := by rw [← hl]; simp [go_sem]
    have hw : l.length ≤ maxLen → IntKind.i64.wrap ((pre.length : Int) + 1) = (pre.length : Int) + 1 := fun h => wrap_ok (by omega) (by simp only [maxLen] at h; omega)
    have h3 : (0 : Int) ≤ (pre.length : Int) := by omega
    have h4 : (pre.length : Int) < (l.length : Int) := by omega
    have h5 : ¬ (l.length : Int) ≤ (pre.length : Int) := by omega
    simp only [memG] at hR
    by_cases hx : 0 ≤ x
    · rw [if_pos hx] at hR
      simp (config := {contextual := true, maxSteps := 2000000, implicitDefEqProofs := false}) [go_sem, hn, hw, h3, h4, h5, hx]
      intro hL
      refine ⟨78, [], rfl, [], n, [.row 2 1 ((insL x acc).map (AV.int .i64))], .osl 0 1 0 (insL x acc).length, Nat.le_refl _, List.nodup_nil, by simp, by simp [go_sem, posOf], by simpa [go_sem, rinOf, posOf] using sat_78 h2 (τ := 0) (l := acc) (v := x) (by omega), ?_⟩
      have := insL_len x acc
      simp (config := {contextual := true, maxSteps := 2000000, implicitDefEqProofs := false}) [go_sem, hw, hL, SubE, SubR, stOf, putAll, gmap, Root.ren, AV.ren, AV.ren2, AV.ren1, AV.ren0]
      refine ⟨insL x acc, ⟨hR, by omega⟩, rfl, rfl⟩
    · rw [if_neg hx] at hR
      simp (config := {contextual := true, maxSteps := 2000000, implicitDefEqProofs := false}) [go_sem, hn, hw, h3, h4, h5, hx, SubE, SubR]
      intro _
      exact ⟨acc, ⟨hR, by omega⟩, rfl, rfl⟩
/- spec.l13Ask -/
def c57 : SCode := (.seq (.reg [⟨(some 2), .assign (.const (.slice none 0 0)), none⟩])
(.seq (.reg [⟨(some 7), .buildSlice 22 0 #[], none⟩,
    ⟨(some 3), .assign (.tmp 7), none⟩])
 (.seq (.seq (.reg [⟨(some 4), .assign (.const (.int .i64 0)), none⟩])
   (.block 0 (.loop (.seq (.seq (.reg [⟨(some 8), .move (.tmp 4), none⟩,
          ⟨(some 9), .move (.tmp 0), none⟩,
          ⟨(some 10), .call ⟨(.builtin .len), #[(.tmp 9)], #[33]⟩, none⟩,
          ⟨(some 11), .binOp .lss 3 (.tmp 8) (.tmp 10) 3, none⟩])
       (.cond (.tmp 11) .skip
        (.exit 0)))
      (.seq (.block 1 (.seq (.reg [⟨(some 14), .move (.tmp 0), none⟩,
            ⟨(some 15), .move (.tmp 4), none⟩,
            ⟨(some 16), .indexAddr 33 (.tmp 14) (.tmp 15), none⟩,
            ⟨(some 17), .fieldAddr 43 (.tmp 16) 2, none⟩,
            ⟨(some 18), .load 22 (.tmp 17), none⟩,
            ⟨(some 19), .call ⟨(.value (.func 55)), #[(.tmp 18)], #[22]⟩, none⟩,
            ⟨(some 5), .assign (.tmp 19), none⟩])
         (.seq (.reg [⟨(some 6), .assign (.const (.int .i64 0)), none⟩])
          (.block 2 (.loop (.seq (.seq (.reg [⟨(some 20), .move (.tmp 6), none⟩,
                 ⟨(some 21), .move (.tmp 5), none⟩,
                 ⟨(some 22), .call ⟨(.builtin .len), #[(.tmp 21)], #[22]⟩, none⟩,
                 ⟨(some 23), .binOp .lss 3 (.tmp 20) (.tmp 22) 3, none⟩])
              (.cond (.tmp 23) .skip
               (.exit 2)))
             (.seq (.block 3 (.reg [⟨(some 26), .move (.tmp 3), none⟩,
                  ⟨(some 27), .move (.tmp 5), none⟩,
                  ⟨(some 28), .move (.tmp 6), none⟩,
                  ⟨(some 29), .indexAddr 22 (.tmp 27) (.tmp 28), none⟩,
                  ⟨(some 30), .load 2 (.tmp 29), none⟩,
                  ⟨(some 31), .call ⟨(.value (.func 78)), #[(.tmp 26), (.tmp 30)], #[22, 2]⟩, none⟩,
                  ⟨(some 3), .assign (.tmp 31), none⟩]))
              (.reg [⟨(some 24), .move (.tmp 6), none⟩,
                 ⟨(some 25), .binOp .add 3 (.tmp 24) (.const (.int .i64 1)) 3, none⟩,
                 ⟨(some 6), .assign (.tmp 25), none⟩]))))))))
       (.reg [⟨(some 12), .move (.tmp 4), none⟩,
          ⟨(some 13), .binOp .add 3 (.tmp 12) (.const (.int .i64 1)) 3, none⟩,
          ⟨(some 4), .assign (.tmp 13), none⟩]))))))
  (.seq (.reg [⟨(some 32), .move (.tmp 3), none⟩,
      ⟨(some 2), .assign (.tmp 32), none⟩])
   .ret))))
theorem s57 : slimF Try.f57 = some (c57, [.t 2], 33) := by kernel_rfl
theorem o57 : okF [(55, g55)] Try.f57 = true := by kernel_rfl
noncomputable def g57 : Fsem := sem1 enItv.list (fun ls => ls.length ≤ 60 ∧ ∀ v ∈ ls, v.acting.length ≤ 7) (fun n ls => .sl n 1 ((askG [] ls).map (AV.int .i64)))
@[go_sem] theorem g57_eq {n τ : Nat} {ls : List Itv} : g57 n [.sl τ 4 (ls.map (enItv.av τ))] = ⟨ls.length ≤ 60 ∧ ∀ v ∈ ls, v.acting.length ≤ 7, .sl n 1 ((askG [] ls).map (AV.int .i64))⟩ := sem1_eq  (E := enItv.list)
theorem p57 : Pure Try.prog 57 g57 := by
  refine sem1_pure fun τ ls n h2 hpre => ?_
  have hT : Table Try.prog [(55, g55)] := (.cons p55 .nil)
  have hn0 : n ≠ 0 := by omega
  refine SatP.of_body hT hm Try.func57 s57 o57 h2 (by simp) ?_
  obtain ⟨hl60, hl7⟩ := hpre
  generalize hr : askG [] ls = r
  simp (config := {contextual := true, maxSteps := 2000000, implicitDefEqProofs := false}) [c57, go_sem]
  refine VW_listKE [] [3] hT h2 hm ls [0] (fun pre post (acc : List Int) => [.row 2 1 (acc.map (AV.int .i64))]) (fun pre post (acc : List Int) => [(4, .int .i64 pre.length), (3, .osl 0 1 0 acc.length)]) (fun pre post (acc : List Int) => askG acc post = r ∧ acc.length ≤ 7 * pre.length) [] ?_ ?_ ?_ ?_
  · exact ⟨hr, by simp⟩
  · simp [SubE, SubR, go_sem]
  · rintro acc ⟨hR, hR2⟩
    simp only [askG] at hR
    subst hR
    simp (config := {contextual := true, maxSteps := 2000000, implicitDefEqProofs := false}) [go_sem, hn0]
  · rintro pre0 x rest acc hl hlen ⟨hR, hR2⟩
    have hln : ls.length = pre0.length + (rest.length + 1) := by rw [← hl]; simp
    have hn : nth (List.map (enItv.av τ) ls) (pre0.length) = (enItv.av τ) x := by rw [← hl]; simp [go_sem]
    have hw : ls.length ≤ maxLen → IntKind.i64.wrap ((pre0.length : Int) + 1) = (pre0.length : Int) + 1 := fun h => wrap_ok (by omega) (by simp only [maxLen] at h; omega)
    have h3 : (0 : Int) ≤ (pre0.length : Int) := by omega
    have h4 : (pre0.length : Int) < (ls.length : Int) := by omega
    have h5 : ¬ (ls.length : Int) ≤ (pre0.length : Int) := by omega
    have hx7 : x.acting.length ≤ 7 := hl7 x (by rw [← hl]; simp)
    have hm7 := memG_len x.acting []
    have hx20 : x.acting.length ≤ 1000000 := by omega
    simp only [askG] at hR
    simp (config := {contextual := true, maxSteps := 2000000, implicitDefEqProofs := false}) [go_sem, hn, hw, h3, h4, h5, hx20]
    intro hL
    generalize memG [] x.acting = ms at *
    refine VW_listKE [] [3] hT h2 hm ms [0, 4, 5] (fun pre post (acc : List Int) => [.row 2 1 (acc.map (AV.int .i64))]) (fun pre post (acc : List Int) => [(6, .int .i64 pre.length), (3, .osl 0 1 0 acc.length)]) (fun pre post (acc : List Int) => askG (putAllL acc post) rest = r ∧ acc.length ≤ 7 * pre0.length + pre.length) acc ?_ ?_ ?_ ?_
    · exact ⟨hR, by simpa using hR2⟩
    · simp [SubE, SubR, go_sem]
    · rintro acc ⟨hS, hS2⟩
      simp only [putAllL] at hS
      simp (config := {contextual := true, maxSteps := 2000000, implicitDefEqProofs := false}) [go_sem, hw, hL, SubE, SubR]
      intro _
      exact ⟨acc, ⟨hS, by simp at hm7; omega⟩, rfl, rfl⟩
    · rintro pre y post acc hl' hlen' ⟨hS, hS2⟩
      have hln' : ms.length = pre.length + (post.length + 1) := by rw [← hl']; simp
      have hn' : nth (List.map (AV.int .i64) ms) (pre.length) = (AV.int .i64) y := by rw [← hl']; simp [go_sem]
      have hw' : ms.length ≤ maxLen → IntKind.i64.wrap ((pre.length : Int) + 1) = (pre.length : Int) + 1 := fun h => wrap_ok (by omega) (by simp only [maxLen] at h; omega)
      have h3' : (0 : Int) ≤ (pre.length : Int) := by omega
      have h4' : (pre.length : Int) < (ms.length : Int) := by omega
      have h5' : ¬ (ms.length : Int) ≤ (pre.length : Int) := by omega
      simp only [putAllL] at hS
      simp (config := {contextual := true, maxSteps := 2000000, implicitDefEqProofs := false}) [go_sem, hn', hw', h3', h4', h5']
      intro hL'
      refine ⟨78, [], rfl, [], n, [.row 2 1 ((insL y acc).map (AV.int .i64))], .osl 0 1 0 (insL y acc).length, Nat.le_refl _, List.nodup_nil, by simp, by simp [go_sem, posOf], by simpa [go_sem, rinOf, posOf] using sat_78 h2 (τ := 0) (l := acc) (v := y) (by simp at hm7; omega), ?_⟩
      have := insL_len y acc
      simp (config := {contextual := true, maxSteps := 2000000, implicitDefEqProofs := false}) [go_sem, hw', hL', SubE, SubR, stOf, putAll, gmap, Root.ren, AV.ren, AV.ren2, AV.ren1, AV.ren0]
      exact ⟨insL y acc, ⟨hS, by omega⟩, rfl, rfl⟩
end Go.Ve
