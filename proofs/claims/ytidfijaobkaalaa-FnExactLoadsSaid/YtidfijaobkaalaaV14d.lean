/- Contracts of the seat: slices.Concat. No condition. -/
import Derived.Test.YtidfijaobkaalaaV14
import Derived.Test.YtidfijaobkaalaaV14g
namespace Go.Ve
open Go.Proofs Go.RowKit
set_option linter.unusedVariables false
set_option linter.unusedSimpArgs false
set_option maxRecDepth 10000
set_option maxHeartbeats 4000000
/- slices.Concat[[]int64,int64] -/
def c109 : SCode := (.seq (.reg [⟨(some 2), .assign (.const (.slice none 0 0)), none⟩])
(.seq (.reg [⟨(some 3), .assign (.const (.int .i64 0)), none⟩])
 (.seq (.seq (.reg [⟨(some 9), .move (.tmp 0), none⟩,
      ⟨(some 10), .call ⟨(.builtin .len), #[(.tmp 9)], #[53]⟩, none⟩,
      ⟨(some 11), .move (.const (.int .i64 0)), none⟩])
   (.block 0 (.loop (.seq (.reg [⟨(some 12), .binOp .lss 3 (.tmp 11) (.tmp 10) 3, none⟩])
      (.seq (.cond (.tmp 12) .skip
        (.exit 0))
       (.seq (.block 1 (.seq (.reg [⟨(some 13), .indexAddr 53 (.tmp 9) (.tmp 11), none⟩,
             ⟨(some 14), .load 28 (.tmp 13), none⟩,
             ⟨(some 5), .assign (.tmp 14), none⟩])
          (.seq (.reg [⟨(some 15), .move (.tmp 3), none⟩,
              ⟨(some 16), .move (.tmp 5), none⟩,
              ⟨(some 17), .call ⟨(.builtin .len), #[(.tmp 16)], #[28]⟩, none⟩,
              ⟨(some 18), .binOp .add 3 (.tmp 15) (.tmp 17) 3, none⟩,
              ⟨(some 3), .assign (.tmp 18), none⟩])
           (.seq (.reg [⟨(some 19), .move (.tmp 3), none⟩,
               ⟨(some 20), .binOp .lss 3 (.tmp 19) (.const (.int .i64 0)) 3, none⟩])
            (.cond (.tmp 20) (.reg [⟨(some 21), .makeInterface 9 (.const (.string ⟨#[108, 101, 110, 32, 111, 117, 116, 32, 111, 102, 32, 114, 97, 110, 103, 101]⟩)), none⟩,
                ⟨none, .panic (.tmp 21), none⟩])
             .skip)))))
        (.reg [⟨(some 22), .binOp .add 3 (.tmp 11) (.const (.int .i64 1)) 3, none⟩,
           ⟨(some 11), .move (.tmp 22), none⟩])))))))
  (.seq (.reg [⟨(some 23), .move (.tmp 3), none⟩,
      ⟨(some 24), .call ⟨(.value (.func 133)), #[(.const (.slice none 0 0)), (.tmp 23)], #[28, 3]⟩, none⟩,
      ⟨(some 6), .assign (.tmp 24), none⟩])
   (.seq (.seq (.reg [⟨(some 25), .move (.tmp 0), none⟩,
        ⟨(some 26), .call ⟨(.builtin .len), #[(.tmp 25)], #[53]⟩, none⟩,
        ⟨(some 27), .move (.const (.int .i64 0)), none⟩])
     (.block 2 (.loop (.seq (.reg [⟨(some 28), .binOp .lss 3 (.tmp 27) (.tmp 26) 3, none⟩])
        (.seq (.cond (.tmp 28) .skip
          (.exit 2))
         (.seq (.block 3 (.seq (.reg [⟨(some 29), .indexAddr 53 (.tmp 25) (.tmp 27), none⟩,
               ⟨(some 30), .load 28 (.tmp 29), none⟩,
               ⟨(some 8), .assign (.tmp 30), none⟩])
            (.reg [⟨(some 31), .move (.tmp 6), none⟩,
               ⟨(some 32), .move (.tmp 8), none⟩,
               ⟨(some 33), .call ⟨(.builtin .append), #[(.tmp 31), (.tmp 32)], #[28, 28]⟩, none⟩,
               ⟨(some 6), .assign (.tmp 33), none⟩])))
          (.reg [⟨(some 34), .binOp .add 3 (.tmp 27) (.const (.int .i64 1)) 3, none⟩,
             ⟨(some 27), .move (.tmp 34), none⟩])))))))
    (.seq (.reg [⟨(some 35), .move (.tmp 6), none⟩,
        ⟨(some 2), .assign (.tmp 35), none⟩])
     .ret))))))
theorem s109 : slimF Try.f109 = some (c109, [.t 2], 36) := by kernel_rfl
theorem o109 : okF [] Try.f109 = true := by kernel_rfl
noncomputable def g109 : Fsem := sem1 (En.int .i64).list.list (fun p => (flatL p).length ≤ 1048576) (fun n p => .sl n 1 ((flatL p).map (AV.int .i64)))
@[go_sem] theorem g109_eq {n τ : Nat} {p : List (List Int)} : g109 n [.sl τ 1 (p.map ((En.int .i64).list.av τ))] = ⟨(flatL p).length ≤ 1048576, .sl n 1 ((flatL p).map (AV.int .i64))⟩ := sem1_eq  (E := (En.int .i64).list.list)
theorem p109 : Pure Try.prog 109 g109 := by
  refine sem1_pure fun τ p n h2 hpre => ?_
  have hT : Table Try.prog [] := .nil
  have hn0 : n ≠ 0 := by omega
  refine SatP.of_body hT hm Try.func109 s109 o109 h2 (by simp) ?_
  have hb : (flatL p).length ≤ 1048576 := hpre
  simp (config := {contextual := true, maxSteps := 2000000, implicitDefEqProofs := false}) [c109, go_sem]
  intro hL
  refine VW_listK hT h2 hm p [0, 9, 10] (fun pre post (b : Int) => [(11, .int .i64 pre.length), (3, .int .i64 b)]) (fun pre post (b : Int) => b + ((flatL post).length : Int) = ((flatL p).length : Int) ∧ 0 ≤ b) 0 ?_ ?_ ?_ ?_
  · exact ⟨by omega, by omega⟩
  · simp [SubI, go_sem]
  · rintro b ⟨hR, hR2⟩
    simp [flatL] at hR
    subst hR
    simp (config := {contextual := true, maxSteps := 2000000, implicitDefEqProofs := false}) [go_sem]
    refine ⟨133, [], rfl, [], n, [.row 2 1 []], .osl 0 1 0 0, Nat.le_refl _, List.nodup_nil, by simp, by simp [go_sem], by simpa [go_sem, rinOf] using sat_grow (n := n) (m := (flatL p).length) hb, ?_⟩
    simp (config := {contextual := true, maxSteps := 2000000, implicitDefEqProofs := false}) [go_sem, stOf, putAll, gmap, Root.ren, AV.ren, AV.ren2, AV.ren1, AV.ren0]
    intro hL2
    refine VW_listKE [] [6] hT h2 hm p [25, 26] (fun pre post (acc : List Int) => [.row 2 1 (acc.map (AV.int .i64))]) (fun pre post (acc : List Int) => [(27, .int .i64 pre.length), (6, .osl 0 1 0 acc.length)]) (fun pre post (acc : List Int) => acc = flatL pre) [] ?_ ?_ ?_ ?_
    · rfl
    · simp [SubE, SubR, go_sem]
    · rintro acc hR
      subst hR
      simp (config := {contextual := true, maxSteps := 2000000, implicitDefEqProofs := false}) [go_sem, hn0]
    · rintro pre x rest acc hl hlen hR
      have hln : p.length = pre.length + (rest.length + 1) := by rw [← hl]; simp
      have hn : nth (List.map ((En.list (En.int .i64)).av τ) p) (pre.length) = ((En.list (En.int .i64)).av τ) x := by rw [← hl]; simp [go_sem]
      have hw : p.length ≤ maxLen → IntKind.i64.wrap ((pre.length : Int) + 1) = (pre.length : Int) + 1 := fun h => wrap_ok (by omega) (by simp only [maxLen] at h; omega)
      have h3 : (0 : Int) ≤ (pre.length : Int) := by omega
      have h4 : (pre.length : Int) < (p.length : Int) := by omega
      have h5 : ¬ (p.length : Int) ≤ (pre.length : Int) := by omega
      have hfl : (flatL pre).length + x.length ≤ 1048576 := by
        have : flatL p = flatL pre ++ (x ++ flatL rest) := by rw [← hl, flatL_append]; rfl
        have := congrArg List.length this
        simp only [List.length_append] at this
        omega
      have hac : acc.length + x.length ≤ 1048576 := by rw [hR]; exact hfl
      have hf : flatL (pre ++ [x]) = acc ++ x := by rw [hR, flatL_one]
      simp (config := {contextual := true, maxSteps := 2000000, implicitDefEqProofs := false}) [go_sem, hn, hw, h3, h4, h5, hL2, hf, SubE, SubR]
      omega
  · rintro pre x rest b hl hlen ⟨hR, hR2⟩
    have hln : p.length = pre.length + (rest.length + 1) := by rw [← hl]; simp
    have hn : nth (List.map ((En.list (En.int .i64)).av τ) p) (pre.length) = ((En.list (En.int .i64)).av τ) x := by rw [← hl]; simp [go_sem]
    have hw : p.length ≤ maxLen → IntKind.i64.wrap ((pre.length : Int) + 1) = (pre.length : Int) + 1 := fun h => wrap_ok (by omega) (by simp only [maxLen] at h; omega)
    have h3 : (0 : Int) ≤ (pre.length : Int) := by omega
    have h4 : (pre.length : Int) < (p.length : Int) := by omega
    have h5 : ¬ (p.length : Int) ≤ (pre.length : Int) := by omega
    simp only [flatL, List.length_append, Int.natCast_add] at hR
    have hwb : IntKind.i64.wrap (b + (x.length : Int)) = b + (x.length : Int) := wrap_ok (by omega) (by omega)
    have hnb : ¬ b + (x.length : Int) < 0 := by omega
    have hnb' : 0 ≤ b + (x.length : Int) := by omega
    simp (config := {contextual := true, maxSteps := 2000000, implicitDefEqProofs := false}) [go_sem, hn, hw, h3, h4, h5, SubI, hwb, hnb, hL]
    intros
    first | exact ⟨by omega, by omega⟩ | omega
end Go.Ve
