/- Contracts of the seat: marks of loads. No condition. -/
import Derived.Test.YtidfijaobkaalaaV20
namespace Go.Ve
open Go.Proofs Go.RowKit
set_option linter.unusedVariables false
set_option linter.unusedSimpArgs false
set_option maxRecDepth 10000
set_option maxHeartbeats 4000000
/- laws.markLoadS -/
def c29 : SCode := (.seq (.reg [⟨(some 4), .assign (.const (.int .i64 0)), none⟩])
(.seq (.seq (.reg [⟨(some 5), .assign (.const (.int .i64 0)), none⟩])
  (.block 0 (.loop (.seq (.seq (.reg [⟨(some 6), .move (.tmp 5), none⟩,
         ⟨(some 7), .move (.tmp 0), none⟩,
         ⟨(some 8), .call ⟨(.builtin .len), #[(.tmp 7)], #[56]⟩, none⟩,
         ⟨(some 9), .binOp .lss 3 (.tmp 6) (.tmp 8) 3, none⟩])
      (.cond (.tmp 9) .skip
       (.exit 0)))
     (.seq (.block 1 (.seq (.reg [⟨(some 12), .move (.tmp 0), none⟩,
           ⟨(some 13), .move (.tmp 5), none⟩,
           ⟨(some 14), .move (.tmp 1), none⟩,
           ⟨(some 15), .indexAddr 56 (.tmp 12) (.tmp 13), none⟩,
           ⟨(some 16), .fieldAddr 97 (.tmp 15) 0, none⟩,
           ⟨none, .store 2 (.tmp 16) (.tmp 14), none⟩])
        (.seq (.reg [⟨(some 17), .move (.tmp 1), none⟩,
            ⟨(some 18), .binOp .add 3 (.tmp 17) (.const (.int .i64 1)) 3, none⟩,
            ⟨(some 1), .assign (.tmp 18), none⟩])
         (.seq (.reg [⟨(some 19), .move (.tmp 0), none⟩,
             ⟨(some 20), .move (.tmp 5), none⟩,
             ⟨(some 21), .move (.tmp 1), none⟩,
             ⟨(some 22), .indexAddr 56 (.tmp 19) (.tmp 20), none⟩,
             ⟨(some 23), .fieldAddr 97 (.tmp 22) 1, none⟩,
             ⟨none, .store 2 (.tmp 23) (.tmp 21), none⟩])
          (.reg [⟨(some 24), .move (.tmp 1), none⟩,
             ⟨(some 25), .binOp .add 3 (.tmp 24) (.const (.int .i64 1)) 3, none⟩,
             ⟨(some 1), .assign (.tmp 25), none⟩])))))
      (.reg [⟨(some 10), .move (.tmp 5), none⟩,
         ⟨(some 11), .binOp .add 3 (.tmp 10) (.const (.int .i64 1)) 3, none⟩,
         ⟨(some 5), .assign (.tmp 11), none⟩]))))))
 (.seq (.reg [⟨(some 26), .move (.tmp 1), none⟩,
     ⟨(some 4), .assign (.tmp 26), none⟩])
  .ret)))
theorem s29 : slimF Try.f29 = some (c29, [.t 4], 27) := by kernel_rfl
theorem o29 : okF [] Try.f29 = true := by kernel_rfl
theorem sat_29 {n : Nat} (h2 : 2 ≤ n) {μ : Nat} {k : Int} {ls : List Load} (hk0 : 0 ≤ k) (hk1 : k + 2 * (ls.length : Int) ≤ 1152921504606846976) : SatM Try.prog n 29 [.row 97 2 (ls.map (enLoad.av μ))] [.osl 0 2 0 ls.length, .int .i64 k] [.row 97 2 ((mkL k ls).map (enLoad.av μ))] (.int .i64 (k + 2 * (ls.length : Int))) := by
  have hT : Table Try.prog [] := .nil
  have hn0 : n ≠ 0 := by omega
  refine SatM.of_bodyV hT hm Try.func29 s29 o29 h2 (by simp) ?_
  simp (config := {contextual := true, maxSteps := 2000000, implicitDefEqProofs := false}) [c29, go_sem]
  refine VW_listKE [] [0] hT h2 hm ls [0] (fun pre post (u0 : Unit) => [.row 97 2 ((mkL k pre).map (enLoad.av μ) ++ post.map (enLoad.av μ))]) (fun pre post (u0 : Unit) => [(5, .int .i64 pre.length), (1, .int .i64 (k + 2 * (pre.length : Int)))]) (fun pre post (u0 : Unit) => True) () ?_ ?_ ?_ ?_
  · trivial
  · simp [SubE, SubR, go_sem, mkL]
  · intro _ _
    have hfin : (mkL k ls).length = ls.length := mkL_len
    simp (config := {contextual := true, maxSteps := 2000000, implicitDefEqProofs := false}) [go_sem]
    intro _
    refine ⟨_, [0], Sub.refl 1 _, ?_⟩
    simp [retM, resAV, rvV, rinOf, Root.rnp, AV.rnp, AV.rnp2, AV.rnp1, AV.rnp0, posOf, go_sem, Rz, nz_int, nz_osl, nz_tup]
  · rintro pre x post _ hl hlen _
    have hA : ((mkL k pre).map (enLoad.av μ)).length = pre.length := by rw [List.length_map, mkL_len]
    have hone : (mkL k (pre ++ [x])).map (enLoad.av μ) = (mkL k pre).map (enLoad.av μ) ++ [.agg [.int .i64 (k + 2 * (pre.length : Int)), .int .i64 (k + 2 * (pre.length : Int) + 1)]] := by
      rw [mkL_one]; simp [go_sem]
    have hlen2 : (ls.length : Int) = (pre.length : Int) + ((post.length : Int) + 1) := by omega
    have hll : (mkL k pre).length = pre.length := mkL_len
    generalize (mkL k pre).map (enLoad.av μ) = A at *
    have hnA : ∀ y : AV, nth (A ++ y :: List.map (enLoad.av μ) post) pre.length = y := fun y => by rw [← hA]; simp [go_sem]
    have hsA : ∀ y z : AV, (A ++ y :: List.map (enLoad.av μ) post).set pre.length z = A ++ z :: List.map (enLoad.av μ) post := fun y z => by rw [← hA]; simp
    have hAl : ∀ y : AV, (A ++ y :: List.map (enLoad.av μ) post).length = A.length + (post.length + 1) := fun y => by simp
    have w1 : IntKind.i64.wrap (k + 2 * (pre.length : Int) + 1) = k + 2 * (pre.length : Int) + 1 := wrap_ok (by omega) (by omega)
    have w2 : IntKind.i64.wrap (k + 2 * (pre.length : Int) + 1 + 1) = k + 2 * (pre.length : Int) + 1 + 1 := wrap_ok (by omega) (by omega)
    have w3 : ls.length ≤ maxLen → IntKind.i64.wrap ((pre.length : Int) + 1) = (pre.length : Int) + 1 := fun h => wrap_ok (by omega) (by simp only [maxLen] at h; omega)
    have h3 : (0 : Int) ≤ pre.length := by omega
    have h4 : (pre.length : Int) < (ls.length : Int) := by omega
    have h5 : ¬ (ls.length : Int) ≤ (pre.length : Int) := by omega
    have h6 : pre.length < A.length + (post.length + 1) := by omega
    have h7 : (k + 2 * (((pre ++ [x]).length : Nat) : Int)) = k + 2 * (pre.length : Int) + 1 + 1 := by simp; omega
    simp (config := {contextual := true, maxSteps := 2000000, implicitDefEqProofs := false}) [go_sem, hnA, hsA, hAl, w1, w2, w3, h3, h4, h5, h6, hone, SubE, SubR, setEl]
    intros
    omega
/- laws.heldLoadS -/
def c30 : SCode := (.seq (.reg [⟨(some 4), .assign (.const (.int .i64 0)), none⟩])
(.seq (.seq (.reg [⟨(some 5), .assign (.const (.int .i64 0)), none⟩])
  (.block 0 (.loop (.seq (.seq (.reg [⟨(some 6), .move (.tmp 5), none⟩,
         ⟨(some 7), .move (.tmp 0), none⟩,
         ⟨(some 8), .call ⟨(.builtin .len), #[(.tmp 7)], #[56]⟩, none⟩,
         ⟨(some 9), .binOp .lss 3 (.tmp 6) (.tmp 8) 3, none⟩])
      (.cond (.tmp 9) .skip
       (.exit 0)))
     (.seq (.block 1 (.seq (.seq (.reg [⟨(some 12), .move (.tmp 0), none⟩,
            ⟨(some 13), .move (.tmp 5), none⟩,
            ⟨(some 14), .indexAddr 56 (.tmp 12) (.tmp 13), none⟩,
            ⟨(some 15), .fieldAddr 97 (.tmp 14) 0, none⟩,
            ⟨(some 16), .load 2 (.tmp 15), none⟩,
            ⟨(some 17), .move (.tmp 1), none⟩,
            ⟨(some 18), .binOp .neq 2 (.tmp 16) (.tmp 17) 2, none⟩])
         (.cond (.tmp 18) (.seq (.reg [⟨(some 4), .assign (.const (.int .i64 (-1))), none⟩])
           .ret)
          .skip))
        (.seq (.reg [⟨(some 19), .move (.tmp 1), none⟩,
            ⟨(some 20), .binOp .add 3 (.tmp 19) (.const (.int .i64 1)) 3, none⟩,
            ⟨(some 1), .assign (.tmp 20), none⟩])
         (.seq (.seq (.reg [⟨(some 21), .move (.tmp 0), none⟩,
              ⟨(some 22), .move (.tmp 5), none⟩,
              ⟨(some 23), .indexAddr 56 (.tmp 21) (.tmp 22), none⟩,
              ⟨(some 24), .fieldAddr 97 (.tmp 23) 1, none⟩,
              ⟨(some 25), .load 2 (.tmp 24), none⟩,
              ⟨(some 26), .move (.tmp 1), none⟩,
              ⟨(some 27), .binOp .neq 2 (.tmp 25) (.tmp 26) 2, none⟩])
           (.cond (.tmp 27) (.seq (.reg [⟨(some 4), .assign (.const (.int .i64 (-1))), none⟩])
             .ret)
            .skip))
          (.reg [⟨(some 28), .move (.tmp 1), none⟩,
             ⟨(some 29), .binOp .add 3 (.tmp 28) (.const (.int .i64 1)) 3, none⟩,
             ⟨(some 1), .assign (.tmp 29), none⟩])))))
      (.reg [⟨(some 10), .move (.tmp 5), none⟩,
         ⟨(some 11), .binOp .add 3 (.tmp 10) (.const (.int .i64 1)) 3, none⟩,
         ⟨(some 5), .assign (.tmp 11), none⟩]))))))
 (.seq (.reg [⟨(some 30), .move (.tmp 1), none⟩,
     ⟨(some 4), .assign (.tmp 30), none⟩])
  .ret)))
theorem s30 : slimF Try.f30 = some (c30, [.t 4], 31) := by kernel_rfl
theorem o30 : okF [] Try.f30 = true := by kernel_rfl
noncomputable def g30 : Fsem := sem2 enLoad.list (En.int .i64) (fun ls k => 0 ≤ k ∧ k + 2 * (ls.length : Int) ≤ 1152921504606846976) (fun n ls k => .int .i64 (hldL k ls))
@[go_sem] theorem g30_eq {n τ : Nat} {ls : List Load} {k : Int} : g30 n [.sl τ 2 (ls.map (enLoad.av τ)), .int .i64 k] = ⟨0 ≤ k ∧ k + 2 * (ls.length : Int) ≤ 1152921504606846976, .int .i64 (hldL k ls)⟩ := sem2_eq (τ' := 0) (E := enLoad.list) (F := (En.int .i64))
theorem p30 : Pure Try.prog 30 g30 := by
  refine sem2_pure fun τ τ' ls k n h2 hpre => ?_
  have hT : Table Try.prog [] := .nil
  have hn0 : n ≠ 0 := by omega
  refine SatP.of_body hT hm Try.func30 s30 o30 h2 (by simp) ?_
  obtain ⟨p1, p2⟩ := hpre
  generalize hr : hldL k ls = r
  simp (config := {contextual := true, maxSteps := 2000000, implicitDefEqProofs := false}) [c30, go_sem]
  refine VW_listK hT h2 hm ls [0] (fun pre post (b : Int) => [(5, .int .i64 pre.length), (1, .int .i64 b)]) (fun pre post (b : Int) => hldL b post = r ∧ b = k + 2 * (pre.length : Int)) k ?_ ?_ ?_ ?_
  · exact ⟨hr, by simp⟩
  · simp [SubI, go_sem]
  · rintro b ⟨hR, hb⟩
    simp (config := {contextual := true, maxSteps := 2000000, implicitDefEqProofs := false}) [go_sem]
    intro _
    simpa [hldL] using hR
  · rintro pre x post b hl hlen ⟨hR, hb⟩
    have hln : ls.length = pre.length + (post.length + 1) := by rw [← hl]; simp
    have hn : nth (List.map (enLoad.av τ) ls) (pre.length) = (enLoad.av τ) x := by rw [← hl]; simp [go_sem]
    have hw : ls.length ≤ maxLen → IntKind.i64.wrap ((pre.length : Int) + 1) = (pre.length : Int) + 1 := fun h => wrap_ok (by omega) (by simp only [maxLen] at h; omega)
    have h3 : (0 : Int) ≤ (pre.length : Int) := by omega
    have h4 : (pre.length : Int) < (ls.length : Int) := by omega
    have h5 : ¬ (ls.length : Int) ≤ (pre.length : Int) := by omega
    have w1 : IntKind.i64.wrap (b + 1) = b + 1 := wrap_ok (by omega) (by omega)
    have w2 : IntKind.i64.wrap (b + 1 + 1) = b + 1 + 1 := wrap_ok (by omega) (by omega)
    have e2 : b + 2 = b + 1 + 1 := by omega
    simp only [hldL, e2] at hR
    simp (config := {contextual := true, maxSteps := 2000000, implicitDefEqProofs := false}) [go_sem, hn, hw, h3, h4, h5, w1, w2, SubI]
    intros
    refine ⟨fun h => ?_, fun h => ⟨fun h' => ?_, fun h' => ?_⟩⟩
    · rw [if_neg (fun h0 => h h0.1)] at hR; exact hR
    · rw [if_neg (fun h0 => h' h0.2)] at hR; exact hR
    · rw [if_pos ⟨h, h'⟩] at hR; exact ⟨hR, by omega⟩
end Go.Ve
