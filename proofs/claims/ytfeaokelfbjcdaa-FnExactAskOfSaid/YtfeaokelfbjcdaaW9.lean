/- The law of AskOf. No condition. -/
import Derived.Test.YtfeaokelfbjcdaaW7
import Derived.Test.YtfeaokelfbjcdaaW8
namespace Go.Ve
open Go.Proofs Go.RowKit
set_option linter.unusedVariables false
set_option linter.unusedSimpArgs false
set_option maxRecDepth 10000
set_option maxHeartbeats 4000000
def mItvs (l : List Itv) : AV := .sl 1 4 (l.map fun v => .agg [.leaf, .leaf, .sl 1 1 (v.acting.map fun _ => .leaf), .leaf])
theorem lfItv {μ : Nat} {l : List Itv} : LfV μ (.sl μ 4 (l.map (enItv.av μ))) (mItvs l) := by
  refine .c _ _ (Lf.map fun a _ => ?_)
  simp only [go_sem]
  exact lfE_agg ⟨.int .., .int .., Lf.map fun b _ => lfE_one rfl rfl (.int ..), .bool .., trivial⟩
theorem cmItv : ∀ {l : List Itv}, 0 ≤ ((l.map fun v : Itv => AV.agg [.leaf, .leaf, .sl 1 1 (v.acting.map fun _ => .leaf), .leaf]).map cm34).sum ∧ ((l.map fun v : Itv => AV.agg [.leaf, .leaf, .sl 1 1 (v.acting.map fun _ => .leaf), .leaf]).map cm34).sum ≤ 3 * ((l.length + (l.map enItv.tot).sum : Nat) : Int)
  | [] => by simp
  | b :: l => by
    have := cmItv (l := l)
    have hb : cm34 (.agg [.leaf, .leaf, .sl 1 1 (b.acting.map fun _ => .leaf), .leaf]) = 3 + (b.acting.length : Int) := by simp [cm34]
    have ht : enItv.tot b = b.acting.length := tot_Itv
    simp only [List.map_cons, List.sum_cons, List.length_cons, hb, ht] at *
    omega
theorem itvM {l : List Itv} : ∀ x ∈ (l.map fun v : Itv => AV.agg [.leaf, .leaf, .sl 1 1 (v.acting.map fun _ => .leaf), .leaf]), ∃ ys, x = .agg [.leaf, .leaf, .sl 1 1 ys, .leaf] ∧ ∀ y ∈ ys, y = .leaf := fun x hx => by
  obtain ⟨b, _, rfl⟩ := List.mem_map.1 hx
  refine ⟨_, rfl, fun y hy => ?_⟩
  obtain ⟨_, _, rfl⟩ := List.mem_map.1 hy
  rfl
theorem markItv_ok {x : List Itv} {k : Int} (hk : 0 ≤ k ∧ k ≤ 1099511627776) (ht : x.length + (x.map enItv.tot).sum ≤ 1048576) : ∃ K, MSat Try.prog 34 [mItvs x, .int .i64 k] (.int .i64 K) ∧ k ≤ K ∧ K ≤ k + 4194304 := by
  have h1 := (cmItv (l := x))
  refine ⟨_, pm34 [mItvs x, .int .i64 k] ⟨itvM, hk.1, ?_⟩, ?_, ?_⟩ <;> omega
theorem askG_len : ∀ (l : List Itv) (acc : List Int), (∀ v ∈ l, v.acting.length ≤ 7) → (askG acc l).length ≤ acc.length + 7 * l.length
  | [], acc, _ => by simp [askG]
  | v :: l, acc, h => by
    have h1 := askG_len l (putAllL acc (memG [] v.acting)) fun w hw => h w (List.mem_cons_of_mem _ hw)
    have h2 := putAllL_len (memG [] v.acting) acc
    have h3 := memG_len v.acting []
    have h4 := h v (List.mem_cons_self ..)
    simp only [askG, List.length_cons, List.length_nil] at *
    omega
theorem askR_len {l : List Itv} : (askR l).length ≤ 420 := by
  unfold askR
  by_cases h : itvsOk l = true
  · rw [if_pos h]
    simp only [itvsOk, Bool.and_eq_true, decide_eq_true_eq] at h
    have := askG_len l [] fun v hv => by
      have h1 := itvL_act h.1 v hv
      simp only [actOk, btw, Bool.and_eq_true, decide_eq_true_eq] at h1
      omega
    simp only [List.length_nil] at this
    omega
  · rw [if_neg h]; simp
/- laws.FnExactAskOf -/
def c9 : SCode := (.seq (.reg [⟨(some 2), .assign (.const (.bool false)), none⟩])
(.seq (.reg [⟨(some 3), .assign (.const (.int .i64 1048576)), none⟩])
 (.seq (.reg [⟨(some 11), .move (.tmp 0), none⟩,
     ⟨(some 12), .move (.tmp 3), none⟩,
     ⟨(some 13), .call ⟨(.value (.func 27)), #[(.tmp 11), (.tmp 12)], #[30, 3]⟩, none⟩,
     ⟨(some 3), .assign (.tmp 13), none⟩])
  (.seq (.seq (.reg [⟨(some 14), .move (.tmp 3), none⟩,
       ⟨(some 15), .binOp .lss 3 (.tmp 14) (.const (.int .i64 0)) 3, none⟩])
    (.cond (.tmp 15) (.seq (.reg [⟨(some 2), .assign (.const (.bool true)), none⟩])
      .ret)
     .skip))
   (.seq (.reg [⟨(some 16), .move (.tmp 0), none⟩,
       ⟨(some 17), .call ⟨(.value (.func 29)), #[(.tmp 16)], #[30]⟩, none⟩,
       ⟨(some 18), .call ⟨(.value (.func 32)), #[(.tmp 17)], #[33]⟩, none⟩,
       ⟨(some 4), .assign (.tmp 18), none⟩])
    (.seq (.reg [⟨(some 19), .move (.tmp 0), none⟩,
        ⟨(some 20), .call ⟨(.value (.func 29)), #[(.tmp 19)], #[30]⟩, none⟩,
        ⟨(some 5), .assign (.tmp 20), none⟩])
     (.seq (.reg [⟨(some 21), .move (.tmp 5), none⟩,
         ⟨(some 22), .call ⟨(.value (.func 33)), #[(.tmp 21)], #[33]⟩, none⟩,
         ⟨(some 6), .assign (.tmp 22), none⟩])
      (.seq (.seq (.reg [⟨(some 23), .move (.tmp 6), none⟩,
           ⟨(some 24), .move (.tmp 4), none⟩,
           ⟨(some 25), .call ⟨(.value (.func 16)), #[(.tmp 23), (.tmp 24)], #[22, 22]⟩, none⟩,
           ⟨(some 26), .unOp .not 4 (.tmp 25), none⟩])
        (.cond (.tmp 26) (.seq (.reg [⟨(some 2), .assign (.const (.bool false)), none⟩])
          .ret)
         .skip))
       (.seq (.seq (.reg [⟨(some 27), .move (.tmp 5), none⟩,
            ⟨(some 28), .move (.tmp 0), none⟩,
            ⟨(some 29), .call ⟨(.value (.func 29)), #[(.tmp 28)], #[30]⟩, none⟩,
            ⟨(some 30), .call ⟨(.value (.func 31)), #[(.tmp 27), (.tmp 29)], #[33, 33]⟩, none⟩,
            ⟨(some 31), .unOp .not 4 (.tmp 30), none⟩])
         (.cond (.tmp 31) (.seq (.reg [⟨(some 2), .assign (.const (.bool false)), none⟩])
           .ret)
          .skip))
        (.seq (.reg [⟨(some 7), .assign (.const (.int .i64 1)), none⟩])
         (.seq (.reg [⟨(some 32), .move (.tmp 5), none⟩,
             ⟨(some 33), .move (.tmp 7), none⟩,
             ⟨(some 34), .call ⟨(.value (.func 34)), #[(.tmp 32), (.tmp 33)], #[33, 3]⟩, none⟩,
             ⟨(some 7), .assign (.tmp 34), none⟩])
          (.seq (.seq (.reg [⟨(some 35), .move (.tmp 7), none⟩,
               ⟨(some 36), .binOp .lss 3 (.tmp 35) (.const (.int .i64 0)) 3, none⟩,
               ⟨(some 37), .move (.tmp 36), none⟩,
               ⟨(some 38), .move (.tmp 6), (some (37, false))⟩,
               ⟨(some 39), .move (.tmp 4), (some (37, false))⟩,
               ⟨(some 40), .call ⟨(.value (.func 16)), #[(.tmp 38), (.tmp 39)], #[22, 22]⟩, (some (37, false))⟩,
               ⟨(some 41), .unOp .not 4 (.tmp 40), (some (37, false))⟩,
               ⟨(some 42), .pick (.tmp 37) (.const (.bool true)) (.tmp 41), none⟩])
            (.cond (.tmp 42) (.seq (.reg [⟨(some 2), .assign (.const (.bool false)), none⟩])
              .ret)
             .skip))
           (.seq (.reg [⟨(some 8), .assign (.const (.int .i64 1)), none⟩])
            (.seq (.reg [⟨(some 43), .move (.tmp 6), none⟩,
                ⟨(some 44), .move (.tmp 8), none⟩,
                ⟨(some 45), .call ⟨(.value (.func 25)), #[(.tmp 43), (.tmp 44)], #[22, 3]⟩, none⟩,
                ⟨(some 8), .assign (.tmp 45), none⟩])
             (.seq (.reg [⟨(some 9), .assign (.const (.int .i64 1)), none⟩])
              (.seq (.reg [⟨(some 46), .move (.tmp 6), none⟩,
                  ⟨(some 47), .move (.tmp 9), none⟩,
                  ⟨(some 48), .call ⟨(.value (.func 26)), #[(.tmp 46), (.tmp 47)], #[22, 3]⟩, none⟩,
                  ⟨(some 9), .assign (.tmp 48), none⟩])
               (.seq (.seq (.reg [⟨(some 49), .move (.tmp 9), none⟩,
                    ⟨(some 50), .binOp .lss 3 (.tmp 49) (.const (.int .i64 0)) 3, none⟩])
                 (.cond (.tmp 50) (.seq (.reg [⟨(some 2), .assign (.const (.bool false)), none⟩])
                   .ret)
                  .skip))
                (.seq (.seq (.reg [⟨(some 51), .move (.tmp 9), none⟩,
                     ⟨(some 52), .move (.tmp 8), none⟩,
                     ⟨(some 53), .binOp .neq 3 (.tmp 51) (.tmp 52) 3, none⟩])
                  (.cond (.tmp 53) (.seq (.reg [⟨(some 2), .assign (.const (.bool false)), none⟩])
                    .ret)
                   .skip))
                 (.seq (.reg [⟨(some 54), .move (.tmp 0), none⟩,
                     ⟨(some 55), .call ⟨(.value (.func 29)), #[(.tmp 54)], #[30]⟩, none⟩,
                     ⟨(some 56), .call ⟨(.value (.func 33)), #[(.tmp 55)], #[33]⟩, none⟩,
                     ⟨(some 10), .assign (.tmp 56), none⟩])
                  (.seq (.seq (.reg [⟨(some 57), .move (.tmp 10), none⟩,
                       ⟨(some 58), .move (.tmp 4), none⟩,
                       ⟨(some 59), .call ⟨(.value (.func 16)), #[(.tmp 57), (.tmp 58)], #[22, 22]⟩, none⟩,
                       ⟨(some 60), .unOp .not 4 (.tmp 59), none⟩])
                    (.cond (.tmp 60) (.seq (.reg [⟨(some 2), .assign (.const (.bool false)), none⟩])
                      .ret)
                     .skip))
                   (.seq (.reg [⟨(some 9), .assign (.const (.int .i64 1)), none⟩])
                    (.seq (.reg [⟨(some 61), .move (.tmp 6), none⟩,
                        ⟨(some 62), .move (.tmp 9), none⟩,
                        ⟨(some 63), .call ⟨(.value (.func 26)), #[(.tmp 61), (.tmp 62)], #[22, 3]⟩, none⟩,
                        ⟨(some 9), .assign (.tmp 63), none⟩])
                     (.seq (.seq (.reg [⟨(some 64), .move (.tmp 9), none⟩,
                          ⟨(some 65), .binOp .lss 3 (.tmp 64) (.const (.int .i64 0)) 3, none⟩])
                       (.cond (.tmp 65) (.seq (.reg [⟨(some 2), .assign (.const (.bool false)), none⟩])
                         .ret)
                        .skip))
                      (.seq (.seq (.reg [⟨(some 66), .move (.tmp 9), none⟩,
                           ⟨(some 67), .move (.tmp 8), none⟩,
                           ⟨(some 68), .binOp .neq 3 (.tmp 66) (.tmp 67) 3, none⟩])
                        (.cond (.tmp 68) (.seq (.reg [⟨(some 2), .assign (.const (.bool false)), none⟩])
                          .ret)
                         .skip))
                       (.seq (.reg [⟨(some 2), .assign (.const (.bool true)), none⟩])
                        .ret)))))))))))))))))))))))))
theorem s9 : slimF Try.f9 = some (c9, [.t 2], 69) := by kernel_rfl
theorem o9 : okF [(27, g27), (29, g29), (32, g32), (16, g16), (31, g31), (26, g26)] Try.f9 = true := by kernel_rfl
theorem law_FnExactAskOf (x : List Itv) : LawOk Try.prog 9 [.sl 1 4 (x.map (enItv.av 1))] := by
  have hself : ∀ {α : Type} (x : α), eqB x x = true := fun x => eqB_iff.2 rfl
  have hT : Table Try.prog [(27, g27), (29, g29), (32, g32), (16, g16), (31, g31), (26, g26)] := (.cons p27 (.cons p29 (.cons p32 (.cons p16 (.cons p31 (.cons p26 .nil))))))
  refine LawOk.of_body Try.func9 s9 o9 (by simp) ?_
  simp only [c9]
  generalize hta : (x.length + (x.map enItv.tot).sum) = ta
  refine VL_step hT hm 2 (by decide) ?_
  simp (config := {contextual := true, maxSteps := 2000000, implicitDefEqProofs := false}) [go_sem]
  try refine And.intro (by omega) ?_
  refine VL_step hT hm 2 (by decide) ?_
  simp (config := {contextual := true, maxSteps := 2000000, implicitDefEqProofs := false}) [go_sem]
  try refine And.intro (by omega) ?_
  rcases szR_spec 1048576 ta with ⟨h1, h3⟩ | ⟨h1, h3⟩
  · have h4 : (0 : Int) ≤ 1048576 - (ta : Nat) := by omega
    have h4' : 1048576 - ((ta : Nat) : Int) ≤ 4611686018427387904 := by omega
    have h5 : ta ≤ 1048576 := by omega
    have h6 : ¬ (1048576 - ((ta : Nat) : Int)) < 0 := by omega
    have h7 : (ta : Int) ≤ 1048576 := by omega
    obtain ⟨K1, hs1, b1, b2⟩ := markItv_ok (x := x) (k := 1) (by decide) (by rw [hta]; exact h5)
    have hK1 : ¬ K1 < 0 := by omega
    have hll := askR_len (l := x)
    have hml : (mkI 1 (askR x).length).length = (askR x).length := mkI_len
    have htk : List.take (askR x).length (List.map (AV.int .i64) (mkI 1 (askR x).length)) = List.map (AV.int .i64) (mkI 1 (askR x).length) := List.take_of_length_le (by simp [mkI_len])
    have hld : hldI 1 (mkI 1 (askR x).length) = 1 + ((askR x).length : Int) := hldI_mkI
    have hb0 : 1 + ((askR x).length : Int) ≤ 1152921504606846976 := by omega
    have hb1 : ¬ 1 + ((askR x).length : Int) < 0 := by omega
    have hb2 : (askR x).length ≤ (askR x).length := Nat.le_refl _
    refine VL_step hT hm 2 (by decide) ?_
    simp (config := {contextual := true, maxSteps := 2000000, implicitDefEqProofs := false}) [go_sem, bigB, hta, h3, h4, h5, h6, hself]
    try refine And.intro (by omega) ?_
    refine VL_step hT hm 2 (by decide) ?_
    simp (config := {contextual := true, maxSteps := 2000000, implicitDefEqProofs := false}) [go_sem, bigB, hta, h3, h4, h5, h6, hself]
    try refine And.intro (by omega) ?_
    refine VL_step hT hm 2 (by decide) ?_
    simp (config := {contextual := true, maxSteps := 2000000, implicitDefEqProofs := false}) [go_sem, bigB, hta, h3, h4, h5, h6, hself]
    try refine And.intro (by omega) ?_
    refine VL_step hT hm 3 (by decide) ?_
    simp (config := {contextual := true, maxSteps := 2000000, implicitDefEqProofs := false}) [go_sem, bigB, hta, h3, h4, h5, h6, hself]
    try refine And.intro (by omega) ?_
    refine VL_keep [2, 0, 4, 5] ?_
    simp (config := {contextual := true, maxSteps := 2000000, implicitDefEqProofs := false}) [go_sem]
    refine VL_step hT hm 2 (by decide) ?_
    simp (config := {contextual := true, maxSteps := 2000000, implicitDefEqProofs := false}) [go_sem, bigB, hta, h3, h4, h5, h6, hself]
    try refine And.intro (by omega) ?_
    refine ⟨33, [], rfl, [], 2, [.row 2 1 ((askR x).map (AV.int .i64))], .osl 0 1 0 (askR x).length, Nat.le_refl _, by simp, by simp, by simp [go_sem, posOf], by simpa [go_sem, rinOf, Root.rnp, posOf] using sat_33 (n := 2) (by decide) (τ := 3) (ls := x), ?_⟩
    simp (config := {contextual := true, maxSteps := 2000000, implicitDefEqProofs := false}) [go_sem, stOf, putAll, gmap, Root.ren, AV.ren, AV.ren2, AV.ren1, AV.ren0]
    refine VL_step hT hm 2 (by decide) ?_
    simp (config := {contextual := true, maxSteps := 2000000, implicitDefEqProofs := false}) [go_sem, bigB, hta, h3, h4, h5, h6, hself]
    try refine And.intro (by omega) ?_
    refine VL_step hT hm 4 (by decide) ?_
    simp (config := {contextual := true, maxSteps := 2000000, implicitDefEqProofs := false}) [go_sem, bigB, hta, h3, h4, h5, h6, hself]
    try refine And.intro (by omega) ?_
    refine VL_keep [2, 0, 4, 5, 6] ?_
    simp (config := {contextual := true, maxSteps := 2000000, implicitDefEqProofs := false}) [go_sem]
    refine VL_step hT hm 2 (by decide) ?_
    simp (config := {contextual := true, maxSteps := 2000000, implicitDefEqProofs := false}) [go_sem, bigB, hta, h3, h4, h5, h6, hself]
    try refine And.intro (by omega) ?_
    refine VL_seq (VL_reg ?_)
    refine VR_one hT 2 (by decide) ?_
    simp (config := {contextual := true, maxSteps := 2000000, implicitDefEqProofs := false}) [go_sem]
    refine VR_one hT 2 (by decide) ?_
    simp (config := {contextual := true, maxSteps := 2000000, implicitDefEqProofs := false}) [go_sem]
    refine VR_mark 3 (by decide) [2, 0, 4, 6] [] (y := mItvs x) (k0 := 1) (k' := K1) rfl rfl rfl lfItv hs1 (by simp [go_sem]) (by simp [gones, NmR, go_sem]) ?_
    simp (config := {contextual := true, maxSteps := 2000000, implicitDefEqProofs := false}) [go_sem, gones]
    refine VR_one hT 2 (by decide) ?_
    simp (config := {contextual := true, maxSteps := 2000000, implicitDefEqProofs := false}) [go_sem]
    refine VR_nil ?_
    simp (config := {contextual := true, maxSteps := 2000000, implicitDefEqProofs := false}) [go_sem]
    refine VL_step hT hm 2 (by decide) ?_
    simp (config := {contextual := true, maxSteps := 2000000, implicitDefEqProofs := false}) [go_sem, bigB, hta, h3, h4, h5, h6, hself, hK1]
    try refine And.intro (by omega) ?_
    refine VL_step hT hm 2 (by decide) ?_
    simp (config := {contextual := true, maxSteps := 2000000, implicitDefEqProofs := false}) [go_sem, bigB, hta, h3, h4, h5, h6, hself]
    try refine And.intro (by omega) ?_
    refine VL_step hT hm 2 (by decide) ?_
    simp (config := {contextual := true, maxSteps := 2000000, implicitDefEqProofs := false}) [go_sem, bigB, hta, h3, h4, h5, h6, hself]
    try refine And.intro (by omega) ?_
    refine ⟨25, [], rfl, [0], 2, [.row 2 1 ((mkI 1 (askR x).length).map (AV.int .i64))], .int .i64 (1 + ((askR x).length : Int)), Nat.le_refl _, by simp, by simp, by simp [go_sem, posOf], by simpa [go_sem, rinOf, Root.rnp, posOf] using sat_25 (n := 2) (k := 1) (ls := askR x) (by decide) (by decide) (by omega), ?_⟩
    simp (config := {contextual := true, maxSteps := 2000000, implicitDefEqProofs := false}) [go_sem, stOf, putAll, gmap, Root.ren, AV.ren, AV.ren2, AV.ren1, AV.ren0]
    generalize mkI 1 (askR x).length = ms at *
    refine VL_keep [2, 0, 4, 6, 8] ?_
    simp (config := {contextual := true, maxSteps := 2000000, implicitDefEqProofs := false}) [go_sem]
    refine VL_step hT hm 2 (by decide) ?_
    simp (config := {contextual := true, maxSteps := 2000000, implicitDefEqProofs := false}) [go_sem, bigB, hta, h3, h4, h5, h6, hself]
    try refine And.intro (by omega) ?_
    refine VL_step hT hm 2 (by decide) ?_
    simp (config := {contextual := true, maxSteps := 2000000, implicitDefEqProofs := false}) [go_sem, bigB, hta, h3, h4, h5, h6, hself, hml, htk, hld, hb0, hb1, hb2, hself]
    try refine And.intro (by omega) ?_
    refine VL_step hT hm 2 (by decide) ?_
    simp (config := {contextual := true, maxSteps := 2000000, implicitDefEqProofs := false}) [go_sem, bigB, hta, h3, h4, h5, h6, hself, hml, htk, hld, hb0, hb1, hb2, hself]
    try refine And.intro (by omega) ?_
    refine VL_step hT hm 2 (by decide) ?_
    simp (config := {contextual := true, maxSteps := 2000000, implicitDefEqProofs := false}) [go_sem, bigB, hta, h3, h4, h5, h6, hself, hml, htk, hld, hb0, hb1, hb2, hself]
    try refine And.intro (by omega) ?_
    refine VL_keep [2, 0, 4, 6, 8] ?_
    simp (config := {contextual := true, maxSteps := 2000000, implicitDefEqProofs := false}) [go_sem]
    refine VL_step hT hm 2 (by decide) ?_
    simp (config := {contextual := true, maxSteps := 2000000, implicitDefEqProofs := false}) [go_sem, bigB, hta, h3, h4, h5, h6, hself]
    try refine And.intro (by omega) ?_
    refine ⟨33, [], rfl, [], 2, [.row 2 1 ((askR x).map (AV.int .i64))], .osl 0 1 0 (askR x).length, Nat.le_refl _, by simp, by simp, by simp [go_sem, posOf], by simpa [go_sem, rinOf, Root.rnp, posOf] using sat_33 (n := 2) (by decide) (τ := 2) (ls := x), ?_⟩
    simp (config := {contextual := true, maxSteps := 2000000, implicitDefEqProofs := false}) [go_sem, stOf, putAll, gmap, Root.ren, AV.ren, AV.ren2, AV.ren1, AV.ren0]
    refine VL_step hT hm 2 (by decide) ?_
    simp (config := {contextual := true, maxSteps := 2000000, implicitDefEqProofs := false}) [go_sem, bigB, hta, h3, h4, h5, h6, hself, hml, htk, hld, hb0, hb1, hb2, hself]
    try refine And.intro (by omega) ?_
    refine VL_keep [2, 0, 4, 6, 8] ?_
    simp (config := {contextual := true, maxSteps := 2000000, implicitDefEqProofs := false}) [go_sem]
    refine VL_step hT hm 2 (by decide) ?_
    simp (config := {contextual := true, maxSteps := 2000000, implicitDefEqProofs := false}) [go_sem, bigB, hta, h3, h4, h5, h6, hself]
    try refine And.intro (by omega) ?_
    refine VL_step hT hm 2 (by decide) ?_
    simp (config := {contextual := true, maxSteps := 2000000, implicitDefEqProofs := false}) [go_sem, bigB, hta, h3, h4, h5, h6, hself, hml, htk, hld, hb0, hb1, hb2, hself]
    try refine And.intro (by omega) ?_
    refine VL_step hT hm 2 (by decide) ?_
    simp (config := {contextual := true, maxSteps := 2000000, implicitDefEqProofs := false}) [go_sem, bigB, hta, h3, h4, h5, h6, hself, hml, htk, hld, hb0, hb1, hb2, hself]
    try refine And.intro (by omega) ?_
    refine VL_step hT hm 2 (by decide) ?_
    simp (config := {contextual := true, maxSteps := 2000000, implicitDefEqProofs := false}) [go_sem, bigB, hta, h3, h4, h5, h6, hself, hml, htk, hld, hb0, hb1, hb2, hself]
    try refine And.intro (by omega) ?_
    refine VL_vc hT hm 2 (by decide) ?_
    simp (config := {contextual := true, maxSteps := 2000000, implicitDefEqProofs := false}) [go_sem]
  · refine VL_step hT hm 2 (by decide) ?_
    simp (config := {contextual := true, maxSteps := 2000000, implicitDefEqProofs := false}) [go_sem, bigB, hta, h3]
    try refine And.intro (by omega) ?_
    refine VL_step hT hm 2 (by decide) ?_
    simp (config := {contextual := true, maxSteps := 2000000, implicitDefEqProofs := false}) [go_sem, bigB, hta, h3]
    try refine And.intro (by omega) ?_
theorem lawz_FnExactAskOf (x0 : List Itv) (_ : (x0.length ≤ maxLen ∧ x0.length * 48 ≤ 140737488351232 ∧ ∀ y1 ∈ x0, okItv y1)) : LawOk Try.prog 9 [enItv.list.av 1 x0] := law_FnExactAskOf x0
end Go.Ve
