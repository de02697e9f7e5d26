/- The texts of this claim, part PF 2: the engine that runs the code on values, the data, the contracts. No condition. -/
import Derived.Test.YtidfijaobkaalaaGreatPF1
namespace Go.Ve
open Go.Proofs Go.RowKit
set_option linter.unusedVariables false
set_option linter.unusedSimpArgs false
set_option maxRecDepth 10000
set_option maxHeartbeats 4000000
theorem xpR_len {t : Tree} {r : Rule} {p : List Int} {g : Pg} {l : List Exc} : (xpR t r p g l).length ≤ 7 := by
  unfold xpR
  split
  · rename_i h
    rw [exL_len]
    unfold xcR at h
    split at h
    · split at h
      · rename_i h2
        simp only [Bool.and_eq_true, decide_eq_true_eq] at h2
        exact h2.1
      · cases h
    · cases h
  · simp
theorem ap_dev {t : Tree} {kind : Int} {p : List Int} (h : apI t kind [] p = true) : ∀ o ∈ p, 0 ≤ o → 0 ≤ devI t o := fun o ho h0 => ((apI_iff.1 h).1 o ho (by omega)).1
theorem g47_nil {n τ τ3 τ4 τ6 : Nat} {t : Tree} {r : Rule} {places : List Int} {g : Pg} {l : List Exc} : g47 n [.agg [.sl τ 2 (t.devices.map (enDev.av τ)), .sl τ 3 (t.buckets.map (enBkt.av τ))], .agg [.int .i64 r.id, .int .i64 r.root, .int .i64 r.kind, .bool r.indep], .sl τ3 1 (places.map (AV.int .i64)), .agg [.int .i64 g.pool, .int .i64 g.no], .sl τ4 4 (l.map (enExc.av τ4)), .sl τ6 1 []] = ⟨τ ≠ 0 ∧ treeOk t = true ∧ ruleOk t r = true ∧ (∀ o ∈ places, 0 ≤ o → 0 ≤ devI t o) ∧ places.length ≤ 1048576 ∧ ([] : List Int) = [], .sl n 1 ((exL t r g [] places l).map (AV.int .i64))⟩ := g47_eq (out := [])
def c9 : SCode := (.seq (.reg [⟨(some 5), .box 39 (.tmp 0), none⟩,
   ⟨(some 6), .box 41 (.tmp 1), none⟩,
   ⟨(some 8), .box 44 (.tmp 3), none⟩,
   ⟨(some 10), .assign (.const (.slice none 0 0)), none⟩,
   ⟨(some 11), .assign (.const (.int .i64 0)), none⟩])
(.seq (.seq (.reg [⟨(some 12), .load 39 (.tmp 5), none⟩,
     ⟨(some 13), .call ⟨(.value (.func 43)), #[(.tmp 12)], #[39]⟩, none⟩,
     ⟨(some 14), .unOp .not 4 (.tmp 13), none⟩,
     ⟨(some 15), .move (.tmp 14), none⟩,
     ⟨(some 16), .load 39 (.tmp 5), (some (15, false))⟩,
     ⟨(some 17), .load 41 (.tmp 6), (some (15, false))⟩,
     ⟨(some 18), .call ⟨(.value (.func 44)), #[(.tmp 16), (.tmp 17)], #[39, 41]⟩, (some (15, false))⟩,
     ⟨(some 19), .unOp .not 4 (.tmp 18), (some (15, false))⟩,
     ⟨(some 20), .pick (.tmp 15) (.const (.bool true)) (.tmp 19), none⟩,
     ⟨(some 21), .move (.tmp 20), none⟩,
     ⟨(some 22), .move (.tmp 4), (some (21, false))⟩,
     ⟨(some 23), .call ⟨(.value (.func 45)), #[(.tmp 22)], #[46]⟩, (some (21, false))⟩,
     ⟨(some 24), .unOp .not 4 (.tmp 23), (some (21, false))⟩,
     ⟨(some 25), .pick (.tmp 21) (.const (.bool true)) (.tmp 24), none⟩])
  (.cond (.tmp 25) (.seq (.reg [⟨(some 26), .buildSlice 28 0 #[], none⟩,
       ⟨(some 10), .assign (.tmp 26), none⟩,
       ⟨(some 11), .assign (.const (.int .i64 1)), none⟩])
    .ret)
   .skip))
 (.seq (.seq (.reg [⟨(some 27), .move (.tmp 2), none⟩,
      ⟨(some 28), .call ⟨(.builtin .len), #[(.tmp 27)], #[28]⟩, none⟩,
      ⟨(some 29), .binOp .gtr 3 (.tmp 28) (.const (.int .i64 7)) 3, none⟩,
      ⟨(some 30), .move (.tmp 29), none⟩,
      ⟨(some 31), .load 39 (.tmp 5), (some (30, false))⟩,
      ⟨(some 32), .fieldAddr 41 (.tmp 6) 2, (some (30, false))⟩,
      ⟨(some 33), .load 2 (.tmp 32), (some (30, false))⟩,
      ⟨(some 34), .move (.tmp 2), (some (30, false))⟩,
      ⟨(some 35), .call ⟨(.value (.func 46)), #[(.tmp 31), (.tmp 33), (.tmp 34)], #[39, 2, 28]⟩, (some (30, false))⟩,
      ⟨(some 36), .unOp .not 4 (.tmp 35), (some (30, false))⟩,
      ⟨(some 37), .pick (.tmp 30) (.const (.bool true)) (.tmp 36), none⟩])
   (.cond (.tmp 37) (.seq (.reg [⟨(some 38), .buildSlice 28 0 #[], none⟩,
        ⟨(some 10), .assign (.tmp 38), none⟩,
        ⟨(some 11), .assign (.const (.int .i64 2)), none⟩])
     .ret)
    .skip))
  (.seq (.reg [⟨(some 39), .load 39 (.tmp 5), none⟩,
      ⟨(some 40), .load 41 (.tmp 6), none⟩,
      ⟨(some 41), .move (.tmp 2), none⟩,
      ⟨(some 42), .load 44 (.tmp 8), none⟩,
      ⟨(some 43), .move (.tmp 4), none⟩,
      ⟨(some 44), .call ⟨(.value (.func 47)), #[(.tmp 39), (.tmp 40), (.tmp 41), (.tmp 42), (.tmp 43), (.const (.slice none 0 0))], #[39, 41, 28, 44, 46, 28]⟩, none⟩,
      ⟨(some 10), .assign (.tmp 44), none⟩,
      ⟨(some 11), .assign (.const (.int .i64 0)), none⟩])
   .ret))))
theorem s9 : slimF Tryz.f9 = some (c9, [.t 10, .t 11], 45) := by kernel_rfl
theorem o9 : okF [(43, g43), (44, g44), (45, g45), (46, g46), (47, (nilw [.k, .k, .k, .k, .k, .c 1] g47))] Tryz.f9 = true := by kernel_rfl
noncomputable def g9 : Fsem := semT5 enTree enRule (En.int .i64).list enPg enExc.list (fun τ t r p g l => τ ≠ 0) (fun n τ t r p g l => .tup [.sl n 1 ((xpR t r p g l).map (AV.int .i64)), .int .i64 (xcR t r p l)])
@[go_sem] theorem g9_eq {n τ τ'' τ4 : Nat} {t : Tree} {r : Rule} {p : List Int} {g : Pg} {l : List Exc} : g9 n [.agg [.sl τ 2 (t.devices.map (enDev.av τ)), .sl τ 3 (t.buckets.map (enBkt.av τ))], .agg [.int .i64 r.id, .int .i64 r.root, .int .i64 r.kind, .bool r.indep], .sl τ'' 1 (p.map (AV.int .i64)), .agg [.int .i64 g.pool, .int .i64 g.no], .sl τ4 4 (l.map (enExc.av τ4))] = ⟨τ ≠ 0, .tup [.sl n 1 ((xpR t r p g l).map (AV.int .i64)), .int .i64 (xcR t r p l)]⟩ := semT5_eq (τ' := 0) (τ3 := 0) (E := enTree) (F := enRule) (G := (En.int .i64).list) (H := enPg) (J := enExc.list) (seen_Tree)
theorem p9 : Pure Tryz.prog 9 g9 := by
  refine semT5_pure fun τ τ' τ'' τ3 τ4 t r p g l n h2 hpre => ?_
  have hT : Table Tryz.prog [(43, g43), (44, g44), (45, g45), (46, g46), (47, (nilw [.k, .k, .k, .k, .k, .c 1] g47))] := (.cons p43 (.cons p44 (.cons p45 (.cons p46 (.cons (nilw_pure _ p47) .nil)))))
  have hn0 : n ≠ 0 := by omega
  refine SatP.of_body hT hm Tryz.func9 s9 o9 h2 (by simp) ?_
  have hp : τ ≠ 0 := hpre
  cases ht : treeOk t
  · have e1 : xcR t r p l = 1 := by simp [xcR, ht]
    have e2 : xpR t r p g l = [] := by simp [xpR, e1]
    rw [e1, e2]
    simp (config := {contextual := true, maxSteps := 2000000, implicitDefEqProofs := false}) [c9, go_sem, hp, hn0, ht]
  · cases hr : ruleOk t r
    · have e1 : xcR t r p l = 1 := by simp [xcR, hr]
      have e2 : xpR t r p g l = [] := by simp [xpR, e1]
      have hr8 : l08Ok t r = false := by have := l08_eq (t := t) (r := r); rw [ht, hr] at this; simpa using this
      rw [e1, e2]
      simp (config := {contextual := true, maxSteps := 2000000, implicitDefEqProofs := false}) [c9, go_sem, hp, hn0, ht, hr8]
    · have hr8 : l08Ok t r = true := by have := l08_eq (t := t) (r := r); rw [ht, hr] at this; simpa using this
      have hr' := hr
      simp only [ruleOk, Bool.and_eq_true] at hr'
      have hb := hr'.2
      have hk0 : 0 ≤ r.kind := by simp only [btw, Bool.and_eq_true, decide_eq_true_eq] at hb; exact hb.1
      have hap := ap_eq ht hk0 (l := p)
      cases hx : excsOk l
      · have e1 : xcR t r p l = 1 := by simp [xcR, hx]
        have e2 : xpR t r p g l = [] := by simp [xpR, e1]
        rw [e1, e2]
        simp (config := {contextual := true, maxSteps := 2000000, implicitDefEqProofs := false}) [c9, go_sem, hp, hn0, ht, hr8, hx]
      · by_cases hl7 : p.length ≤ 7
        · have hl7i : ¬ (7 : Int) < (p.length : Int) := by omega
          cases ha : apI t r.kind [] p
          · have e1 : xcR t r p l = 2 := by simp [xcR, ht, hr, hx, ha]
            have e2 : xpR t r p g l = [] := by simp [xpR, e1]
            rw [ha] at hap
            rw [e1, e2]
            simp (config := {contextual := true, maxSteps := 2000000, implicitDefEqProofs := false}) [c9, go_sem, hp, hn0, ht, hr8, hx, hl7, hl7i, ← hap]
          · have e1 : xcR t r p l = 0 := by simp [xcR, ht, hr, hx, hl7, ha]
            have e2 : xpR t r p g l = exL t r g [] p l := by simp [xpR, e1]
            have hdv := ap_dev ha
            have hpl : p.length ≤ 1048576 := by omega
            rw [ha] at hap
            rw [e1, e2]
            simp (config := {contextual := true, maxSteps := 2000000, implicitDefEqProofs := false}) [c9, go_sem, hp, hn0, ht, hr, hr8, hx, hl7, hl7i, ← hap, g47_nil, hpl]
            first | exact hdv | exact fun _ => hdv
        · have hl7i : (7 : Int) < (p.length : Int) := by omega
          have e1 : xcR t r p l = 2 := by simp [xcR, ht, hr, hx, hl7]
          have e2 : xpR t r p g l = [] := by simp [xpR, e1]
          rw [e1, e2]
          simp (config := {contextual := true, maxSteps := 2000000, implicitDefEqProofs := false}) [c9, go_sem, hp, hn0, ht, hr8, hx, hl7, hl7i]
def c15 : SCode := (.seq (.reg [⟨(some 5), .box 39 (.tmp 0), none⟩,
   ⟨(some 6), .box 41 (.tmp 1), none⟩,
   ⟨(some 8), .box 44 (.tmp 3), none⟩,
   ⟨(some 10), .assign (.const (.slice none 0 0)), none⟩,
   ⟨(some 11), .assign (.const (.int .i64 0)), none⟩])
(.seq (.block 0 (.seq (.reg [⟨(some 13), .load 39 (.tmp 5), none⟩,
      ⟨(some 14), .load 41 (.tmp 6), none⟩,
      ⟨(some 15), .call ⟨(.value (.func 51)), #[(.tmp 13), (.tmp 14)], #[39, 41]⟩, none⟩,
      ⟨(some 16), .unOp .not 4 (.tmp 15), none⟩,
      ⟨(some 17), .move (.tmp 16), none⟩,
      ⟨(some 18), .move (.tmp 4), (some (17, false))⟩,
      ⟨(some 19), .call ⟨(.value (.func 52)), #[(.tmp 18)], #[46]⟩, (some (17, false))⟩,
      ⟨(some 20), .unOp .not 4 (.tmp 19), (some (17, false))⟩,
      ⟨(some 21), .pick (.tmp 17) (.const (.bool true)) (.tmp 20), none⟩,
      ⟨(some 12), .assign (.tmp 21), none⟩])
   (.cond (.tmp 12) (.seq (.reg [⟨(some 10), .assign (.const (.slice none 0 0)), none⟩,
        ⟨(some 11), .assign (.const (.int .i64 1)), none⟩])
     .ret)
    (.seq (.reg [⟨(some 23), .load 39 (.tmp 5), none⟩,
        ⟨(some 24), .fieldAddr 41 (.tmp 6) 2, none⟩,
        ⟨(some 25), .load 2 (.tmp 24), none⟩,
        ⟨(some 26), .move (.tmp 2), none⟩,
        ⟨(some 27), .call ⟨(.value (.func 53)), #[(.tmp 23), (.tmp 25), (.tmp 26)], #[39, 2, 28]⟩, none⟩,
        ⟨(some 28), .unOp .not 4 (.tmp 27), none⟩,
        ⟨(some 22), .assign (.tmp 28), none⟩])
     (.cond (.tmp 22) (.seq (.reg [⟨(some 10), .assign (.const (.slice none 0 0)), none⟩,
          ⟨(some 11), .assign (.const (.int .i64 2)), none⟩])
       .ret)
      .skip)))))
 (.seq (.reg [⟨(some 29), .load 39 (.tmp 5), none⟩,
     ⟨(some 30), .load 41 (.tmp 6), none⟩,
     ⟨(some 31), .move (.tmp 2), none⟩,
     ⟨(some 32), .load 44 (.tmp 8), none⟩,
     ⟨(some 33), .move (.tmp 4), none⟩,
     ⟨(some 34), .call ⟨(.value (.func 54)), #[(.tmp 29), (.tmp 30), (.tmp 31), (.tmp 32), (.tmp 33), (.const (.slice none 0 0))], #[39, 41, 28, 44, 46, 28]⟩, none⟩,
     ⟨(some 10), .assign (.tmp 34), none⟩,
     ⟨(some 11), .assign (.const (.int .i64 0)), none⟩])
  .ret)))
theorem s15 : slimF Tryz.f15 = some (c15, [.t 10, .t 11], 35) := by kernel_rfl
theorem o15 : okF [(51, g51), (52, g52), (53, g53)] Tryz.f15 = true := by kernel_rfl
theorem sat_15 {n : Nat} (h2 : 2 ≤ n) {τ τ3 τ5 : Nat} {t : Tree} {r : Rule} {p : List Int} {g : Pg} {l : List Exc} (hp : τ ≠ 0) : SatM Tryz.prog n 15 [] [.agg [.sl τ 2 (t.devices.map (enDev.av τ)), .sl τ 3 (t.buckets.map (enBkt.av τ))], .agg [.int .i64 r.id, .int .i64 r.root, .int .i64 r.kind, .bool r.indep], .sl τ3 1 (p.map (AV.int .i64)), .agg [.int .i64 g.pool, .int .i64 g.no], .sl τ5 4 (l.map (enExc.av τ5))] [.row 2 1 ((xpR t r p g l).map (AV.int .i64))] (.tup [.osl 0 1 0 (xpR t r p g l).length, .int .i64 (xcR t r p l)]) := by
  have hT : Table Tryz.prog [(51, g51), (52, g52), (53, g53)] := (.cons p51 (.cons p52 (.cons p53 .nil)))
  have hn0 : n ≠ 0 := by omega
  refine SatM.of_bodyV hT hm Tryz.func15 s15 o15 h2 (by simp) ?_
  cases ht : treeOk t
  · have e1 : xcR t r p l = 1 := by simp [xcR, ht]
    have e2 : xpR t r p g l = [] := by simp [xpR, e1]
    rw [e1, e2]
    simp (config := {contextual := true, maxSteps := 2000000, implicitDefEqProofs := false}) [c15, go_sem, hp, hn0, ht]
    refine ⟨vivs [(10, 2, 1)] _, [3], vivs_sub _ _, ?_⟩
    simp [vivs, vivT, retM, resAV, rvV, rinOf, Root.rnp, AV.rnp, AV.rnp2, AV.rnp1, AV.rnp0, posOf, go_sem, Rz, nz_int, nz_osl, nz_tup]
  · cases hr : ruleOk t r
    · have e1 : xcR t r p l = 1 := by simp [xcR, hr]
      have e2 : xpR t r p g l = [] := by simp [xpR, e1]
      have hr8 : l08Ok t r = false := by have := l08_eq (t := t) (r := r); rw [ht, hr] at this; simpa using this
      rw [e1, e2]
      simp (config := {contextual := true, maxSteps := 2000000, implicitDefEqProofs := false}) [c15, go_sem, hp, hn0, ht, hr]
      refine ⟨vivs [(10, 2, 1)] _, [3], vivs_sub _ _, ?_⟩
      simp [vivs, vivT, retM, resAV, rvV, rinOf, Root.rnp, AV.rnp, AV.rnp2, AV.rnp1, AV.rnp0, posOf, go_sem, Rz, nz_int, nz_osl, nz_tup]
    · have hr8 : l08Ok t r = true := by have := l08_eq (t := t) (r := r); rw [ht, hr] at this; simpa using this
      have hr' := hr
      simp only [ruleOk, Bool.and_eq_true] at hr'
      have hb := hr'.2
      have hk0 : 0 ≤ r.kind := by simp only [btw, Bool.and_eq_true, decide_eq_true_eq] at hb; exact hb.1
      have hap := ap_eq ht hk0 (l := p)
      cases hx : excsOk l
      · have e1 : xcR t r p l = 1 := by simp [xcR, hx]
        have e2 : xpR t r p g l = [] := by simp [xpR, e1]
        rw [e1, e2]
        simp (config := {contextual := true, maxSteps := 2000000, implicitDefEqProofs := false}) [c15, go_sem, hp, hn0, ht, hr, hx]
        refine ⟨vivs [(10, 2, 1)] _, [3], vivs_sub _ _, ?_⟩
        simp [vivs, vivT, retM, resAV, rvV, rinOf, Root.rnp, AV.rnp, AV.rnp2, AV.rnp1, AV.rnp0, posOf, go_sem, Rz, nz_int, nz_osl, nz_tup]
      · by_cases hl7 : p.length ≤ 7
        · have hl7i : ¬ (7 : Int) < (p.length : Int) := by omega
          cases ha : apI t r.kind [] p
          · have e1 : xcR t r p l = 2 := by simp [xcR, ht, hr, hx, ha]
            have e2 : xpR t r p g l = [] := by simp [xpR, e1]
            rw [ha] at hap
            rw [e1, e2]
            simp (config := {contextual := true, maxSteps := 2000000, implicitDefEqProofs := false}) [c15, go_sem, hp, hn0, ht, hr, hx, hb, hl7, hl7i, ha]
            refine ⟨vivs [(10, 2, 1)] _, [3], vivs_sub _ _, ?_⟩
            simp [vivs, vivT, retM, resAV, rvV, rinOf, Root.rnp, AV.rnp, AV.rnp2, AV.rnp1, AV.rnp0, posOf, go_sem, Rz, nz_int, nz_osl, nz_tup]
          · have e1 : xcR t r p l = 0 := by simp [xcR, ht, hr, hx, hl7, ha]
            have e2 : xpR t r p g l = exL t r g [] p l := by simp [xpR, e1]
            have hdv := ap_dev ha
            have hpl : p.length ≤ 1048576 := by omega
            rw [ha] at hap
            rw [e1, e2]
            simp (config := {contextual := true, maxSteps := 2000000, implicitDefEqProofs := false}) [c15, go_sem, hp, hn0, ht, hr, hx, hb, hl7, hl7i, ha]
            refine ⟨54, [], rfl, [], n, [.row 2 1 ((exL t r g [] p l).map (AV.int .i64))], .osl 0 1 0 (exL t r g [] p l).length, Nat.le_refl _, by simp, by simp, by simp [go_sem, posOf], by simpa [go_sem, rinOf, posOf] using sat_54 h2 (τ3 := τ3) (τ5 := τ5) (g := g) (l := l) hp ht hr hdv hpl, ?_⟩
            simp (config := {contextual := true, maxSteps := 2000000, implicitDefEqProofs := false}) [go_sem, stOf, putAll, gmap, Root.ren, AV.ren, AV.ren2, AV.ren1, AV.ren0]
            generalize exL t r g [] p l = q at *
            refine ⟨_, [3], Sub.refl 0 _, ?_⟩
            simp [retM, resAV, rvV, rinOf, Root.rnp, AV.rnp, AV.rnp2, AV.rnp1, AV.rnp0, posOf, go_sem, Rz, nz_int, nz_osl, nz_tup]
        · have hl7i : (7 : Int) < (p.length : Int) := by omega
          have e1 : xcR t r p l = 2 := by simp [xcR, ht, hr, hx, hl7]
          have e2 : xpR t r p g l = [] := by simp [xpR, e1]
          rw [e1, e2]
          simp (config := {contextual := true, maxSteps := 2000000, implicitDefEqProofs := false}) [c15, go_sem, hp, hn0, ht, hr, hx, hb, hl7, hl7i]
          refine ⟨vivs [(10, 2, 1)] _, [3], vivs_sub _ _, ?_⟩
          simp [vivs, vivT, retM, resAV, rvV, rinOf, Root.rnp, AV.rnp, AV.rnp2, AV.rnp1, AV.rnp0, posOf, go_sem, Rz, nz_int, nz_osl, nz_tup]
end Go.Ve
namespace Go.Ve
open Go.Proofs Go.RowKit
set_option linter.unusedVariables false
set_option linter.unusedSimpArgs false
set_option maxRecDepth 10000
set_option maxHeartbeats 4000000
theorem markTree_ok {x : Tree} {k : Int} (hk : 0 ≤ k ∧ k ≤ 1099511627776) (ht : x.devices.length + (x.buckets.length + (x.buckets.map enBkt.tot).sum) ≤ 1048576) : ∃ K, MSat Tryz.prog 19 [mTree x, .int .i64 k] (.int .i64 K) ∧ k ≤ K ∧ K ≤ k + 4194304 := by
  have h1 := (cmTree (l := x.buckets))
  have h2 : (x.devices.map fun _ => AV.agg [.leaf, .leaf]).length = x.devices.length := by simp
  refine ⟨_, pm19 [mTree x, .int .i64 k] ⟨⟨constM, bktsM⟩, hk.1, ?_⟩, ?_, ?_⟩ <;> omega
def mInts (p : List Int) : AV := .sl 1 1 (p.map fun _ => .leaf)
theorem lfInts {μ : Nat} {p : List Int} : LfV μ (.sl μ 1 (p.map (AV.int .i64))) (mInts p) := .c _ _ (Lf.map fun a _ => lfE_one rfl rfl (.int ..))
theorem markInts_ok {p : List Int} {k : Int} (hk : 0 ≤ k ∧ k ≤ 1099511627776) (ht : p.length ≤ 1048576) : ∃ K, MSat Tryz.prog 20 [mInts p, .int .i64 k] (.int .i64 K) ∧ k ≤ K ∧ K ≤ k + 4194304 := by
  have h1 : (p.map fun _ => AV.leaf).length = p.length := by simp
  refine ⟨_, pm20 [mInts p, .int .i64 k] ⟨constM, hk.1, ?_⟩, ?_, ?_⟩ <;> omega
def mExcs (p : List Exc) : AV := .sl 1 4 (p.map fun _ => .agg [.leaf, .leaf, .leaf, .leaf])
theorem lfExcs {μ : Nat} {p : List Exc} : LfV μ (.sl μ 4 (p.map (enExc.av μ))) (mExcs p) := by
  refine .c _ _ (Lf.map fun a _ => ?_)
  simp only [go_sem]
  exact lfE_agg ⟨.int .., .int .., .int .., .int .., trivial⟩
theorem markExcs_ok {p : List Exc} {k : Int} (hk : 0 ≤ k ∧ k ≤ 1099511627776) (ht : p.length ≤ 1048576) : ∃ K, MSat Tryz.prog 21 [mExcs p, .int .i64 k] (.int .i64 K) ∧ k ≤ K ∧ K ≤ k + 4194304 := by
  have h1 : (p.map fun _ => AV.agg [.leaf, .leaf, .leaf, .leaf]).length = p.length := by simp
  refine ⟨_, pm21 [mExcs p, .int .i64 k] ⟨constM, hk.1, ?_⟩, ?_, ?_⟩ <;> omega
def c3 : SCode := (.seq (.reg [⟨(some 5), .box 25 (.tmp 0), none⟩,
   ⟨(some 6), .box 27 (.tmp 1), none⟩,
   ⟨(some 8), .box 30 (.tmp 3), none⟩,
   ⟨(some 10), .assign (.const (.bool false)), none⟩])
(.seq (.seq (.reg [⟨(some 24), .move (.tmp 2), none⟩,
     ⟨(some 25), .call ⟨(.builtin .len), #[(.tmp 24)], #[28]⟩, none⟩,
     ⟨(some 26), .binOp .gtr 3 (.tmp 25) (.const (.int .i64 1048576)) 3, none⟩])
  (.cond (.tmp 26) (.seq (.reg [⟨(some 10), .assign (.const (.bool true)), none⟩])
    .ret)
   .skip))
 (.seq (.reg [⟨(some 11), .assign (.const (.int .i64 1048576)), none⟩])
  (.seq (.reg [⟨(some 27), .load 25 (.tmp 5), none⟩,
      ⟨(some 28), .move (.tmp 11), none⟩,
      ⟨(some 29), .call ⟨(.value (.func 7)), #[(.tmp 27), (.tmp 28)], #[25, 3]⟩, none⟩,
      ⟨(some 11), .assign (.tmp 29), none⟩])
   (.seq (.seq (.reg [⟨(some 30), .move (.tmp 11), none⟩,
        ⟨(some 31), .binOp .lss 3 (.tmp 30) (.const (.int .i64 0)) 3, none⟩])
     (.cond (.tmp 31) (.seq (.reg [⟨(some 10), .assign (.const (.bool true)), none⟩])
       .ret)
      .skip))
    (.seq (.reg [⟨(some 32), .move (.tmp 4), none⟩,
        ⟨(some 33), .move (.tmp 11), none⟩,
        ⟨(some 34), .call ⟨(.value (.func 8)), #[(.tmp 32), (.tmp 33)], #[31, 3]⟩, none⟩,
        ⟨(some 11), .assign (.tmp 34), none⟩])
     (.seq (.seq (.reg [⟨(some 35), .move (.tmp 11), none⟩,
          ⟨(some 36), .binOp .lss 3 (.tmp 35) (.const (.int .i64 0)) 3, none⟩])
       (.cond (.tmp 36) (.seq (.reg [⟨(some 10), .assign (.const (.bool true)), none⟩])
         .ret)
        .skip))
      (.seq (.draw [⟨(some 38), .load 25 (.tmp 5), none⟩,
          ⟨(some 39), .call ⟨(.value (.func 10)), #[(.tmp 38)], #[25]⟩, none⟩,
          ⟨(some 40), .load 27 (.tmp 6), none⟩,
          ⟨(some 41), .call ⟨(.value (.func 11)), #[(.tmp 40)], #[27]⟩, none⟩,
          ⟨(some 42), .move (.tmp 2), none⟩,
          ⟨(some 43), .call ⟨(.value (.func 12)), #[(.tmp 42)], #[28]⟩, none⟩,
          ⟨(some 44), .load 30 (.tmp 8), none⟩,
          ⟨(some 45), .call ⟨(.value (.func 13)), #[(.tmp 44)], #[30]⟩, none⟩,
          ⟨(some 46), .move (.tmp 4), none⟩,
          ⟨(some 47), .call ⟨(.value (.func 14)), #[(.tmp 46)], #[31]⟩, none⟩,
          ⟨(some 48), .call ⟨(.value (.func 9)), #[(.tmp 39), (.tmp 41), (.tmp 43), (.tmp 45), (.tmp 47)], #[39, 41, 28, 44, 46]⟩, none⟩,
          ⟨(some 37), .move (.tmp 48), none⟩,
          ⟨(some 49), .extract (.tmp 37) 0, none⟩,
          ⟨(some 50), .extract (.tmp 37) 1, none⟩,
          ⟨(some 12), .assign (.tmp 49), none⟩,
          ⟨(some 13), .assign (.tmp 50), none⟩] [[], [0], [], [0, 1, 2], [], [0, 1, 2, 3, 4], [], [0, 1, 2, 3, 4, 5, 6], [], [0, 1, 2, 3, 4, 5, 6, 7, 8], [0, 1, 2, 3, 4, 5, 6, 7, 8, 9], [0, 1, 2, 3, 4, 5, 6, 7, 8, 9, 10], [0, 1, 2, 3, 4, 5, 6, 7, 8, 9, 10, 11], [0, 1, 2, 3, 4, 5, 6, 7, 8, 9, 10, 11], [0, 1, 2, 3, 4, 5, 6, 7, 8, 9, 10, 11, 12], [0, 1, 2, 3, 4, 5, 6, 7, 8, 9, 10, 11, 12, 13, 14]])
       (.seq (.reg [⟨(some 51), .load 25 (.tmp 5), none⟩,
           ⟨(some 52), .call ⟨(.value (.func 10)), #[(.tmp 51)], #[25]⟩, none⟩,
           ⟨(some 14), .alloc 39, none⟩,
           ⟨none, .store 39 (.tmp 14) (.tmp 52), none⟩])
        (.seq (.reg [⟨(some 53), .move (.tmp 2), none⟩,
            ⟨(some 54), .call ⟨(.value (.func 12)), #[(.tmp 53)], #[28]⟩, none⟩,
            ⟨(some 15), .assign (.tmp 54), none⟩])
         (.seq (.reg [⟨(some 55), .move (.tmp 4), none⟩,
             ⟨(some 56), .call ⟨(.value (.func 14)), #[(.tmp 55)], #[31]⟩, none⟩,
             ⟨(some 16), .assign (.tmp 56), none⟩])
          (.seq (.draw [⟨(some 58), .load 39 (.tmp 14), none⟩,
              ⟨(some 59), .load 27 (.tmp 6), none⟩,
              ⟨(some 60), .call ⟨(.value (.func 11)), #[(.tmp 59)], #[27]⟩, none⟩,
              ⟨(some 61), .move (.tmp 15), none⟩,
              ⟨(some 62), .load 30 (.tmp 8), none⟩,
              ⟨(some 63), .call ⟨(.value (.func 13)), #[(.tmp 62)], #[30]⟩, none⟩,
              ⟨(some 64), .move (.tmp 16), none⟩,
              ⟨(some 65), .call ⟨(.value (.func 15)), #[(.tmp 58), (.tmp 60), (.tmp 61), (.tmp 63), (.tmp 64)], #[39, 41, 28, 44, 46]⟩, none⟩,
              ⟨(some 57), .move (.tmp 65), none⟩,
              ⟨(some 66), .extract (.tmp 57) 0, none⟩,
              ⟨(some 67), .extract (.tmp 57) 1, none⟩,
              ⟨(some 17), .assign (.tmp 66), none⟩,
              ⟨(some 18), .assign (.tmp 67), none⟩] [[], [], [1], [], [], [1, 2, 4], [], [0, 1, 2, 3, 4, 5, 6], [0, 1, 2, 3, 4, 5, 6, 7], [0, 1, 2, 3, 4, 5, 6, 7, 8], [0, 1, 2, 3, 4, 5, 6, 7, 8], [0, 1, 2, 3, 4, 5, 6, 7, 8, 9], [0, 1, 2, 3, 4, 5, 6, 7, 8, 9, 10, 11]])
           (.seq (.seq (.reg [⟨(some 68), .move (.tmp 17), none⟩,
                ⟨(some 69), .move (.tmp 12), none⟩,
                ⟨(some 70), .call ⟨(.value (.func 16)), #[(.tmp 68), (.tmp 69)], #[28, 28]⟩, none⟩,
                ⟨(some 71), .unOp .not 4 (.tmp 70), none⟩,
                ⟨(some 72), .move (.tmp 71), none⟩,
                ⟨(some 73), .move (.tmp 18), (some (72, false))⟩,
                ⟨(some 74), .move (.tmp 13), (some (72, false))⟩,
                ⟨(some 75), .binOp .neq 2 (.tmp 73) (.tmp 74) 2, (some (72, false))⟩,
                ⟨(some 76), .pick (.tmp 72) (.const (.bool true)) (.tmp 75), none⟩])
             (.cond (.tmp 76) (.seq (.reg [⟨(some 10), .assign (.const (.bool false)), none⟩])
               .ret)
              .skip))
            (.seq (.seq (.draw [⟨(some 77), .load 39 (.tmp 14), none⟩,
                 ⟨(some 78), .load 25 (.tmp 5), none⟩,
                 ⟨(some 79), .call ⟨(.value (.func 10)), #[(.tmp 78)], #[25]⟩, none⟩,
                 ⟨(some 80), .call ⟨(.value (.func 17)), #[(.tmp 77), (.tmp 79)], #[39, 39]⟩, none⟩,
                 ⟨(some 81), .unOp .not 4 (.tmp 80), none⟩] [[], [], [1], [0, 1, 2], [0, 1, 2, 3]])
              (.cond (.tmp 81) (.seq (.reg [⟨(some 10), .assign (.const (.bool false)), none⟩])
                .ret)
               .skip))
             (.seq (.seq (.reg [⟨(some 82), .move (.tmp 15), none⟩,
                  ⟨(some 83), .move (.tmp 2), none⟩,
                  ⟨(some 84), .call ⟨(.value (.func 12)), #[(.tmp 83)], #[28]⟩, none⟩,
                  ⟨(some 85), .call ⟨(.value (.func 16)), #[(.tmp 82), (.tmp 84)], #[28, 28]⟩, none⟩,
                  ⟨(some 86), .unOp .not 4 (.tmp 85), none⟩])
               (.cond (.tmp 86) (.seq (.reg [⟨(some 10), .assign (.const (.bool false)), none⟩])
                 .ret)
                .skip))
              (.seq (.seq (.reg [⟨(some 87), .move (.tmp 16), none⟩,
                   ⟨(some 88), .move (.tmp 4), none⟩,
                   ⟨(some 89), .call ⟨(.value (.func 14)), #[(.tmp 88)], #[31]⟩, none⟩,
                   ⟨(some 90), .call ⟨(.value (.func 18)), #[(.tmp 87), (.tmp 89)], #[46, 46]⟩, none⟩,
                   ⟨(some 91), .unOp .not 4 (.tmp 90), none⟩])
                (.cond (.tmp 91) (.seq (.reg [⟨(some 10), .assign (.const (.bool false)), none⟩])
                  .ret)
                 .skip))
               (.seq (.reg [⟨(some 19), .assign (.const (.int .i64 1)), none⟩])
                (.seq (.reg [⟨(some 92), .load 39 (.tmp 14), none⟩,
                    ⟨(some 93), .move (.tmp 19), none⟩,
                    ⟨(some 94), .call ⟨(.value (.func 19)), #[(.tmp 92), (.tmp 93)], #[39, 3]⟩, none⟩,
                    ⟨(some 19), .assign (.tmp 94), none⟩])
                 (.seq (.reg [⟨(some 95), .move (.tmp 15), none⟩,
                     ⟨(some 96), .move (.tmp 19), none⟩,
                     ⟨(some 97), .call ⟨(.value (.func 20)), #[(.tmp 95), (.tmp 96)], #[28, 3]⟩, none⟩,
                     ⟨(some 19), .assign (.tmp 97), none⟩])
                  (.seq (.reg [⟨(some 98), .move (.tmp 16), none⟩,
                      ⟨(some 99), .move (.tmp 19), none⟩,
                      ⟨(some 100), .call ⟨(.value (.func 21)), #[(.tmp 98), (.tmp 99)], #[46, 3]⟩, none⟩,
                      ⟨(some 19), .assign (.tmp 100), none⟩])
                   (.seq (.seq (.reg [⟨(some 101), .move (.tmp 19), none⟩,
                        ⟨(some 102), .binOp .lss 3 (.tmp 101) (.const (.int .i64 0)) 3, none⟩,
                        ⟨(some 103), .move (.tmp 102), none⟩,
                        ⟨(some 104), .move (.tmp 17), (some (103, false))⟩,
                        ⟨(some 105), .move (.tmp 12), (some (103, false))⟩,
                        ⟨(some 106), .call ⟨(.value (.func 16)), #[(.tmp 104), (.tmp 105)], #[28, 28]⟩, (some (103, false))⟩,
                        ⟨(some 107), .unOp .not 4 (.tmp 106), (some (103, false))⟩,
                        ⟨(some 108), .pick (.tmp 103) (.const (.bool true)) (.tmp 107), none⟩,
                        ⟨(some 109), .move (.tmp 108), none⟩,
                        ⟨(some 110), .move (.tmp 18), (some (109, false))⟩,
                        ⟨(some 111), .move (.tmp 13), (some (109, false))⟩,
                        ⟨(some 112), .binOp .neq 2 (.tmp 110) (.tmp 111) 2, (some (109, false))⟩,
                        ⟨(some 113), .pick (.tmp 109) (.const (.bool true)) (.tmp 112), none⟩])
                     (.cond (.tmp 113) (.seq (.reg [⟨(some 10), .assign (.const (.bool false)), none⟩])
                       .ret)
                      .skip))
                    (.seq (.reg [⟨(some 20), .assign (.const (.int .i64 1)), none⟩])
                     (.seq (.reg [⟨(some 114), .move (.tmp 17), none⟩,
                         ⟨(some 115), .move (.tmp 20), none⟩,
                         ⟨(some 116), .call ⟨(.value (.func 20)), #[(.tmp 114), (.tmp 115)], #[28, 3]⟩, none⟩,
                         ⟨(some 20), .assign (.tmp 116), none⟩])
                      (.seq (.reg [⟨(some 21), .assign (.const (.int .i64 1)), none⟩])
                       (.seq (.reg [⟨(some 117), .move (.tmp 17), none⟩,
                           ⟨(some 118), .move (.tmp 21), none⟩,
                           ⟨(some 119), .call ⟨(.value (.func 22)), #[(.tmp 117), (.tmp 118)], #[28, 3]⟩, none⟩,
                           ⟨(some 21), .assign (.tmp 119), none⟩])
                        (.seq (.seq (.reg [⟨(some 120), .move (.tmp 21), none⟩,
                             ⟨(some 121), .binOp .lss 3 (.tmp 120) (.const (.int .i64 0)) 3, none⟩])
                          (.cond (.tmp 121) (.seq (.reg [⟨(some 10), .assign (.const (.bool false)), none⟩])
                            .ret)
                           .skip))
                         (.seq (.seq (.reg [⟨(some 122), .move (.tmp 21), none⟩,
                              ⟨(some 123), .move (.tmp 20), none⟩,
                              ⟨(some 124), .binOp .neq 3 (.tmp 122) (.tmp 123) 3, none⟩])
                           (.cond (.tmp 124) (.seq (.reg [⟨(some 10), .assign (.const (.bool false)), none⟩])
                             .ret)
                            .skip))
                          (.seq (.draw [⟨(some 126), .load 25 (.tmp 5), none⟩,
                              ⟨(some 127), .call ⟨(.value (.func 10)), #[(.tmp 126)], #[25]⟩, none⟩,
                              ⟨(some 128), .load 27 (.tmp 6), none⟩,
                              ⟨(some 129), .call ⟨(.value (.func 11)), #[(.tmp 128)], #[27]⟩, none⟩,
                              ⟨(some 130), .move (.tmp 2), none⟩,
                              ⟨(some 131), .call ⟨(.value (.func 12)), #[(.tmp 130)], #[28]⟩, none⟩,
                              ⟨(some 132), .load 30 (.tmp 8), none⟩,
                              ⟨(some 133), .call ⟨(.value (.func 13)), #[(.tmp 132)], #[30]⟩, none⟩,
                              ⟨(some 134), .move (.tmp 4), none⟩,
                              ⟨(some 135), .call ⟨(.value (.func 14)), #[(.tmp 134)], #[31]⟩, none⟩,
                              ⟨(some 136), .call ⟨(.value (.func 15)), #[(.tmp 127), (.tmp 129), (.tmp 131), (.tmp 133), (.tmp 135)], #[39, 41, 28, 44, 46]⟩, none⟩,
                              ⟨(some 125), .move (.tmp 136), none⟩,
                              ⟨(some 137), .extract (.tmp 125) 0, none⟩,
                              ⟨(some 138), .extract (.tmp 125) 1, none⟩,
                              ⟨(some 22), .assign (.tmp 137), none⟩,
                              ⟨(some 23), .assign (.tmp 138), none⟩] [[], [0], [], [0, 1, 2], [], [0, 1, 2, 3, 4], [], [0, 1, 2, 3, 4, 5, 6], [], [0, 1, 2, 3, 4, 5, 6, 7, 8], [0, 1, 2, 3, 4, 5, 6, 7, 8, 9], [0, 1, 2, 3, 4, 5, 6, 7, 8, 9, 10], [0, 1, 2, 3, 4, 5, 6, 7, 8, 9, 10, 11], [0, 1, 2, 3, 4, 5, 6, 7, 8, 9, 10, 11], [0, 1, 2, 3, 4, 5, 6, 7, 8, 9, 10, 11, 12], [0, 1, 2, 3, 4, 5, 6, 7, 8, 9, 10, 11, 12, 13, 14]])
                           (.seq (.seq (.reg [⟨(some 139), .move (.tmp 22), none⟩,
                                ⟨(some 140), .move (.tmp 12), none⟩,
                                ⟨(some 141), .call ⟨(.value (.func 16)), #[(.tmp 139), (.tmp 140)], #[28, 28]⟩, none⟩,
                                ⟨(some 142), .unOp .not 4 (.tmp 141), none⟩,
                                ⟨(some 143), .move (.tmp 142), none⟩,
                                ⟨(some 144), .move (.tmp 23), (some (143, false))⟩,
                                ⟨(some 145), .move (.tmp 13), (some (143, false))⟩,
                                ⟨(some 146), .binOp .neq 2 (.tmp 144) (.tmp 145) 2, (some (143, false))⟩,
                                ⟨(some 147), .pick (.tmp 143) (.const (.bool true)) (.tmp 146), none⟩])
                             (.cond (.tmp 147) (.seq (.reg [⟨(some 10), .assign (.const (.bool false)), none⟩])
                               .ret)
                              .skip))
                            (.seq (.reg [⟨(some 21), .assign (.const (.int .i64 1)), none⟩])
                             (.seq (.reg [⟨(some 148), .move (.tmp 17), none⟩,
                                 ⟨(some 149), .move (.tmp 21), none⟩,
                                 ⟨(some 150), .call ⟨(.value (.func 22)), #[(.tmp 148), (.tmp 149)], #[28, 3]⟩, none⟩,
                                 ⟨(some 21), .assign (.tmp 150), none⟩])
                              (.seq (.seq (.reg [⟨(some 151), .move (.tmp 21), none⟩,
                                   ⟨(some 152), .binOp .lss 3 (.tmp 151) (.const (.int .i64 0)) 3, none⟩])
                                (.cond (.tmp 152) (.seq (.reg [⟨(some 10), .assign (.const (.bool false)), none⟩])
                                  .ret)
                                 .skip))
                               (.seq (.seq (.reg [⟨(some 153), .move (.tmp 21), none⟩,
                                    ⟨(some 154), .move (.tmp 20), none⟩,
                                    ⟨(some 155), .binOp .neq 3 (.tmp 153) (.tmp 154) 3, none⟩])
                                 (.cond (.tmp 155) (.seq (.reg [⟨(some 10), .assign (.const (.bool false)), none⟩])
                                   .ret)
                                  .skip))
                                (.seq (.reg [⟨(some 10), .assign (.const (.bool true)), none⟩])
                                 .ret))))))))))))))))))))))))))))))))))
theorem s3 : slimF Tryz.f3 = some (c3, [.t 10], 156) := by kernel_rfl
theorem o3 : okF [(7, g7), (8, g8), (10, g10), (11, g11), (12, g12), (13, g13), (14, g14), (9, g9), (16, g16), (17, g17), (18, g18), (22, g22)] Tryz.f3 = true := by kernel_rfl
theorem law_FnExactExcepted (x : Tree) (y : Rule) (p : List Int) (q : Pg) (e : List Exc) : LawOk Tryz.prog 3 [.agg [.sl 1 2 (x.devices.map (enDev.av 1)), .sl 1 3 (x.buckets.map (enBkt.av 1))], .agg [.int .i64 y.id, .int .i64 y.root, .int .i64 y.kind, .bool y.indep], .sl 1 1 (p.map (AV.int .i64)), .agg [.int .i64 q.pool, .int .i64 q.no], .sl 1 4 (e.map (enExc.av 1))] := by
  have hself : ∀ {α : Type} (x : α), eqB x x = true := fun x => eqB_iff.2 rfl
  have hT : Table Tryz.prog [(7, g7), (8, g8), (10, g10), (11, g11), (12, g12), (13, g13), (14, g14), (9, g9), (16, g16), (17, g17), (18, g18), (22, g22)] := (.cons p7 (.cons p8 (.cons p10 (.cons p11 (.cons p12 (.cons p13 (.cons p14 (.cons p9 (.cons p16 (.cons p17 (.cons p18 (.cons p22 .nil))))))))))))
  refine LawOk.of_body Tryz.func3 s3 o3 (by simp) ?_
  simp only [c3]
  generalize hta : (x.devices.length + (x.buckets.length + (x.buckets.map enBkt.tot).sum)) = ta
  generalize htb : e.length = tb
  refine VL_step hT hm 2 (by decide) ?_
  simp (config := {contextual := true, maxSteps := 2000000, implicitDefEqProofs := false}) [go_sem]
  try refine And.intro (by omega) ?_
  by_cases hp20 : p.length ≤ 1048576
  · have hpx : ¬ (1048576 : Int) < (p.length : Int) := by omega
    refine VL_step hT hm 2 (by decide) ?_
    simp (config := {contextual := true, maxSteps := 2000000, implicitDefEqProofs := false}) [go_sem, hpx]
    try refine And.intro (by omega) ?_
    intro hmx
    refine VL_step hT hm 2 (by decide) ?_
    simp (config := {contextual := true, maxSteps := 2000000, implicitDefEqProofs := false}) [go_sem, hpx]
    try refine And.intro (by omega) ?_
    rcases szR_spec 1048576 ta with ⟨h1, h3⟩ | ⟨h1, h3⟩
    · have h4 : (0 : Int) ≤ 1048576 - (ta : Nat) := by omega
      have h4' : 1048576 - ((ta : Nat) : Int) ≤ 4611686018427387904 := by omega
      have h5 : ta ≤ 1048576 := by omega
      have h6 : ¬ (1048576 - ((ta : Nat) : Int)) < 0 := by omega
      have h7 : (ta : Int) ≤ 1048576 := by omega
      rcases szR_spec (1048576 - (ta : Int)) tb with ⟨k1, k3⟩ | ⟨k1, k3⟩
      · have k4 : (0 : Int) ≤ 1048576 - (ta : Int) - (tb : Nat) := by omega
        have k5 : tb ≤ 1048576 := by omega
        have k6 : ¬ (1048576 - (ta : Int) - ((tb : Nat) : Int)) < 0 := by omega
        obtain ⟨K1, hs1, b1, b2⟩ := markTree_ok (x := x) (k := 1) (by decide) (by rw [hta]; exact h5)
        obtain ⟨K2, hs2, b3, b4⟩ := markInts_ok (p := p) (k := K1) (by omega) hp20
        obtain ⟨K3, hs3, b5, b6⟩ := markExcs_ok (p := e) (k := K2) (by omega) (by omega)
        have hK3 : ¬ K3 < 0 := by omega
        have hll := xpR_len (t := x) (r := y) (p := p) (g := q) (l := e)
        have hml : (mkI 1 (xpR x y p q e).length).length = (xpR x y p q e).length := mkI_len
        have htk : List.take (xpR x y p q e).length (List.map (AV.int .i64) (mkI 1 (xpR x y p q e).length)) = List.map (AV.int .i64) (mkI 1 (xpR x y p q e).length) := List.take_of_length_le (by simp [mkI_len])
        have hld : hldI 1 (mkI 1 (xpR x y p q e).length) = 1 + ((xpR x y p q e).length : Int) := hldI_mkI
        have hb0 : 1 + ((xpR x y p q e).length : Int) ≤ 1152921504606846976 := by omega
        have hb1 : ¬ 1 + ((xpR x y p q e).length : Int) < 0 := by omega
        have hb2 : (xpR x y p q e).length ≤ (xpR x y p q e).length := Nat.le_refl _
        refine VL_step hT hm 2 (by decide) ?_
        simp (config := {contextual := true, maxSteps := 2000000, implicitDefEqProofs := false}) [go_sem, hpx, bigB, hta, htb, h3, h4, h5, h6, k3, k4, k5, k6, hself]
        try refine And.intro (by omega) ?_
        refine VL_step hT hm 2 (by decide) ?_
        simp (config := {contextual := true, maxSteps := 2000000, implicitDefEqProofs := false}) [go_sem, hpx, bigB, hta, htb, h3, h4, h5, h6, k3, k4, k5, k6, hself]
        try refine And.intro (by omega) ?_
        refine VL_step hT hm 2 (by decide) ?_
        simp (config := {contextual := true, maxSteps := 2000000, implicitDefEqProofs := false}) [go_sem, hpx, bigB, hta, htb, h3, h4, h5, h6, k3, k4, k5, k6, hself]
        try refine And.intro (by omega) ?_
        refine VL_step hT hm 2 (by decide) ?_
        simp (config := {contextual := true, maxSteps := 2000000, implicitDefEqProofs := false}) [go_sem, hpx, bigB, hta, htb, h3, h4, h5, h6, k3, k4, k5, k6, hself]
        try refine And.intro (by omega) ?_
        refine VL_step hT hm 2 (by decide) ?_
        simp (config := {contextual := true, maxSteps := 2000000, implicitDefEqProofs := false}) [go_sem, hpx, bigB, hta, htb, h3, h4, h5, h6, k3, k4, k5, k6, hself]
        try refine And.intro (by omega) ?_
        refine VL_step hT hm 3 (by decide) ?_
        simp (config := {contextual := true, maxSteps := 2000000, implicitDefEqProofs := false}) [go_sem, hpx, bigB, hta, htb, h3, h4, h5, h6, k3, k4, k5, k6, hself]
        try refine And.intro (by omega) ?_
        refine VL_step hT hm 4 (by decide) ?_
        simp (config := {contextual := true, maxSteps := 2000000, implicitDefEqProofs := false}) [go_sem, hpx, bigB, hta, htb, h3, h4, h5, h6, k3, k4, k5, k6, hself]
        try refine And.intro (by omega) ?_
        refine VL_step hT hm 5 (by decide) ?_
        simp (config := {contextual := true, maxSteps := 2000000, implicitDefEqProofs := false}) [go_sem, hpx, bigB, hta, htb, h3, h4, h5, h6, k3, k4, k5, k6, hself]
        try refine And.intro (by omega) ?_
        refine VL_keep [5, 6, 2, 8, 4, 12, 13, 14, 15, 16] ?_
        simp (config := {contextual := true, maxSteps := 2000000, implicitDefEqProofs := false}) [go_sem]
        refine VL_step hT hm 2 (by decide) ?_
        simp (config := {contextual := true, maxSteps := 2000000, implicitDefEqProofs := false}) [go_sem, hpx, bigB, hta, htb, h3, h4, h5, h6, k3, k4, k5, k6, hself]
        try refine And.intro (by omega) ?_
        refine ⟨15, [], rfl, [], 2, [.row 2 1 ((xpR x y p q e).map (AV.int .i64))], .tup [.osl 0 1 0 (xpR x y p q e).length, .int .i64 (xcR x y p e)], Nat.le_refl _, by simp, by simp, by simp [go_sem, posOf], by simpa [go_sem, rinOf, Root.rnp, posOf] using sat_15 (n := 2) (by decide) (τ := 3) (τ3 := 4) (τ5 := 5) (t := x) (r := y) (p := p) (g := q) (l := e) (by decide), ?_⟩
        simp (config := {contextual := true, maxSteps := 2000000, implicitDefEqProofs := false}) [go_sem, stOf, putAll, gmap, Root.ren, AV.ren, AV.ren2, AV.ren1, AV.ren0]
        refine VL_step hT hm 2 (by decide) ?_
        simp (config := {contextual := true, maxSteps := 2000000, implicitDefEqProofs := false}) [go_sem, hpx, bigB, hta, htb, h3, h4, h5, h6, k3, k4, k5, k6, hself]
        try refine And.intro (by omega) ?_
        refine VL_step hT hm 2 (by decide) ?_
        simp (config := {contextual := true, maxSteps := 2000000, implicitDefEqProofs := false}) [go_sem, hpx, bigB, hta, htb, h3, h4, h5, h6, k3, k4, k5, k6, hself]
        try refine And.intro (by omega) ?_
        refine VL_step hT hm 2 (by decide) ?_
        simp (config := {contextual := true, maxSteps := 2000000, implicitDefEqProofs := false}) [go_sem, hpx, bigB, hta, htb, h3, h4, h5, h6, k3, k4, k5, k6, hself]
        try refine And.intro (by omega) ?_
        refine VL_step hT hm 2 (by decide) ?_
        simp (config := {contextual := true, maxSteps := 2000000, implicitDefEqProofs := false}) [go_sem, hpx, bigB, hta, htb, h3, h4, h5, h6, k3, k4, k5, k6, hself]
        try refine And.intro (by omega) ?_
        refine VL_keep [5, 6, 2, 8, 4, 12, 13, 14, 15, 16, 17, 18] ?_
        simp (config := {contextual := true, maxSteps := 2000000, implicitDefEqProofs := false}) [go_sem]
        refine VL_step hT hm 2 (by decide) ?_
        simp (config := {contextual := true, maxSteps := 2000000, implicitDefEqProofs := false}) [go_sem, hpx, bigB, hta, htb, h3, h4, h5, h6, k3, k4, k5, k6, hself]
        try refine And.intro (by omega) ?_
        refine VL_seq (VL_reg ?_)
        refine VR_one hT 2 (by decide) ?_
        simp (config := {contextual := true, maxSteps := 2000000, implicitDefEqProofs := false}) [go_sem]
        refine VR_one hT 2 (by decide) ?_
        simp (config := {contextual := true, maxSteps := 2000000, implicitDefEqProofs := false}) [go_sem]
        refine VR_mark 3 (by decide) [5, 6, 2, 8, 4, 12, 13, 15, 16, 17, 18, 19] [3] (y := mTree x) (k0 := 1) (k' := K1) rfl rfl rfl lfTree hs1 (by simp [go_sem]) (by simp [gones, NmR, go_sem]) ?_
        simp (config := {contextual := true, maxSteps := 2000000, implicitDefEqProofs := false}) [go_sem, gones]
        refine VR_one hT 2 (by decide) ?_
        simp (config := {contextual := true, maxSteps := 2000000, implicitDefEqProofs := false}) [go_sem]
        refine VR_nil ?_
        simp (config := {contextual := true, maxSteps := 2000000, implicitDefEqProofs := false}) [go_sem]
        refine VL_seq (VL_reg ?_)
        refine VR_one hT 2 (by decide) ?_
        simp (config := {contextual := true, maxSteps := 2000000, implicitDefEqProofs := false}) [go_sem]
        refine VR_one hT 2 (by decide) ?_
        simp (config := {contextual := true, maxSteps := 2000000, implicitDefEqProofs := false}) [go_sem]
        refine VR_mark 4 (by decide) [5, 6, 2, 8, 4, 12, 13, 16, 17, 18, 19] [] (y := mInts p) (k0 := K1) (k' := K2) rfl rfl rfl lfInts hs2 (by simp [go_sem]) (by simp [gones, NmR, go_sem]) ?_
        simp (config := {contextual := true, maxSteps := 2000000, implicitDefEqProofs := false}) [go_sem, gones]
        refine VR_one hT 2 (by decide) ?_
        simp (config := {contextual := true, maxSteps := 2000000, implicitDefEqProofs := false}) [go_sem]
        refine VR_nil ?_
        simp (config := {contextual := true, maxSteps := 2000000, implicitDefEqProofs := false}) [go_sem]
        refine VL_seq (VL_reg ?_)
        refine VR_one hT 2 (by decide) ?_
        simp (config := {contextual := true, maxSteps := 2000000, implicitDefEqProofs := false}) [go_sem]
        refine VR_one hT 2 (by decide) ?_
        simp (config := {contextual := true, maxSteps := 2000000, implicitDefEqProofs := false}) [go_sem]
        refine VR_mark 5 (by decide) [5, 6, 2, 8, 4, 12, 13, 17, 18, 19] [] (y := mExcs e) (k0 := K2) (k' := K3) rfl rfl rfl lfExcs hs3 (by simp [go_sem]) (by simp [gones, NmR, go_sem]) ?_
        simp (config := {contextual := true, maxSteps := 2000000, implicitDefEqProofs := false}) [go_sem, gones]
        refine VR_one hT 2 (by decide) ?_
        simp (config := {contextual := true, maxSteps := 2000000, implicitDefEqProofs := false}) [go_sem]
        refine VR_nil ?_
        simp (config := {contextual := true, maxSteps := 2000000, implicitDefEqProofs := false}) [go_sem]
        refine VL_step hT hm 2 (by decide) ?_
        simp (config := {contextual := true, maxSteps := 2000000, implicitDefEqProofs := false}) [go_sem, hpx, bigB, hta, htb, h3, h4, h5, h6, k3, k4, k5, k6, hself, hK3]
        try refine And.intro (by omega) ?_
        refine VL_step hT hm 2 (by decide) ?_
        simp (config := {contextual := true, maxSteps := 2000000, implicitDefEqProofs := false}) [go_sem, hpx, bigB, hta, htb, h3, h4, h5, h6, k3, k4, k5, k6, hself]
        try refine And.intro (by omega) ?_
        refine VL_step hT hm 2 (by decide) ?_
        simp (config := {contextual := true, maxSteps := 2000000, implicitDefEqProofs := false}) [go_sem, hpx, bigB, hta, htb, h3, h4, h5, h6, k3, k4, k5, k6, hself]
        try refine And.intro (by omega) ?_
        refine ⟨20, [], rfl, [4], 2, [.row 2 1 ((mkI 1 (xpR x y p q e).length).map (AV.int .i64))], .int .i64 (1 + ((xpR x y p q e).length : Int)), Nat.le_refl _, by simp, by simp, by simp [go_sem, posOf], by simpa [go_sem, rinOf, Root.rnp, posOf] using sat_20 (n := 2) (k := 1) (ls := (xpR x y p q e)) (by decide) (by decide) (by omega), ?_⟩
        simp (config := {contextual := true, maxSteps := 2000000, implicitDefEqProofs := false}) [go_sem, stOf, putAll, gmap, Root.ren, AV.ren, AV.ren2, AV.ren1, AV.ren0]
        generalize mkI 1 (xpR x y p q e).length = ms at *
        refine VL_keep [5, 6, 2, 8, 4, 12, 13, 17, 18, 20] ?_
        simp (config := {contextual := true, maxSteps := 2000000, implicitDefEqProofs := false}) [go_sem]
        refine VL_step hT hm 2 (by decide) ?_
        simp (config := {contextual := true, maxSteps := 2000000, implicitDefEqProofs := false}) [go_sem, hpx, bigB, hta, htb, h3, h4, h5, h6, k3, k4, k5, k6, hself]
        try refine And.intro (by omega) ?_
        refine VL_step hT hm 2 (by decide) ?_
        simp (config := {contextual := true, maxSteps := 2000000, implicitDefEqProofs := false}) [go_sem, hpx, bigB, hta, htb, h3, h4, h5, h6, k3, k4, k5, k6, hself, hml, htk, hld, hb0, hb1, hb2, hself]
        try refine And.intro (by omega) ?_
        refine VL_step hT hm 2 (by decide) ?_
        simp (config := {contextual := true, maxSteps := 2000000, implicitDefEqProofs := false}) [go_sem, hpx, bigB, hta, htb, h3, h4, h5, h6, k3, k4, k5, k6, hself, hml, htk, hld, hb0, hb1, hb2, hself]
        try refine And.intro (by omega) ?_
        refine VL_step hT hm 2 (by decide) ?_
        simp (config := {contextual := true, maxSteps := 2000000, implicitDefEqProofs := false}) [go_sem, hpx, bigB, hta, htb, h3, h4, h5, h6, k3, k4, k5, k6, hself, hml, htk, hld, hb0, hb1, hb2, hself]
        try refine And.intro (by omega) ?_
        refine VL_keep [5, 6, 2, 8, 4, 12, 13, 17, 18, 20] ?_
        simp (config := {contextual := true, maxSteps := 2000000, implicitDefEqProofs := false}) [go_sem]
        refine VL_step hT hm 2 (by decide) ?_
        simp (config := {contextual := true, maxSteps := 2000000, implicitDefEqProofs := false}) [go_sem, hpx, bigB, hta, htb, h3, h4, h5, h6, k3, k4, k5, k6, hself]
        try refine And.intro (by omega) ?_
        refine ⟨15, [], rfl, [], 2, [.row 2 1 ((xpR x y p q e).map (AV.int .i64))], .tup [.osl 0 1 0 (xpR x y p q e).length, .int .i64 (xcR x y p e)], Nat.le_refl _, by simp, by simp, by simp [go_sem, posOf], by simpa [go_sem, rinOf, Root.rnp, posOf] using sat_15 (n := 2) (by decide) (τ := 2) (τ3 := 2) (τ5 := 2) (t := x) (r := y) (p := p) (g := q) (l := e) (by decide), ?_⟩
        simp (config := {contextual := true, maxSteps := 2000000, implicitDefEqProofs := false}) [go_sem, stOf, putAll, gmap, Root.ren, AV.ren, AV.ren2, AV.ren1, AV.ren0]
        refine VL_step hT hm 2 (by decide) ?_
        simp (config := {contextual := true, maxSteps := 2000000, implicitDefEqProofs := false}) [go_sem, hpx, bigB, hta, htb, h3, h4, h5, h6, k3, k4, k5, k6, hself, hml, htk, hld, hb0, hb1, hb2, hself]
        try refine And.intro (by omega) ?_
        refine VL_keep [5, 6, 2, 8, 4, 12, 13, 17, 18, 20] ?_
        simp (config := {contextual := true, maxSteps := 2000000, implicitDefEqProofs := false}) [go_sem]
        refine VL_step hT hm 2 (by decide) ?_
        simp (config := {contextual := true, maxSteps := 2000000, implicitDefEqProofs := false}) [go_sem, hpx, bigB, hta, htb, h3, h4, h5, h6, k3, k4, k5, k6, hself]
        try refine And.intro (by omega) ?_
        refine VL_step hT hm 2 (by decide) ?_
        simp (config := {contextual := true, maxSteps := 2000000, implicitDefEqProofs := false}) [go_sem, hpx, bigB, hta, htb, h3, h4, h5, h6, k3, k4, k5, k6, hself, hml, htk, hld, hb0, hb1, hb2, hself]
        try refine And.intro (by omega) ?_
        refine VL_step hT hm 2 (by decide) ?_
        simp (config := {contextual := true, maxSteps := 2000000, implicitDefEqProofs := false}) [go_sem, hpx, bigB, hta, htb, h3, h4, h5, h6, k3, k4, k5, k6, hself, hml, htk, hld, hb0, hb1, hb2, hself]
        try refine And.intro (by omega) ?_
        refine VL_step hT hm 2 (by decide) ?_
        simp (config := {contextual := true, maxSteps := 2000000, implicitDefEqProofs := false}) [go_sem, hpx, bigB, hta, htb, h3, h4, h5, h6, k3, k4, k5, k6, hself, hml, htk, hld, hb0, hb1, hb2, hself]
        try refine And.intro (by omega) ?_
        refine VL_vc hT hm 2 (by decide) ?_
        simp (config := {contextual := true, maxSteps := 2000000, implicitDefEqProofs := false}) [go_sem]
      · refine VL_step hT hm 2 (by decide) ?_
        simp (config := {contextual := true, maxSteps := 2000000, implicitDefEqProofs := false}) [go_sem, hpx, bigB, hta, htb, h3, h4, h5, h6, k3]
        try refine And.intro (by omega) ?_
        refine VL_step hT hm 2 (by decide) ?_
        simp (config := {contextual := true, maxSteps := 2000000, implicitDefEqProofs := false}) [go_sem, hpx, bigB, hta, htb, h3, h4, h5, h6, k3]
        try refine And.intro (by omega) ?_
        refine VL_step hT hm 2 (by decide) ?_
        simp (config := {contextual := true, maxSteps := 2000000, implicitDefEqProofs := false}) [go_sem, hpx, bigB, hta, htb, h3, h4, h5, h6, k3]
        try refine And.intro (by omega) ?_
        refine VL_step hT hm 2 (by decide) ?_
        simp (config := {contextual := true, maxSteps := 2000000, implicitDefEqProofs := false}) [go_sem, hpx, bigB, hta, htb, h3, h4, h5, h6, k3]
        try refine And.intro (by omega) ?_
    · refine VL_step hT hm 2 (by decide) ?_
      simp (config := {contextual := true, maxSteps := 2000000, implicitDefEqProofs := false}) [go_sem, hpx, bigB, hta, h3]
      try refine And.intro (by omega) ?_
      refine VL_step hT hm 2 (by decide) ?_
      simp (config := {contextual := true, maxSteps := 2000000, implicitDefEqProofs := false}) [go_sem, hpx, bigB, hta, h3]
      try refine And.intro (by omega) ?_
  · have hpx : (1048576 : Int) < (p.length : Int) := by omega
    refine VL_step hT hm 2 (by decide) ?_
    simp (config := {contextual := true, maxSteps := 2000000, implicitDefEqProofs := false}) [go_sem, hpx]
    try refine And.intro (by omega) ?_
theorem lawz_FnExactExcepted (x0 : Tree) (x1 : Rule) (x2 : List Int) (x3 : Pg) (x4 : List Exc) (_ : okTree x0) (_ : okRule x1) (_ : (x2.length ≤ maxLen ∧ x2.length * 8 ≤ 140737488351232 ∧ ∀ y1 ∈ x2, (Lit.int .i64 y1).wf = true)) (_ : okPg x3) (_ : (x4.length ≤ maxLen ∧ x4.length * 32 ≤ 140737488351232 ∧ ∀ y1 ∈ x4, okExc y1)) : LawOk Tryz.prog 3 [enTree.av 1 x0, enRule.av 1 x1, (En.int .i64).list.av 1 x2, enPg.av 1 x3, enExc.list.av 1 x4] := law_FnExactExcepted x0 x1 x2 x3 x4
end Go.Ve
