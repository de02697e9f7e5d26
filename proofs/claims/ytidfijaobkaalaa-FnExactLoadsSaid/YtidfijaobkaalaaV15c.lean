/- Contracts of the seat: spreads of the reference. No condition. -/
import Derived.Test.YtidfijaobkaalaaV15b
namespace Go.Ve
open Go.Proofs Go.RowKit
set_option linter.unusedVariables false
set_option linter.unusedSimpArgs false
set_option maxRecDepth 10000
set_option maxHeartbeats 4000000
/- spec.l10Spread -/
def c71 : SCode := (.seq (.reg [⟨(some 2), .box 36 (.tmp 0), none⟩,
   ⟨(some 4), .assign (.const (.int .i64 0)), none⟩])
(.seq (.reg [⟨(some 5), .assign (.const (.int .i64 (-1))), none⟩])
 (.seq (.reg [⟨(some 6), .assign (.const (.int .i64 (-1))), none⟩])
  (.seq (.seq (.reg [⟨(some 7), .assign (.const (.int .i64 0)), none⟩])
    (.block 0 (.loop (.seq (.seq (.reg [⟨(some 9), .move (.tmp 7), none⟩,
           ⟨(some 10), .move (.tmp 1), none⟩,
           ⟨(some 11), .call ⟨(.builtin .len), #[(.tmp 10)], #[56]⟩, none⟩,
           ⟨(some 12), .binOp .lss 3 (.tmp 9) (.tmp 11) 3, none⟩])
        (.cond (.tmp 12) .skip
         (.exit 0)))
       (.seq (.block 1 (.seq (.seq (.reg [⟨(some 15), .fieldAddr 36 (.tmp 2) 0, none⟩,
              ⟨(some 16), .load 33 (.tmp 15), none⟩,
              ⟨(some 17), .move (.tmp 7), none⟩,
              ⟨(some 18), .indexAddr 33 (.tmp 16) (.tmp 17), none⟩,
              ⟨(some 19), .fieldAddr 125 (.tmp 18) 1, none⟩,
              ⟨(some 20), .load 2 (.tmp 19), none⟩,
              ⟨(some 21), .binOp .eql 2 (.tmp 20) (.const (.int .i64 0)) 2, none⟩])
           (.cond (.tmp 21) (.exit 1)
            .skip))
          (.seq (.draw [⟨(some 22), .load 36 (.tmp 2), none⟩,
              ⟨(some 23), .move (.tmp 1), none⟩,
              ⟨(some 24), .move (.tmp 7), none⟩,
              ⟨(some 25), .indexAddr 56 (.tmp 23) (.tmp 24), none⟩,
              ⟨(some 26), .load 97 (.tmp 25), none⟩,
              ⟨(some 27), .call ⟨(.value (.func 112)), #[(.tmp 22), (.tmp 26)], #[36, 97]⟩, none⟩,
              ⟨(some 8), .assign (.tmp 27), none⟩] [[], [], [], [1, 2], [1, 2, 3], [0, 1, 2, 3, 4], [0, 1, 2, 3, 4, 5]])
           (.seq (.reg [⟨(some 28), .move (.tmp 5), none⟩,
               ⟨(some 29), .move (.tmp 8), none⟩,
               ⟨(some 30), .call ⟨(.value (.func 113)), #[(.tmp 28), (.tmp 29)], #[2, 2]⟩, none⟩,
               ⟨(some 5), .assign (.tmp 30), none⟩])
            (.seq (.reg [⟨(some 31), .move (.tmp 6), none⟩,
                ⟨(some 32), .binOp .lss 2 (.tmp 31) (.const (.int .i64 0)) 2, none⟩,
                ⟨(some 33), .move (.tmp 32), none⟩,
                ⟨(some 34), .move (.tmp 8), (some (33, false))⟩,
                ⟨(some 35), .move (.tmp 6), (some (33, false))⟩,
                ⟨(some 36), .binOp .lss 2 (.tmp 34) (.tmp 35) 2, (some (33, false))⟩,
                ⟨(some 37), .pick (.tmp 33) (.const (.bool true)) (.tmp 36), none⟩])
             (.cond (.tmp 37) (.reg [⟨(some 38), .move (.tmp 8), none⟩,
                 ⟨(some 6), .assign (.tmp 38), none⟩])
              .skip))))))
        (.reg [⟨(some 13), .move (.tmp 7), none⟩,
           ⟨(some 14), .binOp .add 3 (.tmp 13) (.const (.int .i64 1)) 3, none⟩,
           ⟨(some 7), .assign (.tmp 14), none⟩]))))))
   (.seq (.reg [⟨(some 39), .move (.tmp 5), none⟩,
       ⟨(some 40), .move (.tmp 6), none⟩,
       ⟨(some 41), .binOp .sub 2 (.tmp 39) (.tmp 40) 2, none⟩,
       ⟨(some 4), .assign (.tmp 41), none⟩])
    .ret)))))
theorem s71 : slimF Try.f71 = some (c71, [.t 4], 42) := by kernel_rfl
theorem o71 : okF [(112, g112), (113, g113)] Try.f71 = true := by kernel_rfl
noncomputable def g71 : Fsem := sem2 enTree enLoad.list (fun t ls => ∃ p, tblOk p = true ∧ ls = loadsOf t p ∧ devsOk t = true) (fun n t ls => .int .i64 (spreadL (utilsL t.devices ls)))
@[go_sem] theorem g71_eq {n τ τ' : Nat} {t : Tree} {ls : List Load} : g71 n [.agg [.sl τ 2 (t.devices.map (enDev.av τ)), .sl τ 3 (t.buckets.map (enBkt.av τ))], .sl τ' 2 (ls.map (enLoad.av τ'))] = ⟨∃ p, tblOk p = true ∧ ls = loadsOf t p ∧ devsOk t = true, .int .i64 (spreadL (utilsL t.devices ls))⟩ := sem2_eq  (E := enTree) (F := enLoad.list)
theorem p71 : Pure Try.prog 71 g71 := by
  refine sem2_pure fun τ τ' t ls n h2 hpre => ?_
  have hT : Table Try.prog [(112, g112), (113, g113)] := (.cons p112 (.cons p113 .nil))
  have hn0 : n ≠ 0 := by omega
  refine SatP.of_body hT hm Try.func71 s71 o71 h2 (by simp) ?_
  obtain ⟨p, hp1, rfl, hp2⟩ := hpre
  obtain ⟨hd16, hdw⟩ := devs_parts hp2
  have h112 := tbl_1000 hp1
  have hub := utils_bnd (p := p) (by omega) (l := t.devices) fun d hd => (hdw d hd).1
  simp only [loadsOf, utilsL_eq, spreadL]
  have hh := hi_bnd (l := utils p t.devices) (h := -1) hub (by omega)
  have hm' := lo_bnd (l := utils p t.devices) (h := -1) hub (by omega)
  generalize hrh : hiL (utils p t.devices) (-1) = rh at *
  generalize hrm : loL (utils p t.devices) (-1) = rm at *
  have hwr : IntKind.i64.wrap (rh - rm) = rh - rm := wrap_ok (by omega) (by omega)
  have hnn : ∀ (pre : List Dev) (x : Dev) (rest : List Dev), pre ++ x :: rest = t.devices → nth (List.map (enLoad.av τ') (List.map (ldOf p) t.devices)) pre.length = enLoad.av τ' (ldOf p x) := fun pre x rest hl => by rw [← hl]; simp [go_sem]
  have hll : (t.devices.map (ldOf p)).length = t.devices.length := by simp
  generalize t.devices.map (ldOf p) = ls at *
  simp (config := {contextual := true, maxSteps := 2000000, implicitDefEqProofs := false}) [c71, go_sem]
  refine VW_listKe [] [2] hT h2 hm t.devices [1, 2] (fun pre post ⟨h, m⟩ => [(7, .int .i64 pre.length), (5, .int .i64 h), (6, .int .i64 m)]) (fun pre post ⟨h, m⟩ => hiL (utils p post) h = rh ∧ loL (utils p post) m = rm) (-1, -1) ?_ ?_ ?_ ?_
  · exact ⟨hrh, hrm⟩
  · simp [SubE, SubR, go_sem]
  · rintro ⟨h, m⟩ ⟨hR1, hR2⟩
    simp only [utils, hiL, loL] at hR1 hR2
    subst hR1 hR2
    simp (config := {contextual := true, maxSteps := 2000000, implicitDefEqProofs := false}) [go_sem, hwr, hll]
  · rintro pre x rest ⟨h, m⟩ hl hlen ⟨hR1, hR2⟩
    have hln : t.devices.length = pre.length + (rest.length + 1) := by rw [← hl]; simp
    have hn : nth (List.map (enDev.av τ) t.devices) (pre.length) = (enDev.av τ) x := by rw [← hl]; simp [go_sem]
    have hw : t.devices.length ≤ maxLen → IntKind.i64.wrap ((pre.length : Int) + 1) = (pre.length : Int) + 1 := fun h => wrap_ok (by omega) (by simp only [maxLen] at h; omega)
    have h3 : (0 : Int) ≤ (pre.length : Int) := by omega
    have h4 : (pre.length : Int) < (t.devices.length : Int) := by omega
    have h5 : ¬ (t.devices.length : Int) ≤ (pre.length : Int) := by omega
    have hn2 := hnn pre x rest hl
    have hfi := devs_find hp2 hl
    have hwx : wOf t x.id = x.weight := by simp [wOf, hfi]
    have hxw := hdw x (by rw [← hl]; simp)
    have hc := cnt_le (id := x.id) (l := flatL p)
    generalize hlx : ldOf p x = lx at hn2
    have hl1 : lx.node = x.id := by rw [← hlx]; rfl
    have hl2 : lx.count = cnt x.id (flatL p) := by rw [← hlx]; rfl
    rw [← hl1] at hwx
    rw [← hl2] at hc
    have hc2 : lx.count ≤ 1000 := by omega
    simp only [utils, ← hl2] at hR1 hR2
    by_cases hz : x.weight = 0
    · rw [if_pos hz] at hR1 hR2
      simp (config := {contextual := true, maxSteps := 2000000, implicitDefEqProofs := false}) [go_sem, hn, hn2, hll, hw, h3, h4, h5, hz, SubE, SubR]
      exact fun _ => ⟨hR1, hR2⟩
    · rw [if_neg hz] at hR1 hR2
      simp only [hiL, loL] at hR1 hR2
      have hx0 : 0 < x.weight := by omega
      simp (config := {contextual := true, maxSteps := 2000000, implicitDefEqProofs := false}) [go_sem, hn, hn2, hll, hw, h3, h4, h5, hz, hwx, hx0, hxw, hc, hc2, SubE, SubR]
      intro _
      exact ⟨fun q => ⟨hR1, by rw [if_pos q] at hR2; exact hR2⟩, fun q1 q2 => ⟨hR1, by rw [if_neg (by omega)] at hR2; exact hR2⟩⟩
end Go.Ve
