-- Written by a program of this session (wip/tools/myprint.py) over the kit's print: it is not the kit's print.
import Derived.Test.YthphhklbliambaaExtra
import Derived.Test.YthphhklbliambaaMFnExactApplyOpsx0
namespace Go.Proofs.Ythphhklbliambaa.MFnExactApplyOps
open Go.RowKit Go.Proofs.YthphhklbliambaaW.PrintWords Go.Proofs.YthphhklbliambaaW.PrintLast Go.Proofs.YthphhklbliambaaW.PrintMore
open List renaming setIfInBounds_toArray → sit, set_cons_zero → scz, set_cons_succ → scs, map_toArray → mta, map_cons → mco, map_nil → mni, length_drop → lnd, length_take → lnt
open World renaming block_lt_of_cell? → blc
attribute [local go_sem] max2_int min2_int max_two min_two max_three min_three max_four min_four   -- for this text's walks alone
set_option linter.unusedVariables false
set_option linter.unusedSimpArgs false

/-! ### laws_szOp: function 36 -/
def laws_szOp.f (a0_0 : Int) (a0_1 : Int) (a0_2 : ByteArray) (a1 : Int) : Option (Int) := if (wrap64 (a1 - (a0_2.size : Int))) < 0 then (some (-1)) else (some (wrap64 (a1 - (a0_2.size : Int))))
set_option maxHeartbeats 8000000 in
set_option maxRecDepth 100000 in
theorem laws_szOp.calls (a0_0 : Int) (a0_1 : Int) (a0_2 : ByteArray) (a1 : Int) (r : Int) (w : World) (h : laws_szOp.f a0_0 a0_1 a0_2 a1 = some r) :
  Calls Try.prog 36 #[.agg #[.int .i64 a0_0, .int .i64 a0_1, .string a0_2], .int .i64 a1] w fun e w' => e = .returned (.int .i64 r) ∧ Below w.heap.size w w' := by
 have hu57 := Try.underlying57
 have HB := am (Below.refl w.heap.size w)
 have H : (if (wrap64 (a1 - (a0_2.size : Int))) < 0 then (some (-1)) else (some (wrap64 (a1 - (a0_2.size : Int))))) = some r := h
 clear h
 by_cases c3 : (wrap64 (a1 - (a0_2.size : Int))) < 0
 ·rw [if_pos c3] at H
  have c3b0 : decide ((wrap64 (a1 - (a0_2.size : Int))) < 0) = true := decide_eq_true c3
  clear c3
  obtain rfl := Option.some.inj H
  go_enter Try.func36, Try.ntmps36
  go_wp2_with (first | ((with_reducible refine gate_dst (N := 2) rfl ?_); refine box_event ?hg (N := 2) ?hd (cs := #[.int .i64 a0_0, .int .i64 a0_1, .string a0_2]) (t := 57) ?hr ?_; (case hd => rfl); (case hg => rfl); (case hr => first | (go_simp; done) | (go_simp; rfl)); intro gb101 hg w4 hbox hb; have n0_ := am (below_step (by repeat (first | (with_reducible first | exact HB.out | apply bal | apply pdn | apply bd1) | exact HB.out)) hb); have n1_ := am (hbox); have n2_ := am ((by rw [hg]; exact (below_size (by repeat (first | (with_reducible first | exact HB.out | apply bal | apply pdn | apply bd1) | exact HB.out))) : w.heap.size ≤ gb101)); have n3_ := am ((by rw [hg]; exact (below_size (by repeat (first | (with_reducible first | exact HB.out | apply bal | apply pdn | apply bd1) | exact HB.out))) : w.heap.size ≤ gb101)); clear HB; have HB := n0_; have BK101 := n1_; have GW101 := n2_; have GE101 := n3_; clear n0_ n1_ n2_ n3_; clear hb hbox hg; have hcz5_0 : w4.cell? ⟨gb101, 0, none⟩ = some (.int .i64 a0_0) := (kce BK101.out 0).trans rfl; have hcz5_1 : w4.cell? ⟨gb101, 1, none⟩ = some (.int .i64 a0_1) := (kce BK101.out 1).trans rfl; have hcz5_2 : w4.cell? ⟨gb101, 2, none⟩ = some (.string a0_2) := (kce BK101.out 2).trans rfl; have hfz5_0 := kfr BK101.out 0; have hfz5_1 := kfr BK101.out 1; have hfz5_2 := kfr BK101.out 2))
  go_ret
  exact ⟨by first | rfl | (simp [errW_none, errW_some] <;> rfl) | (simp [*, errW_none, errW_some] <;> rfl), by repeat (first | (with_reducible first | exact HB.out | apply bal | apply pdn | apply bd1 | refine bst ?_ GE101.out) | exact HB.out)⟩
 ·rw [if_neg c3] at H
  have c3b0 : decide ((wrap64 (a1 - (a0_2.size : Int))) < 0) = false := decide_eq_false c3
  clear c3
  obtain rfl := Option.some.inj H
  go_enter Try.func36, Try.ntmps36
  go_wp2_with (first | ((with_reducible refine gate_dst (N := 2) rfl ?_); refine box_event ?hg (N := 2) ?hd (cs := #[.int .i64 a0_0, .int .i64 a0_1, .string a0_2]) (t := 57) ?hr ?_; (case hd => rfl); (case hg => rfl); (case hr => first | (go_simp; done) | (go_simp; rfl)); intro gb101 hg w6 hbox hb; have n0_ := am (below_step (by repeat (first | (with_reducible first | exact HB.out | apply bal | apply pdn | apply bd1) | exact HB.out)) hb); have n1_ := am (hbox); have n2_ := am ((by rw [hg]; exact (below_size (by repeat (first | (with_reducible first | exact HB.out | apply bal | apply pdn | apply bd1) | exact HB.out))) : w.heap.size ≤ gb101)); have n3_ := am ((by rw [hg]; exact (below_size (by repeat (first | (with_reducible first | exact HB.out | apply bal | apply pdn | apply bd1) | exact HB.out))) : w.heap.size ≤ gb101)); clear HB; have HB := n0_; have BK101 := n1_; have GW101 := n2_; have GE101 := n3_; clear n0_ n1_ n2_ n3_; clear hb hbox hg; have hcz7_0 : w6.cell? ⟨gb101, 0, none⟩ = some (.int .i64 a0_0) := (kce BK101.out 0).trans rfl; have hcz7_1 : w6.cell? ⟨gb101, 1, none⟩ = some (.int .i64 a0_1) := (kce BK101.out 1).trans rfl; have hcz7_2 : w6.cell? ⟨gb101, 2, none⟩ = some (.string a0_2) := (kce BK101.out 2).trans rfl; have hfz7_0 := kfr BK101.out 0; have hfz7_1 := kfr BK101.out 1; have hfz7_2 := kfr BK101.out 2))
  go_ret
  exact ⟨by first | rfl | (simp [errW_none, errW_some] <;> rfl) | (simp [*, errW_none, errW_some] <;> rfl), by repeat (first | (with_reducible first | exact HB.out | apply bal | apply pdn | apply bd1 | refine bst ?_ GE101.out) | exact HB.out)⟩

/-! ### laws_szOpS: function 45 -/
def laws_szOpS.l0 : Nat → List (S57) → Int → Int → Option (Int)
 | 0, _, _, _ => none
 | k + 1, x0, x1, x5 => if x5 < (x0.length : Int) then (if 0 ≤ x5 then ((laws_szOp.f ((rd_T57 x0 x5).f0) ((rd_T57 x0 x5).f1) ((rd_T57 x0 x5).f2) x1).bind fun t103 => (if t103 < 0 then (some (-1)) else (laws_szOpS.l0 k x0 t103 (wrap64 (x5 + 1))))) else (none)) else (some x1)
def laws_szOpS.f (k : Nat) (l0 : List (S57)) (a1 : Int) : Option (Int) := if (wrap64 (a1 - (l0.length : Int))) < 0 then (some (-1)) else (laws_szOpS.l0 k l0 (wrap64 (a1 - (l0.length : Int))) 0)
theorem laws_szOpS.mono_l : ∀ k, (∀ y0 y1 y2, LeO (laws_szOpS.l0 k y0 y1 y2) (laws_szOpS.l0 (k + 1) y0 y1 y2))
 | 0 => fun _ _ _ r h => by simp [laws_szOpS.l0] at h
 | k + 1 => by
  have ih0 := laws_szOpS.mono_l k
  ·intro y0 y1 y2
   unfold laws_szOpS.l0
   repeat' first
   | (with_reducible exact ih0 _ _ _)
   | (with_reducible exact LeO.refl _)
   | (with_reducible exact LeO.none _)
   | (with_reducible refine LeO.ite ?_ ?_)
   | (with_reducible refine LeO.bind ?_ (fun _ => ?_))
   | exact ih0 _ _ _
   | exact LeO.none _
   | refine LeO.ite ?_ ?_
   | refine LeO.bind ?_ (fun _ => ?_)
theorem laws_szOpS.mono : ∀ a0 a1 k, LeO (laws_szOpS.f k a0 a1) (laws_szOpS.f (k + 1) a0 a1) := by
 intro a0 a1 k
 have ih0 := laws_szOpS.mono_l k
 unfold laws_szOpS.f
 repeat' first
   | (with_reducible exact ih0 _ _ _)
   | (with_reducible exact LeO.refl _)
   | (with_reducible exact LeO.none _)
   | (with_reducible refine LeO.ite ?_ ?_)
   | (with_reducible refine LeO.bind ?_ (fun _ => ?_))
   | exact ih0 _ _ _
   | exact LeO.none _
   | refine LeO.ite ?_ ?_
   | refine LeO.bind ?_ (fun _ => ?_)
set_option maxHeartbeats 8000000 in
set_option maxRecDepth 100000 in
theorem laws_szOpS.calls (k : Nat) (A0 : Option Addr) (c0 : Nat) (l0 : List (S57)) (a1 : Int) (r : Int) (w : World) (hr0 : Kd.C k57 w A0 l0.length l0) (hc0 : l0.length ≤ c0) (h : laws_szOpS.f k l0 a1 = some r) :
  Calls Try.prog 45 #[.slice A0 l0.length c0, .int .i64 a1] w fun e w' => e = .returned (.int .i64 r) ∧ Below w.heap.size w w' := by
 have hu57 := Try.underlying57
 have HR0 := am hr0
 have HC0 := am hc0
 clear hr0 hc0
 have HB := am (Below.refl w.heap.size w)
 have H : (if (wrap64 (a1 - (l0.length : Int))) < 0 then (some (-1)) else (laws_szOpS.l0 k l0 (wrap64 (a1 - (l0.length : Int))) 0)) = some r := h
 clear h
 by_cases c3 : (wrap64 (a1 - (l0.length : Int))) < 0
 ·rw [if_pos c3] at H
  have c3b0 : decide ((wrap64 (a1 - (l0.length : Int))) < 0) = true := decide_eq_true c3
  clear c3
  obtain rfl := Option.some.inj H
  go_enter Try.func45, Try.ntmps45
  go_wp2
  go_ret
  exact ⟨by first | rfl | (simp [errW_none, errW_some] <;> rfl) | (simp [*, errW_none, errW_some] <;> rfl), by repeat (first | (with_reducible first | exact HB.out | apply bal | apply pdn | apply bd1) | exact HB.out)⟩
 ·rw [if_neg c3] at H
  have c3b0 : decide ((wrap64 (a1 - (l0.length : Int))) < 0) = false := decide_eq_false c3
  clear c3
  have H' := am H
  clear H
  go_enter Try.func45, Try.ntmps45
  go_wp2
  go_loopg [1, 5] k (fun kq v1 v5 w' => ∃ (x1_1 : Int) (x5_1 : Int), v1 = .int .i64 x1_1 ∧ v5 = .int .i64 x5_1 ∧ Aside0 (laws_szOpS.l0 kq l0 x1_1 x5_1 = some r) ∧ Aside0 (kq ≤ k) ∧ Aside0 (Below w.heap.size w w'))
  case atStart => exact ⟨(wrap64 (a1 - (l0.length : Int))), (0), (by first | rfl | (simp; done) | (simp [*]; done)), (by first | rfl | (simp; done) | (simp [*]; done)), H', ⟨Nat.le_refl _⟩, ⟨by repeat (first | (with_reducible first | exact HB.out | apply bal | apply pdn | apply bd1) | exact HB.out)⟩⟩
  case round =>
   clear H'
   obtain ⟨x1_1, x5_1, rfl, rfl, HA, HK1, HB⟩ := hrel
   cases gk with
   | zero => exact absurd HA.out (by simp [laws_szOpS.l0])
   | succ k1 =>
    have H := HA.out
    clear HA
    simp only [laws_szOpS.l0] at H
    by_cases c4 : x5_1 < (l0.length : Int)
    ·rw [if_pos c4] at H
     have c4b0 : decide (x5_1 < (l0.length : Int)) = true := decide_eq_true c4
     clear c4
     by_cases c5 : 0 ≤ x5_1
     ·rw [if_pos c5] at H
      have c5b0 : decide (0 ≤ x5_1) = true := decide_eq_true c5
      clear c5
      replace H := Option.bind_eq_some_iff.mp H
      obtain ⟨t103, A60, H⟩ := H
      replace H : (if t103 < 0 then (some (-1)) else (laws_szOpS.l0 k1 l0 t103 (wrap64 (x5_1 + 1)))) = some r := H
      have A6 := am A60
      clear A60
      by_cases c7 : t103 < 0
      ·rw [if_pos c7] at H
       have c7b0 : decide (t103 < 0) = true := decide_eq_true c7
       clear c7
       obtain rfl := Option.some.inj H
       have p102 : 0 ≤ (x5_1 : Int) := of_decide_eq_true (by first | (with_reducible assumption) | assumption)
       have q102 : x5_1 < (l0.length : Int) := of_decide_eq_true (by first | (with_reducible assumption) | assumption)
       obtain ⟨ad102, e102, hx102_0, hx102_1, hx102_2⟩ := at_T57 HR0.out x5_1 p102 q102
       cases e102
       replace hx102_0 := (HB.out.cell (blc w _ hx102_0)).trans hx102_0
       replace hx102_1 := (HB.out.cell (blc w _ hx102_1)).trans hx102_1
       replace hx102_2 := (HB.out.cell (blc w _ hx102_2)).trans hx102_2
       replace p102 := eq_true p102
       replace q102 := eq_true q102
       go_wp2_with (first | ((with_reducible refine gate_callee (f := 36) rfl ?_); refine goesL_ (some 23) rfl rfl Try.func36 (by kernel_rfl) rfl #[.agg #[.int .i64 ((rd_T57 l0 x5_1).f0), .int .i64 ((rd_T57 l0 x5_1).f1), .string ((rd_T57 l0 x5_1).f2)], .int .i64 x1_1] rfl (by (try simp only [mta, mco, mni]); first | done | rfl | (simp only [lnd, lnt]; rfl)) ?_; (with_reducible refine (laws_szOp.calls ((rd_T57 l0 x5_1).f0) ((rd_T57 l0 x5_1).f1) ((rd_T57 l0 x5_1).f2) x1_1 t103 _ A6.out).mono ?_); rintro e w8 ⟨rfl, hb⟩; refine ⟨_, rfl, ?_⟩; have n0_ := am (below_step (by repeat (first | (with_reducible first | exact HB.out | apply bal | apply pdn | apply bd1) | exact HB.out)) hb); clear HB; have HB := n0_; clear n0_; (try clear hb); (try clear hb2); (try clear hk); (try clear hi)))
       go_ret
       exact ⟨by first | rfl | (simp [errW_none, errW_some] <;> rfl) | (simp [*, errW_none, errW_some] <;> rfl), by repeat (first | (with_reducible first | exact HB.out | apply bal | apply pdn | apply bd1) | exact HB.out)⟩
      ·rw [if_neg c7] at H
       have c7b0 : decide (t103 < 0) = false := decide_eq_false c7
       clear c7
       have H' := am H
       clear H
       have p102 : 0 ≤ (x5_1 : Int) := of_decide_eq_true (by first | (with_reducible assumption) | assumption)
       have q102 : x5_1 < (l0.length : Int) := of_decide_eq_true (by first | (with_reducible assumption) | assumption)
       obtain ⟨ad102, e102, hx102_0, hx102_1, hx102_2⟩ := at_T57 HR0.out x5_1 p102 q102
       cases e102
       replace hx102_0 := (HB.out.cell (blc w _ hx102_0)).trans hx102_0
       replace hx102_1 := (HB.out.cell (blc w _ hx102_1)).trans hx102_1
       replace hx102_2 := (HB.out.cell (blc w _ hx102_2)).trans hx102_2
       replace p102 := eq_true p102
       replace q102 := eq_true q102
       go_wp2_with (first | ((with_reducible refine gate_callee (f := 36) rfl ?_); refine goesL_ (some 23) rfl rfl Try.func36 (by kernel_rfl) rfl #[.agg #[.int .i64 ((rd_T57 l0 x5_1).f0), .int .i64 ((rd_T57 l0 x5_1).f1), .string ((rd_T57 l0 x5_1).f2)], .int .i64 x1_1] rfl (by (try simp only [mta, mco, mni]); first | done | rfl | (simp only [lnd, lnt]; rfl)) ?_; (with_reducible refine (laws_szOp.calls ((rd_T57 l0 x5_1).f0) ((rd_T57 l0 x5_1).f1) ((rd_T57 l0 x5_1).f2) x1_1 t103 _ A6.out).mono ?_); rintro e w9 ⟨rfl, hb⟩; refine ⟨_, rfl, ?_⟩; have n0_ := am (below_step (by repeat (first | (with_reducible first | exact HB.out | apply bal | apply pdn | apply bd1) | exact HB.out)) hb); clear HB; have HB := n0_; clear n0_; (try clear hb); (try clear hb2); (try clear hk); (try clear hi)))
       go_roundg k1
       case measure => have := HK1.out; omega
       case rel => exact ⟨(t103), (wrap64 (x5_1 + 1)), (by first | rfl | (simp; done) | (simp [*]; done)), (by first | rfl | (simp; done) | (simp [*]; done)), H', ⟨by have := HK1.out; omega⟩, ⟨by repeat (first | (with_reducible first | exact HB.out | apply bal | apply pdn | apply bd1) | exact HB.out)⟩⟩
     ·rw [if_neg c5] at H
      exact absurd H (by simp)
    ·rw [if_neg c4] at H
     have c4b0 : decide (x5_1 < (l0.length : Int)) = false := decide_eq_false c4
     clear c4
     obtain rfl := Option.some.inj H
     go_wp2
     go_ret
     exact ⟨by first | rfl | (simp [errW_none, errW_some] <;> rfl) | (simp [*, errW_none, errW_some] <;> rfl), by repeat (first | (with_reducible first | exact HB.out | apply bal | apply pdn | apply bd1) | exact HB.out)⟩

/-! ### spec_l00In: function 57 -/
def spec_l00In.f (a0 : Int) (a1 : Int) (a2 : Int) : Option (Bool) := if a0 ≥ a1 then (some (decide (a0 ≤ a2))) else (some false)
set_option maxHeartbeats 8000000 in
set_option maxRecDepth 100000 in
theorem spec_l00In.calls (a0 : Int) (a1 : Int) (a2 : Int) (r : Bool) (w : World) (h : spec_l00In.f a0 a1 a2 = some r) :
  Calls Try.prog 57 #[.int .i64 a0, .int .i64 a1, .int .i64 a2] w fun e w' => e = .returned (.bool r) ∧ Drawn0 w w' := by
 have H : (if a0 ≥ a1 then (some (decide (a0 ≤ a2))) else (some false)) = some r := h
 clear h
 by_cases c4 : a0 ≥ a1
 ·rw [if_pos c4] at H
  have c4b0 : decide (a1 ≤ a0) = true := decide_eq_true c4
  clear c4
  obtain rfl := Option.some.inj H
  go_enter Try.func57, Try.ntmps57
  go_wp2
  go_ret
  exact ⟨by first | rfl | (simp; done) | (simp [*]; done), by repeat (first | exact Drawn0.refl _ | apply Drawn0.step)⟩
 ·rw [if_neg c4] at H
  have c4b0 : decide (a1 ≤ a0) = false := decide_eq_false c4
  clear c4
  obtain rfl := Option.some.inj H
  go_enter Try.func57, Try.ntmps57
  go_wp2
  go_ret
  exact ⟨by first | rfl | (simp; done) | (simp [*]; done), by repeat (first | exact Drawn0.refl _ | apply Drawn0.step)⟩

/-! ### spec_l04Code: function 126 -/
def spec_l04Code.f (a0_0 : Int) (a0_1 : Int) : Option (Bool) := (spec_l00In.f a0_0 1 4).bind fun t105 => (if t105 = true then ((spec_l00In.f a0_1 0 3).bind fun t106 => (some t106)) else (some false))
set_option maxHeartbeats 8000000 in
set_option maxRecDepth 100000 in
theorem spec_l04Code.calls (a0_0 : Int) (a0_1 : Int) (r : Bool) (w : World) (h : spec_l04Code.f a0_0 a0_1 = some r) :
  Calls Try.prog 126 #[.agg #[.int .i64 a0_0, .int .i64 a0_1]] w fun e w' => e = .returned (.bool r) ∧ Below w.heap.size w w' := by
 have hu84 := Try.underlying84
 have HB := am (Below.refl w.heap.size w)
 have H : ((spec_l00In.f a0_0 1 4).bind fun t105 => (if t105 = true then ((spec_l00In.f a0_1 0 3).bind fun t106 => (some t106)) else (some false))) = some r := h
 clear h
 replace H := Option.bind_eq_some_iff.mp H
 obtain ⟨t105, A20, H⟩ := H
 replace H : (if t105 = true then ((spec_l00In.f a0_1 0 3).bind fun t106 => (some t106)) else (some false)) = some r := H
 have A2 := am A20
 clear A20
 by_cases c3 : t105 = true
 ·subst c3
  have H1 : ((spec_l00In.f a0_1 0 3).bind fun t106 => (some t106)) = some r := by rw [if_pos rfl] at H; exact H
  clear H
  have H := H1
  clear H1
  replace H := Option.bind_eq_some_iff.mp H
  obtain ⟨t106, A40, H⟩ := H
  replace H : (some t106) = some r := H
  have A4 := am A40
  clear A40
  obtain rfl := Option.some.inj H
  go_enter Try.func126, Try.ntmps126
  go_wp2_with (first | ((with_reducible refine gate_dst (N := 1) rfl ?_); refine box_event ?hg (N := 1) ?hd (cs := #[.int .i64 a0_0, .int .i64 a0_1]) (t := 84) ?hr ?_; (case hd => rfl); (case hg => rfl); (case hr => first | (go_simp; done) | (go_simp; rfl)); intro gb104 hg w5 hbox hb; have n0_ := am (below_step (by repeat (first | (with_reducible first | exact HB.out | apply bal | apply pdn | apply bd1) | exact HB.out)) hb); have n1_ := am (hbox); have n2_ := am ((by rw [hg]; exact (below_size (by repeat (first | (with_reducible first | exact HB.out | apply bal | apply pdn | apply bd1) | exact HB.out))) : w.heap.size ≤ gb104)); have n3_ := am ((by rw [hg]; exact (below_size (by repeat (first | (with_reducible first | exact HB.out | apply bal | apply pdn | apply bd1) | exact HB.out))) : w.heap.size ≤ gb104)); clear HB; have HB := n0_; have BK104 := n1_; have GW104 := n2_; have GE104 := n3_; clear n0_ n1_ n2_ n3_; clear hb hbox hg; have hcz6_0 : w5.cell? ⟨gb104, 0, none⟩ = some (.int .i64 a0_0) := (kce BK104.out 0).trans rfl; have hcz6_1 : w5.cell? ⟨gb104, 1, none⟩ = some (.int .i64 a0_1) := (kce BK104.out 1).trans rfl; have hfz6_0 := kfr BK104.out 0; have hfz6_1 := kfr BK104.out 1) | ((with_reducible refine gate_callee (f := 57) rfl ?_); refine goesL_ (some 5) rfl rfl Try.func57 (by kernel_rfl) rfl #[.int .i64 a0_0, .int .i64 1, .int .i64 4] rfl (by (try simp only [mta, mco, mni]); first | done | rfl | (simp only [lnd, lnt]; rfl)) ?_; (with_reducible refine (spec_l00In.calls a0_0 1 4 true _ A2.out).mono ?_); rintro e w' ⟨rfl, ⟨nd, rfl⟩⟩; refine ⟨_, rfl, ?_⟩) | (go_at_call 57; (with_reducible refine (spec_l00In.calls a0_1 0 3 t106 _ A4.out).mono ?_); rintro e w' ⟨rfl, ⟨nd, rfl⟩⟩))
  go_ret
  exact ⟨by first | rfl | (simp [errW_none, errW_some] <;> rfl) | (simp [*, errW_none, errW_some] <;> rfl), by repeat (first | (with_reducible first | exact HB.out | apply bal | apply pdn | apply bd1 | refine bst ?_ GE104.out) | exact HB.out)⟩
 ·replace c3 := Bool.eq_false_iff.mpr c3
  subst c3
  have H1 : (some false) = some r := by rw [if_neg (show ¬ (false = true) by decide)] at H; exact H
  clear H
  have H := H1
  clear H1
  obtain rfl := Option.some.inj H
  go_enter Try.func126, Try.ntmps126
  go_wp2_with (first | ((with_reducible refine gate_dst (N := 1) rfl ?_); refine box_event ?hg (N := 1) ?hd (cs := #[.int .i64 a0_0, .int .i64 a0_1]) (t := 84) ?hr ?_; (case hd => rfl); (case hg => rfl); (case hr => first | (go_simp; done) | (go_simp; rfl)); intro gb104 hg w7 hbox hb; have n0_ := am (below_step (by repeat (first | (with_reducible first | exact HB.out | apply bal | apply pdn | apply bd1) | exact HB.out)) hb); have n1_ := am (hbox); have n2_ := am ((by rw [hg]; exact (below_size (by repeat (first | (with_reducible first | exact HB.out | apply bal | apply pdn | apply bd1) | exact HB.out))) : w.heap.size ≤ gb104)); have n3_ := am ((by rw [hg]; exact (below_size (by repeat (first | (with_reducible first | exact HB.out | apply bal | apply pdn | apply bd1) | exact HB.out))) : w.heap.size ≤ gb104)); clear HB; have HB := n0_; have BK104 := n1_; have GW104 := n2_; have GE104 := n3_; clear n0_ n1_ n2_ n3_; clear hb hbox hg; have hcz8_0 : w7.cell? ⟨gb104, 0, none⟩ = some (.int .i64 a0_0) := (kce BK104.out 0).trans rfl; have hcz8_1 : w7.cell? ⟨gb104, 1, none⟩ = some (.int .i64 a0_1) := (kce BK104.out 1).trans rfl; have hfz8_0 := kfr BK104.out 0; have hfz8_1 := kfr BK104.out 1) | ((with_reducible refine gate_callee (f := 57) rfl ?_); refine goesL_ (some 5) rfl rfl Try.func57 (by kernel_rfl) rfl #[.int .i64 a0_0, .int .i64 1, .int .i64 4] rfl (by (try simp only [mta, mco, mni]); first | done | rfl | (simp only [lnd, lnt]; rfl)) ?_; (with_reducible refine (spec_l00In.calls a0_0 1 4 false _ A2.out).mono ?_); rintro e w' ⟨rfl, ⟨nd, rfl⟩⟩; refine ⟨_, rfl, ?_⟩))
  go_ret
  exact ⟨by first | rfl | (simp [errW_none, errW_some] <;> rfl) | (simp [*, errW_none, errW_some] <;> rfl), by repeat (first | (with_reducible first | exact HB.out | apply bal | apply pdn | apply bd1 | refine bst ?_ GE104.out) | exact HB.out)⟩

/-! ### spec_CodeOk: function 101 -/
def spec_CodeOk.f (a0_0 : Int) (a0_1 : Int) : Option (Bool) := (spec_l04Code.f a0_0 a0_1).bind fun t108 => (some t108)
set_option maxHeartbeats 8000000 in
set_option maxRecDepth 100000 in
theorem spec_CodeOk.calls (a0_0 : Int) (a0_1 : Int) (r : Bool) (w : World) (h : spec_CodeOk.f a0_0 a0_1 = some r) :
  Calls Try.prog 101 #[.agg #[.int .i64 a0_0, .int .i64 a0_1]] w fun e w' => e = .returned (.bool r) ∧ Below w.heap.size w w' := by
 have hu84 := Try.underlying84
 have HB := am (Below.refl w.heap.size w)
 have H : ((spec_l04Code.f a0_0 a0_1).bind fun t108 => (some t108)) = some r := h
 clear h
 replace H := Option.bind_eq_some_iff.mp H
 obtain ⟨t108, A20, H⟩ := H
 replace H : (some t108) = some r := H
 have A2 := am A20
 clear A20
 obtain rfl := Option.some.inj H
 go_enter Try.func101, Try.ntmps101
 go_wp2_with (first | ((with_reducible refine gate_dst (N := 1) rfl ?_); refine box_event ?hg (N := 1) ?hd (cs := #[.int .i64 a0_0, .int .i64 a0_1]) (t := 84) ?hr ?_; (case hd => rfl); (case hg => rfl); (case hr => first | (go_simp; done) | (go_simp; rfl)); intro gb107 hg w3 hbox hb; have n0_ := am (below_step (by repeat (first | (with_reducible first | exact HB.out | apply bal | apply pdn | apply bd1) | exact HB.out)) hb); have n1_ := am (hbox); have n2_ := am ((by rw [hg]; exact (below_size (by repeat (first | (with_reducible first | exact HB.out | apply bal | apply pdn | apply bd1) | exact HB.out))) : w.heap.size ≤ gb107)); have n3_ := am ((by rw [hg]; exact (below_size (by repeat (first | (with_reducible first | exact HB.out | apply bal | apply pdn | apply bd1) | exact HB.out))) : w.heap.size ≤ gb107)); clear HB; have HB := n0_; have BK107 := n1_; have GW107 := n2_; have GE107 := n3_; clear n0_ n1_ n2_ n3_; clear hb hbox hg; have hcz4_0 : w3.cell? ⟨gb107, 0, none⟩ = some (.int .i64 a0_0) := (kce BK107.out 0).trans rfl; have hcz4_1 : w3.cell? ⟨gb107, 1, none⟩ = some (.int .i64 a0_1) := (kce BK107.out 1).trans rfl; have hfz4_0 := kfr BK107.out 0; have hfz4_1 := kfr BK107.out 1) | ((with_reducible refine gate_callee (f := 126) rfl ?_); refine goesL_ (some 4) rfl rfl Try.func126 (by kernel_rfl) rfl #[.agg #[.int .i64 a0_0, .int .i64 a0_1]] rfl (by (try simp only [mta, mco, mni]); first | done | rfl | (simp only [lnd, lnt]; rfl)) ?_; (with_reducible refine (spec_l04Code.calls a0_0 a0_1 t108 _ A2.out).mono ?_); rintro e w5 ⟨rfl, hb⟩; refine ⟨_, rfl, ?_⟩; have n0_ := am (kbb (g := gb107) (o := .cells #[.int .i64 a0_0, .int .i64 a0_1] 84 (0, 0)) (by (with_reducible repeat (first | apply kdn | apply kdr | apply kal)); exact BK107.out) hb); have n1_ := am (below_step (by repeat (first | (with_reducible first | exact HB.out | apply bal | apply pdn | apply bd1 | refine bst ?_ GE107.out) | exact HB.out)) hb); clear BK107; clear HB; have BK107 := n0_; have HB := n1_; clear n0_ n1_; (try clear hb); (try clear hb2); (try clear hk); (try clear hi)))
 go_ret
 exact ⟨by first | rfl | (simp [errW_none, errW_some] <;> rfl) | (simp [*, errW_none, errW_some] <;> rfl), by repeat (first | (with_reducible first | exact HB.out | apply bal | apply pdn | apply bd1 | refine bst ?_ GE107.out) | exact HB.out)⟩

/-! ### spec_OpOk: function 53 -/
def spec_OpOk.j0 : Nat → Bool → Bool → Int → Bool → Int → Int → Int → Int → ByteArray → Option (Bool)
 | 0, _, _, _, _, _, _, _, _, _ => none
 | k + 1, x5, x6, x18, x19, x110000, x110001, x111000, x111001, x111002 => if x19 = true then (if x111001 = 0 then (some (x111002.toList == ([] : List UInt8))) else (some false)) else (if x18 = 2 then (if x111001 = 0 then (some x5) else (some false)) else (if x18 = 3 then (if x110000 = 1 then (if x6 = true then (some x5) else (some false)) else (some false)) else (if x18 = 4 then (if x110000 = 1 then (if x111001 = 0 then (some x5) else (some false)) else (some false)) else (if x18 = 5 then (if x110000 = 1 then (if x6 = true then (some (x111002.toList == ([] : List UInt8))) else (some false)) else (some false)) else (some false)))))
def spec_OpOk.f (k : Nat) (a0_0 : Int) (a0_1 : Int) (a1_0 : Int) (a1_1 : Int) (a1_2 : ByteArray) : Option (Bool) := (spec_CodeOk.f a0_0 a0_1).bind fun t111 => (if t111 = true then ((spec_l00In.f a1_1 0 64).bind fun t112 => (if a1_0 = 1 then (spec_OpOk.j0 k (decide ((a1_2.size : Int) ≤ 64)) t112 a1_0 (a1_0 == 1) a0_0 a0_1 a1_0 a1_1 a1_2) else (spec_OpOk.j0 k (decide ((a1_2.size : Int) ≤ 64)) t112 a1_0 (a1_0 == 6) a0_0 a0_1 a1_0 a1_1 a1_2))) else (some false))
theorem spec_OpOk.mono_l : ∀ k, (∀ y0 y1 y2 y3 y4 y5 y6 y7 y8, LeO (spec_OpOk.j0 k y0 y1 y2 y3 y4 y5 y6 y7 y8) (spec_OpOk.j0 (k + 1) y0 y1 y2 y3 y4 y5 y6 y7 y8))
 | 0 => fun _ _ _ _ _ _ _ _ _ r h => by simp [spec_OpOk.j0] at h
 | k + 1 => by
  have ih0 := spec_OpOk.mono_l k
  ·intro y0 y1 y2 y3 y4 y5 y6 y7 y8
   unfold spec_OpOk.j0
   repeat' first
   | (with_reducible exact ih0 _ _ _ _ _ _ _ _ _)
   | (with_reducible exact LeO.refl _)
   | (with_reducible exact LeO.none _)
   | (with_reducible refine LeO.ite ?_ ?_)
   | (with_reducible refine LeO.bind ?_ (fun _ => ?_))
   | exact ih0 _ _ _ _ _ _ _ _ _
   | exact LeO.none _
   | refine LeO.ite ?_ ?_
   | refine LeO.bind ?_ (fun _ => ?_)
theorem spec_OpOk.mono : ∀ a0 a1 a2 a3 a4 k, LeO (spec_OpOk.f k a0 a1 a2 a3 a4) (spec_OpOk.f (k + 1) a0 a1 a2 a3 a4) := by
 intro a0 a1 a2 a3 a4 k
 have ih0 := spec_OpOk.mono_l k
 unfold spec_OpOk.f
 repeat' first
   | (with_reducible exact ih0 _ _ _ _ _ _ _ _ _)
   | (with_reducible exact LeO.refl _)
   | (with_reducible exact LeO.none _)
   | (with_reducible refine LeO.ite ?_ ?_)
   | (with_reducible refine LeO.bind ?_ (fun _ => ?_))
   | exact ih0 _ _ _ _ _ _ _ _ _
   | exact LeO.none _
   | refine LeO.ite ?_ ?_
   | refine LeO.bind ?_ (fun _ => ?_)
set_option maxHeartbeats 8000000 in
set_option maxRecDepth 100000 in
theorem spec_OpOk.calls (k : Nat) (a0_0 : Int) (a0_1 : Int) (a1_0 : Int) (a1_1 : Int) (a1_2 : ByteArray) (r : Bool) (w : World) (h : spec_OpOk.f k a0_0 a0_1 a1_0 a1_1 a1_2 = some r) :
  Calls Try.prog 53 #[.agg #[.int .i64 a0_0, .int .i64 a0_1], .agg #[.int .i64 a1_0, .int .i64 a1_1, .string a1_2]] w fun e w' => e = .returned (.bool r) ∧ Below w.heap.size w w' := by
 have hu84 := Try.underlying84
 have hu60 := Try.underlying60
 have HB := am (Below.refl w.heap.size w)
 have H : ((spec_CodeOk.f a0_0 a0_1).bind fun t111 => (if t111 = true then ((spec_l00In.f a1_1 0 64).bind fun t112 => (if a1_0 = 1 then (spec_OpOk.j0 k (decide ((a1_2.size : Int) ≤ 64)) t112 a1_0 (a1_0 == 1) a0_0 a0_1 a1_0 a1_1 a1_2) else (spec_OpOk.j0 k (decide ((a1_2.size : Int) ≤ 64)) t112 a1_0 (a1_0 == 6) a0_0 a0_1 a1_0 a1_1 a1_2))) else (some false))) = some r := h
 clear h
 replace H := Option.bind_eq_some_iff.mp H
 obtain ⟨t111, A30, H⟩ := H
 replace H : (if t111 = true then ((spec_l00In.f a1_1 0 64).bind fun t112 => (if a1_0 = 1 then (spec_OpOk.j0 k (decide ((a1_2.size : Int) ≤ 64)) t112 a1_0 (a1_0 == 1) a0_0 a0_1 a1_0 a1_1 a1_2) else (spec_OpOk.j0 k (decide ((a1_2.size : Int) ≤ 64)) t112 a1_0 (a1_0 == 6) a0_0 a0_1 a1_0 a1_1 a1_2))) else (some false)) = some r := H
 have A3 := am A30
 clear A30
 by_cases c4 : t111 = true
 ·subst c4
  have H1 : ((spec_l00In.f a1_1 0 64).bind fun t112 => (if a1_0 = 1 then (spec_OpOk.j0 k (decide ((a1_2.size : Int) ≤ 64)) t112 a1_0 (a1_0 == 1) a0_0 a0_1 a1_0 a1_1 a1_2) else (spec_OpOk.j0 k (decide ((a1_2.size : Int) ≤ 64)) t112 a1_0 (a1_0 == 6) a0_0 a0_1 a1_0 a1_1 a1_2))) = some r := by rw [if_pos rfl] at H; exact H
  clear H
  have H := H1
  clear H1
  replace H := Option.bind_eq_some_iff.mp H
  obtain ⟨t112, A50, H⟩ := H
  replace H : (if a1_0 = 1 then (spec_OpOk.j0 k (decide ((a1_2.size : Int) ≤ 64)) t112 a1_0 (a1_0 == 1) a0_0 a0_1 a1_0 a1_1 a1_2) else (spec_OpOk.j0 k (decide ((a1_2.size : Int) ≤ 64)) t112 a1_0 (a1_0 == 6) a0_0 a0_1 a1_0 a1_1 a1_2)) = some r := H
  have A5 := am A50
  clear A50
  have HC6 := am H
  clear H
  go_enter Try.func53, Try.ntmps53
  go_upto_if 19 with (first | ((with_reducible refine gate_dst (N := 2) rfl ?_); refine box_event ?hg (N := 2) ?hd (cs := #[.int .i64 a0_0, .int .i64 a0_1]) (t := 84) ?hr ?_; (case hd => rfl); (case hg => rfl); (case hr => first | (go_simp; done) | (go_simp; rfl)); intro gb109 hg w7 hbox hb; have n0_ := am (below_step (by repeat (first | (with_reducible first | exact HB.out | apply bal | apply pdn | apply bd1) | exact HB.out)) hb); have n1_ := am (hbox); have n2_ := am ((by rw [hg]; exact (below_size (by repeat (first | (with_reducible first | exact HB.out | apply bal | apply pdn | apply bd1) | exact HB.out))) : w.heap.size ≤ gb109)); have n3_ := am ((by rw [hg]; exact (below_size (by repeat (first | (with_reducible first | exact HB.out | apply bal | apply pdn | apply bd1) | exact HB.out))) : w.heap.size ≤ gb109)); clear HB; have HB := n0_; have BK109 := n1_; have GW109 := n2_; have GE109 := n3_; clear n0_ n1_ n2_ n3_; clear hb hbox hg) | ((with_reducible refine gate_dst (N := 3) rfl ?_); refine box_event ?hg (N := 3) ?hd (cs := #[.int .i64 a1_0, .int .i64 a1_1, .string a1_2]) (t := 60) ?hr ?_; (case hd => rfl); (case hg => rfl); (case hr => first | (go_simp; done) | (go_simp; rfl)); intro gb110 hg w8 hbox hb; have n0_ := am (kbb (g := gb109) (o := .cells #[.int .i64 a0_0, .int .i64 a0_1] 84 (0, 0)) (by (with_reducible repeat (first | apply kdn | apply kdr | apply kal)); exact BK109.out) hb); have n1_ := am (below_step (by repeat (first | (with_reducible first | exact HB.out | apply bal | apply pdn | apply bd1 | refine bst ?_ GE109.out) | exact HB.out)) hb); have n2_ := am (hbox); have n3_ := am ((by rw [hg]; exact (below_size (by repeat (first | (with_reducible first | exact HB.out | apply bal | apply pdn | apply bd1 | refine bst ?_ GE109.out) | exact HB.out))) : w.heap.size ≤ gb110)); have n4_ := am ((by rw [hg]; exact (below_size (by repeat (first | (with_reducible first | exact HB.out | apply bal | apply pdn | apply bd1 | refine bst ?_ GE109.out) | exact HB.out))) : w.heap.size ≤ gb110)); have n5_ := am ((by rw [hg]; exact Nat.ne_of_lt (blk_lt (g := gb109) (o := .cells #[.int .i64 a0_0, .int .i64 a0_1] 84 (0, 0)) (by (with_reducible repeat (first | apply kdn | apply kdr | apply kal)); exact BK109.out)) : gb109 ≠ gb110)); have n6_ := am ((by rw [hg]; exact Nat.ne_of_gt (blk_lt (g := gb109) (o := .cells #[.int .i64 a0_0, .int .i64 a0_1] 84 (0, 0)) (by (with_reducible repeat (first | apply kdn | apply kdr | apply kal)); exact BK109.out)) : gb110 ≠ gb109)); clear BK109; clear HB; have BK109 := n0_; have HB := n1_; have BK110 := n2_; have GW110 := n3_; have GE110 := n4_; have NB109_110 := n5_; have NB110_109 := n6_; clear n0_ n1_ n2_ n3_ n4_ n5_ n6_; clear hb hbox hg; have hnb9 := NB109_110.out; have hnc9 := NB110_109.out; have hcz10_0 : w8.cell? ⟨gb109, 0, none⟩ = some (.int .i64 a0_0) := (kce BK109.out 0).trans rfl; have hcz10_1 : w8.cell? ⟨gb109, 1, none⟩ = some (.int .i64 a0_1) := (kce BK109.out 1).trans rfl; have hfz10_0 := kfr BK109.out 0; have hfz10_1 := kfr BK109.out 1) | (go_at_call 101; (with_reducible refine (spec_CodeOk.calls a0_0 a0_1 true _ A3.out).mono ?_); rintro e w11 ⟨rfl, hb⟩; have n0_ := am (kbb (g := gb109) (o := .cells #[.int .i64 a0_0, .int .i64 a0_1] 84 (0, 0)) (by (with_reducible repeat (first | apply kdn | apply kdr | apply kal)); exact BK109.out) hb); have n1_ := am (kbb (g := gb110) (o := .cells #[.int .i64 a1_0, .int .i64 a1_1, .string a1_2] 60 (0, 0)) (by (with_reducible repeat (first | apply kdn | apply kdr | apply kal)); exact BK110.out) hb); have n2_ := am (below_step (by repeat (first | (with_reducible first | exact HB.out | apply bal | apply pdn | apply bd1 | refine bst ?_ GE109.out | refine bst ?_ GE110.out) | exact HB.out)) hb); clear BK109; clear BK110; clear HB; have BK109 := n0_; have BK110 := n1_; have HB := n2_; clear n0_ n1_ n2_; (try clear hb); (try clear hb2); (try clear hk); (try clear hi); have hcz12_0 : w11.cell? ⟨gb110, 0, none⟩ = some (.int .i64 a1_0) := (kce BK110.out 0).trans rfl; have hcz12_1 : w11.cell? ⟨gb110, 1, none⟩ = some (.int .i64 a1_1) := (kce BK110.out 1).trans rfl; have hcz12_2 : w11.cell? ⟨gb110, 2, none⟩ = some (.string a1_2) := (kce BK110.out 2).trans rfl; have hfz12_0 := kfr BK110.out 0; have hfz12_1 := kfr BK110.out 1; have hfz12_2 := kfr BK110.out 2) | (go_at_call 57; (with_reducible refine (spec_l00In.calls a1_1 0 64 t112 _ A5.out).mono ?_); rintro e w' ⟨rfl, ⟨nd, rfl⟩⟩; (try first | exact ⟨rfl, _, World.drewN_drewN _ _ _⟩ | exact ⟨rfl, _, Eq.trans (World.drewN_drewN _ _ _) (congrArg (World.drewN _) (Nat.add_assoc _ _ _))⟩)))
  repeat (go_quiet (first | ((with_reducible refine gate_dst (N := 2) rfl ?_); refine box_event ?hg (N := 2) ?hd (cs := #[.int .i64 a0_0, .int .i64 a0_1]) (t := 84) ?hr ?_; (case hd => rfl); (case hg => rfl); (case hr => first | (go_simp; done) | (go_simp; rfl)); intro gb109 hg w7 hbox hb; have n0_ := am (below_step (by repeat (first | (with_reducible first | exact HB.out | apply bal | apply pdn | apply bd1) | exact HB.out)) hb); have n1_ := am (hbox); have n2_ := am ((by rw [hg]; exact (below_size (by repeat (first | (with_reducible first | exact HB.out | apply bal | apply pdn | apply bd1) | exact HB.out))) : w.heap.size ≤ gb109)); have n3_ := am ((by rw [hg]; exact (below_size (by repeat (first | (with_reducible first | exact HB.out | apply bal | apply pdn | apply bd1) | exact HB.out))) : w.heap.size ≤ gb109)); clear HB; have HB := n0_; have BK109 := n1_; have GW109 := n2_; have GE109 := n3_; clear n0_ n1_ n2_ n3_; clear hb hbox hg) | ((with_reducible refine gate_dst (N := 3) rfl ?_); refine box_event ?hg (N := 3) ?hd (cs := #[.int .i64 a1_0, .int .i64 a1_1, .string a1_2]) (t := 60) ?hr ?_; (case hd => rfl); (case hg => rfl); (case hr => first | (go_simp; done) | (go_simp; rfl)); intro gb110 hg w8 hbox hb; have n0_ := am (kbb (g := gb109) (o := .cells #[.int .i64 a0_0, .int .i64 a0_1] 84 (0, 0)) (by (with_reducible repeat (first | apply kdn | apply kdr | apply kal)); exact BK109.out) hb); have n1_ := am (below_step (by repeat (first | (with_reducible first | exact HB.out | apply bal | apply pdn | apply bd1 | refine bst ?_ GE109.out) | exact HB.out)) hb); have n2_ := am (hbox); have n3_ := am ((by rw [hg]; exact (below_size (by repeat (first | (with_reducible first | exact HB.out | apply bal | apply pdn | apply bd1 | refine bst ?_ GE109.out) | exact HB.out))) : w.heap.size ≤ gb110)); have n4_ := am ((by rw [hg]; exact (below_size (by repeat (first | (with_reducible first | exact HB.out | apply bal | apply pdn | apply bd1 | refine bst ?_ GE109.out) | exact HB.out))) : w.heap.size ≤ gb110)); have n5_ := am ((by rw [hg]; exact Nat.ne_of_lt (blk_lt (g := gb109) (o := .cells #[.int .i64 a0_0, .int .i64 a0_1] 84 (0, 0)) (by (with_reducible repeat (first | apply kdn | apply kdr | apply kal)); exact BK109.out)) : gb109 ≠ gb110)); have n6_ := am ((by rw [hg]; exact Nat.ne_of_gt (blk_lt (g := gb109) (o := .cells #[.int .i64 a0_0, .int .i64 a0_1] 84 (0, 0)) (by (with_reducible repeat (first | apply kdn | apply kdr | apply kal)); exact BK109.out)) : gb110 ≠ gb109)); clear BK109; clear HB; have BK109 := n0_; have HB := n1_; have BK110 := n2_; have GW110 := n3_; have GE110 := n4_; have NB109_110 := n5_; have NB110_109 := n6_; clear n0_ n1_ n2_ n3_ n4_ n5_ n6_; clear hb hbox hg; have hnb9 := NB109_110.out; have hnc9 := NB110_109.out; have hcz10_0 : w8.cell? ⟨gb109, 0, none⟩ = some (.int .i64 a0_0) := (kce BK109.out 0).trans rfl; have hcz10_1 : w8.cell? ⟨gb109, 1, none⟩ = some (.int .i64 a0_1) := (kce BK109.out 1).trans rfl; have hfz10_0 := kfr BK109.out 0; have hfz10_1 := kfr BK109.out 1) | (go_at_call 101; (with_reducible refine (spec_CodeOk.calls a0_0 a0_1 true _ A3.out).mono ?_); rintro e w11 ⟨rfl, hb⟩; have n0_ := am (kbb (g := gb109) (o := .cells #[.int .i64 a0_0, .int .i64 a0_1] 84 (0, 0)) (by (with_reducible repeat (first | apply kdn | apply kdr | apply kal)); exact BK109.out) hb); have n1_ := am (kbb (g := gb110) (o := .cells #[.int .i64 a1_0, .int .i64 a1_1, .string a1_2] 60 (0, 0)) (by (with_reducible repeat (first | apply kdn | apply kdr | apply kal)); exact BK110.out) hb); have n2_ := am (below_step (by repeat (first | (with_reducible first | exact HB.out | apply bal | apply pdn | apply bd1 | refine bst ?_ GE109.out | refine bst ?_ GE110.out) | exact HB.out)) hb); clear BK109; clear BK110; clear HB; have BK109 := n0_; have BK110 := n1_; have HB := n2_; clear n0_ n1_ n2_; (try clear hb); (try clear hb2); (try clear hk); (try clear hi); have hcz12_0 : w11.cell? ⟨gb110, 0, none⟩ = some (.int .i64 a1_0) := (kce BK110.out 0).trans rfl; have hcz12_1 : w11.cell? ⟨gb110, 1, none⟩ = some (.int .i64 a1_1) := (kce BK110.out 1).trans rfl; have hcz12_2 : w11.cell? ⟨gb110, 2, none⟩ = some (.string a1_2) := (kce BK110.out 2).trans rfl; have hfz12_0 := kfr BK110.out 0; have hfz12_1 := kfr BK110.out 1; have hfz12_2 := kfr BK110.out 2) | (go_at_call 57; (with_reducible refine (spec_l00In.calls a1_1 0 64 t112 _ A5.out).mono ?_); rintro e w' ⟨rfl, ⟨nd, rfl⟩⟩; (try first | exact ⟨rfl, _, World.drewN_drewN _ _ _⟩ | exact ⟨rfl, _, Eq.trans (World.drewN_drewN _ _ _) (congrArg (World.drewN _) (Nat.add_assoc _ _ _))⟩))); go_upto_if 19 with (first | ((with_reducible refine gate_dst (N := 2) rfl ?_); refine box_event ?hg (N := 2) ?hd (cs := #[.int .i64 a0_0, .int .i64 a0_1]) (t := 84) ?hr ?_; (case hd => rfl); (case hg => rfl); (case hr => first | (go_simp; done) | (go_simp; rfl)); intro gb109 hg w7 hbox hb; have n0_ := am (below_step (by repeat (first | (with_reducible first | exact HB.out | apply bal | apply pdn | apply bd1) | exact HB.out)) hb); have n1_ := am (hbox); have n2_ := am ((by rw [hg]; exact (below_size (by repeat (first | (with_reducible first | exact HB.out | apply bal | apply pdn | apply bd1) | exact HB.out))) : w.heap.size ≤ gb109)); have n3_ := am ((by rw [hg]; exact (below_size (by repeat (first | (with_reducible first | exact HB.out | apply bal | apply pdn | apply bd1) | exact HB.out))) : w.heap.size ≤ gb109)); clear HB; have HB := n0_; have BK109 := n1_; have GW109 := n2_; have GE109 := n3_; clear n0_ n1_ n2_ n3_; clear hb hbox hg) | ((with_reducible refine gate_dst (N := 3) rfl ?_); refine box_event ?hg (N := 3) ?hd (cs := #[.int .i64 a1_0, .int .i64 a1_1, .string a1_2]) (t := 60) ?hr ?_; (case hd => rfl); (case hg => rfl); (case hr => first | (go_simp; done) | (go_simp; rfl)); intro gb110 hg w8 hbox hb; have n0_ := am (kbb (g := gb109) (o := .cells #[.int .i64 a0_0, .int .i64 a0_1] 84 (0, 0)) (by (with_reducible repeat (first | apply kdn | apply kdr | apply kal)); exact BK109.out) hb); have n1_ := am (below_step (by repeat (first | (with_reducible first | exact HB.out | apply bal | apply pdn | apply bd1 | refine bst ?_ GE109.out) | exact HB.out)) hb); have n2_ := am (hbox); have n3_ := am ((by rw [hg]; exact (below_size (by repeat (first | (with_reducible first | exact HB.out | apply bal | apply pdn | apply bd1 | refine bst ?_ GE109.out) | exact HB.out))) : w.heap.size ≤ gb110)); have n4_ := am ((by rw [hg]; exact (below_size (by repeat (first | (with_reducible first | exact HB.out | apply bal | apply pdn | apply bd1 | refine bst ?_ GE109.out) | exact HB.out))) : w.heap.size ≤ gb110)); have n5_ := am ((by rw [hg]; exact Nat.ne_of_lt (blk_lt (g := gb109) (o := .cells #[.int .i64 a0_0, .int .i64 a0_1] 84 (0, 0)) (by (with_reducible repeat (first | apply kdn | apply kdr | apply kal)); exact BK109.out)) : gb109 ≠ gb110)); have n6_ := am ((by rw [hg]; exact Nat.ne_of_gt (blk_lt (g := gb109) (o := .cells #[.int .i64 a0_0, .int .i64 a0_1] 84 (0, 0)) (by (with_reducible repeat (first | apply kdn | apply kdr | apply kal)); exact BK109.out)) : gb110 ≠ gb109)); clear BK109; clear HB; have BK109 := n0_; have HB := n1_; have BK110 := n2_; have GW110 := n3_; have GE110 := n4_; have NB109_110 := n5_; have NB110_109 := n6_; clear n0_ n1_ n2_ n3_ n4_ n5_ n6_; clear hb hbox hg; have hnb9 := NB109_110.out; have hnc9 := NB110_109.out; have hcz10_0 : w8.cell? ⟨gb109, 0, none⟩ = some (.int .i64 a0_0) := (kce BK109.out 0).trans rfl; have hcz10_1 : w8.cell? ⟨gb109, 1, none⟩ = some (.int .i64 a0_1) := (kce BK109.out 1).trans rfl; have hfz10_0 := kfr BK109.out 0; have hfz10_1 := kfr BK109.out 1) | (go_at_call 101; (with_reducible refine (spec_CodeOk.calls a0_0 a0_1 true _ A3.out).mono ?_); rintro e w11 ⟨rfl, hb⟩; have n0_ := am (kbb (g := gb109) (o := .cells #[.int .i64 a0_0, .int .i64 a0_1] 84 (0, 0)) (by (with_reducible repeat (first | apply kdn | apply kdr | apply kal)); exact BK109.out) hb); have n1_ := am (kbb (g := gb110) (o := .cells #[.int .i64 a1_0, .int .i64 a1_1, .string a1_2] 60 (0, 0)) (by (with_reducible repeat (first | apply kdn | apply kdr | apply kal)); exact BK110.out) hb); have n2_ := am (below_step (by repeat (first | (with_reducible first | exact HB.out | apply bal | apply pdn | apply bd1 | refine bst ?_ GE109.out | refine bst ?_ GE110.out) | exact HB.out)) hb); clear BK109; clear BK110; clear HB; have BK109 := n0_; have BK110 := n1_; have HB := n2_; clear n0_ n1_ n2_; (try clear hb); (try clear hb2); (try clear hk); (try clear hi); have hcz12_0 : w11.cell? ⟨gb110, 0, none⟩ = some (.int .i64 a1_0) := (kce BK110.out 0).trans rfl; have hcz12_1 : w11.cell? ⟨gb110, 1, none⟩ = some (.int .i64 a1_1) := (kce BK110.out 1).trans rfl; have hcz12_2 : w11.cell? ⟨gb110, 2, none⟩ = some (.string a1_2) := (kce BK110.out 2).trans rfl; have hfz12_0 := kfr BK110.out 0; have hfz12_1 := kfr BK110.out 1; have hfz12_2 := kfr BK110.out 2) | (go_at_call 57; (with_reducible refine (spec_l00In.calls a1_1 0 64 t112 _ A5.out).mono ?_); rintro e w' ⟨rfl, ⟨nd, rfl⟩⟩; (try first | exact ⟨rfl, _, World.drewN_drewN _ _ _⟩ | exact ⟨rfl, _, Eq.trans (World.drewN_drewN _ _ _) (congrArg (World.drewN _) (Nat.add_assoc _ _ _))⟩))))
  (try simp only [Act.put, sit, scz, scs])
  go_cut [19] (fun v19 wc => ∃ (kq : Nat) (x19_5 : Bool), v19 = .bool x19_5 ∧ Aside0 (spec_OpOk.j0 kq (decide ((a1_2.size : Int) ≤ 64)) t112 a1_0 x19_5 a0_0 a0_1 a1_0 a1_1 a1_2 = some r) ∧ Aside0 (kq ≤ k) ∧ Aside0 (wc.heap[gb109]? = some (.cells #[.int .i64 a0_0, .int .i64 a0_1] 84 (0, 0))) ∧ Aside0 (wc.heap[gb110]? = some (.cells #[.int .i64 a1_0, .int .i64 a1_1, .string a1_2] 60 (0, 0))) ∧ Aside0 (Below w.heap.size w wc))
  case first =>
   have H := HC6.out
   clear HC6
   by_cases c13 : a1_0 = 1
   ·rw [if_pos c13] at H
    have c13b0 : (a1_0 == 1) = true := beq_iff_eq.mpr c13
    have c13b1 : (a1_0 != 1) = false := bne_eq_false_iff_eq.mpr c13
    clear c13
    (first | rw [c13b0] | (simp only [i64_w, i32_w]; rw [c13b0]) | skip)
    have H' := am H
    clear H
    go_wp2
    repeat (go_quiet (fail); try go_wp2)
    go_meet
    case rel => exact ⟨_, ((a1_0 == 1)), (by first | rfl | (simp; done) | (simp [*]; done)), H', ⟨by first | omega | exact Nat.le_refl _⟩, ⟨by (with_reducible repeat (first | apply kdn | apply kdr | apply kal)); exact BK109.out⟩, ⟨by (with_reducible repeat (first | apply kdn | apply kdr | apply kal)); exact BK110.out⟩, ⟨by repeat (first | (with_reducible first | exact HB.out | apply bal | apply pdn | apply bd1 | refine bst ?_ GE109.out | refine bst ?_ GE110.out) | exact HB.out)⟩⟩
   ·rw [if_neg c13] at H
    have c13b0 : (a1_0 == 1) = false := beq_eq_false_iff_ne.mpr c13
    have c13b1 : (a1_0 != 1) = true := bne_iff_ne.mpr c13
    (first | rw [c13b0] | (simp only [i64_w, i32_w]; rw [c13b0]) | skip)
    have H' := am H
    clear H
    go_wp2
    repeat (go_quiet (fail); try go_wp2)
    go_meet
    case rel => exact ⟨_, ((a1_0 == 6)), (by first | rfl | (simp; done) | (simp [*]; done)), H', ⟨by first | omega | exact Nat.le_refl _⟩, ⟨by (with_reducible repeat (first | apply kdn | apply kdr | apply kal)); exact BK109.out⟩, ⟨by (with_reducible repeat (first | apply kdn | apply kdr | apply kal)); exact BK110.out⟩, ⟨by repeat (first | (with_reducible first | exact HB.out | apply bal | apply pdn | apply bd1 | refine bst ?_ GE109.out | refine bst ?_ GE110.out) | exact HB.out)⟩⟩
  case rest =>
   clear HC6
   obtain ⟨kq, x19_5, rfl, HA, HJ5, BK109, BK110, HB⟩ := hcut
   cases kq with
   | zero => exact absurd HA.out (by simp [spec_OpOk.j0])
   | succ kj5 =>
    have H := HA.out
    clear HA
    simp only [spec_OpOk.j0] at H
    by_cases c14 : x19_5 = true
    ·subst c14
     have H1 : (if a1_1 = 0 then (some (a1_2.toList == ([] : List UInt8))) else (some false)) = some r := by rw [if_pos rfl] at H; exact H
     clear H
     have H := H1
     clear H1
     by_cases c15 : a1_1 = 0
     ·rw [if_pos c15] at H
      have c15b0 : (a1_1 == 0) = true := beq_iff_eq.mpr c15
      have c15b1 : (a1_1 != 0) = false := bne_eq_false_iff_eq.mpr c15
      clear c15
      obtain rfl := Option.some.inj H
      have hnb16 := NB110_109.out
      have hnc16 := NB109_110.out
      have hcz17_0 : wc.cell? ⟨gb110, 0, none⟩ = some (.int .i64 a1_0) := (kce BK110.out 0).trans rfl
      have hcz17_1 : wc.cell? ⟨gb110, 1, none⟩ = some (.int .i64 a1_1) := (kce BK110.out 1).trans rfl
      have hcz17_2 : wc.cell? ⟨gb110, 2, none⟩ = some (.string a1_2) := (kce BK110.out 2).trans rfl
      have hfz17_0 := kfr BK110.out 0
      have hfz17_1 := kfr BK110.out 1
      have hfz17_2 := kfr BK110.out 2
      go_wp2
      repeat (go_quiet (fail); try go_wp2)
      go_ret
      exact ⟨by first | rfl | (simp [errW_none, errW_some] <;> rfl) | (simp [*, errW_none, errW_some] <;> rfl), by repeat (first | (with_reducible first | exact HB.out | apply bal | apply pdn | apply bd1 | refine bst ?_ GE109.out | refine bst ?_ GE110.out) | exact HB.out)⟩
     ·rw [if_neg c15] at H
      have c15b0 : (a1_1 == 0) = false := beq_eq_false_iff_ne.mpr c15
      have c15b1 : (a1_1 != 0) = true := bne_iff_ne.mpr c15
      obtain rfl := Option.some.inj H
      have hnb18 := NB110_109.out
      have hnc18 := NB109_110.out
      have hcz19_0 : wc.cell? ⟨gb110, 0, none⟩ = some (.int .i64 a1_0) := (kce BK110.out 0).trans rfl
      have hcz19_1 : wc.cell? ⟨gb110, 1, none⟩ = some (.int .i64 a1_1) := (kce BK110.out 1).trans rfl
      have hcz19_2 : wc.cell? ⟨gb110, 2, none⟩ = some (.string a1_2) := (kce BK110.out 2).trans rfl
      have hfz19_0 := kfr BK110.out 0
      have hfz19_1 := kfr BK110.out 1
      have hfz19_2 := kfr BK110.out 2
      go_wp2
      repeat (go_quiet (fail); try go_wp2)
      go_ret
      exact ⟨by first | rfl | (simp [errW_none, errW_some] <;> rfl) | (simp [*, errW_none, errW_some] <;> rfl), by repeat (first | (with_reducible first | exact HB.out | apply bal | apply pdn | apply bd1 | refine bst ?_ GE109.out | refine bst ?_ GE110.out) | exact HB.out)⟩
    ·replace c14 := Bool.eq_false_iff.mpr c14
     subst c14
     have H1 : (if a1_0 = 2 then (if a1_1 = 0 then (some (decide ((a1_2.size : Int) ≤ 64))) else (some false)) else (if a1_0 = 3 then (if a0_0 = 1 then (if t112 = true then (some (decide ((a1_2.size : Int) ≤ 64))) else (some false)) else (some false)) else (if a1_0 = 4 then (if a0_0 = 1 then (if a1_1 = 0 then (some (decide ((a1_2.size : Int) ≤ 64))) else (some false)) else (some false)) else (if a1_0 = 5 then (if a0_0 = 1 then (if t112 = true then (some (a1_2.toList == ([] : List UInt8))) else (some false)) else (some false)) else (some false))))) = some r := by rw [if_neg (show ¬ (false = true) by decide)] at H; exact H
     clear H
     have H := H1
     clear H1
     by_cases c20 : a1_0 = 2
     ·rw [if_pos c20] at H
      have c20b0 : (a1_0 == 2) = true := beq_iff_eq.mpr c20
      have c20b1 : (a1_0 != 2) = false := bne_eq_false_iff_eq.mpr c20
      clear c20
      by_cases c21 : a1_1 = 0
      ·rw [if_pos c21] at H
       have c21b0 : (a1_1 == 0) = true := beq_iff_eq.mpr c21
       have c21b1 : (a1_1 != 0) = false := bne_eq_false_iff_eq.mpr c21
       clear c21
       obtain rfl := Option.some.inj H
       have hnb22 := NB110_109.out
       have hnc22 := NB109_110.out
       have hcz23_0 : wc.cell? ⟨gb110, 0, none⟩ = some (.int .i64 a1_0) := (kce BK110.out 0).trans rfl
       have hcz23_1 : wc.cell? ⟨gb110, 1, none⟩ = some (.int .i64 a1_1) := (kce BK110.out 1).trans rfl
       have hcz23_2 : wc.cell? ⟨gb110, 2, none⟩ = some (.string a1_2) := (kce BK110.out 2).trans rfl
       have hfz23_0 := kfr BK110.out 0
       have hfz23_1 := kfr BK110.out 1
       have hfz23_2 := kfr BK110.out 2
       go_wp2
       repeat (go_quiet (fail); try go_wp2)
       go_ret
       exact ⟨by first | rfl | (simp [errW_none, errW_some] <;> rfl) | (simp [*, errW_none, errW_some] <;> rfl), by repeat (first | (with_reducible first | exact HB.out | apply bal | apply pdn | apply bd1 | refine bst ?_ GE109.out | refine bst ?_ GE110.out) | exact HB.out)⟩
      ·rw [if_neg c21] at H
       have c21b0 : (a1_1 == 0) = false := beq_eq_false_iff_ne.mpr c21
       have c21b1 : (a1_1 != 0) = true := bne_iff_ne.mpr c21
       obtain rfl := Option.some.inj H
       have hnb24 := NB110_109.out
       have hnc24 := NB109_110.out
       have hcz25_0 : wc.cell? ⟨gb110, 0, none⟩ = some (.int .i64 a1_0) := (kce BK110.out 0).trans rfl
       have hcz25_1 : wc.cell? ⟨gb110, 1, none⟩ = some (.int .i64 a1_1) := (kce BK110.out 1).trans rfl
       have hcz25_2 : wc.cell? ⟨gb110, 2, none⟩ = some (.string a1_2) := (kce BK110.out 2).trans rfl
       have hfz25_0 := kfr BK110.out 0
       have hfz25_1 := kfr BK110.out 1
       have hfz25_2 := kfr BK110.out 2
       go_wp2
       repeat (go_quiet (fail); try go_wp2)
       go_ret
       exact ⟨by first | rfl | (simp [errW_none, errW_some] <;> rfl) | (simp [*, errW_none, errW_some] <;> rfl), by repeat (first | (with_reducible first | exact HB.out | apply bal | apply pdn | apply bd1 | refine bst ?_ GE109.out | refine bst ?_ GE110.out) | exact HB.out)⟩
     ·rw [if_neg c20] at H
      have c20b0 : (a1_0 == 2) = false := beq_eq_false_iff_ne.mpr c20
      have c20b1 : (a1_0 != 2) = true := bne_iff_ne.mpr c20
      by_cases c26 : a1_0 = 3
      ·rw [if_pos c26] at H
       have c26b0 : (a1_0 == 3) = true := beq_iff_eq.mpr c26
       have c26b1 : (a1_0 != 3) = false := bne_eq_false_iff_eq.mpr c26
       clear c26
       by_cases c27 : a0_0 = 1
       ·rw [if_pos c27] at H
        have c27b0 : (a0_0 == 1) = true := beq_iff_eq.mpr c27
        have c27b1 : (a0_0 != 1) = false := bne_eq_false_iff_eq.mpr c27
        clear c27
        by_cases c28 : t112 = true
        ·subst c28
         have H1 : (some (decide ((a1_2.size : Int) ≤ 64))) = some r := by rw [if_pos rfl] at H; exact H
         clear H
         have H := H1
         clear H1
         obtain rfl := Option.some.inj H
         have hnb29 := NB109_110.out
         have hnc29 := NB110_109.out
         have hcz30_0 : wc.cell? ⟨gb109, 0, none⟩ = some (.int .i64 a0_0) := (kce BK109.out 0).trans rfl
         have hcz30_1 : wc.cell? ⟨gb109, 1, none⟩ = some (.int .i64 a0_1) := (kce BK109.out 1).trans rfl
         have hfz30_0 := kfr BK109.out 0
         have hfz30_1 := kfr BK109.out 1
         go_wp2
         repeat (go_quiet (fail); try go_wp2)
         go_ret
         exact ⟨by first | rfl | (simp [errW_none, errW_some] <;> rfl) | (simp [*, errW_none, errW_some] <;> rfl), by repeat (first | (with_reducible first | exact HB.out | apply bal | apply pdn | apply bd1 | refine bst ?_ GE109.out | refine bst ?_ GE110.out) | exact HB.out)⟩
        ·replace c28 := Bool.eq_false_iff.mpr c28
         subst c28
         have H1 : (some false) = some r := by rw [if_neg (show ¬ (false = true) by decide)] at H; exact H
         clear H
         have H := H1
         clear H1
         obtain rfl := Option.some.inj H
         have hnb31 := NB109_110.out
         have hnc31 := NB110_109.out
         have hcz32_0 : wc.cell? ⟨gb109, 0, none⟩ = some (.int .i64 a0_0) := (kce BK109.out 0).trans rfl
         have hcz32_1 : wc.cell? ⟨gb109, 1, none⟩ = some (.int .i64 a0_1) := (kce BK109.out 1).trans rfl
         have hfz32_0 := kfr BK109.out 0
         have hfz32_1 := kfr BK109.out 1
         go_wp2
         repeat (go_quiet (fail); try go_wp2)
         go_ret
         exact ⟨by first | rfl | (simp [errW_none, errW_some] <;> rfl) | (simp [*, errW_none, errW_some] <;> rfl), by repeat (first | (with_reducible first | exact HB.out | apply bal | apply pdn | apply bd1 | refine bst ?_ GE109.out | refine bst ?_ GE110.out) | exact HB.out)⟩
       ·rw [if_neg c27] at H
        have c27b0 : (a0_0 == 1) = false := beq_eq_false_iff_ne.mpr c27
        have c27b1 : (a0_0 != 1) = true := bne_iff_ne.mpr c27
        obtain rfl := Option.some.inj H
        have hnb33 := NB109_110.out
        have hnc33 := NB110_109.out
        have hcz34_0 : wc.cell? ⟨gb109, 0, none⟩ = some (.int .i64 a0_0) := (kce BK109.out 0).trans rfl
        have hcz34_1 : wc.cell? ⟨gb109, 1, none⟩ = some (.int .i64 a0_1) := (kce BK109.out 1).trans rfl
        have hfz34_0 := kfr BK109.out 0
        have hfz34_1 := kfr BK109.out 1
        go_wp2
        repeat (go_quiet (fail); try go_wp2)
        go_ret
        exact ⟨by first | rfl | (simp [errW_none, errW_some] <;> rfl) | (simp [*, errW_none, errW_some] <;> rfl), by repeat (first | (with_reducible first | exact HB.out | apply bal | apply pdn | apply bd1 | refine bst ?_ GE109.out | refine bst ?_ GE110.out) | exact HB.out)⟩
      ·rw [if_neg c26] at H
       have c26b0 : (a1_0 == 3) = false := beq_eq_false_iff_ne.mpr c26
       have c26b1 : (a1_0 != 3) = true := bne_iff_ne.mpr c26
       by_cases c35 : a1_0 = 4
       ·rw [if_pos c35] at H
        have c35b0 : (a1_0 == 4) = true := beq_iff_eq.mpr c35
        have c35b1 : (a1_0 != 4) = false := bne_eq_false_iff_eq.mpr c35
        clear c35
        by_cases c36 : a0_0 = 1
        ·rw [if_pos c36] at H
         have c36b0 : (a0_0 == 1) = true := beq_iff_eq.mpr c36
         have c36b1 : (a0_0 != 1) = false := bne_eq_false_iff_eq.mpr c36
         clear c36
         by_cases c37 : a1_1 = 0
         ·rw [if_pos c37] at H
          have c37b0 : (a1_1 == 0) = true := beq_iff_eq.mpr c37
          have c37b1 : (a1_1 != 0) = false := bne_eq_false_iff_eq.mpr c37
          clear c37
          obtain rfl := Option.some.inj H
          have hnb38 := NB109_110.out
          have hnc38 := NB110_109.out
          have hcz39_0 : wc.cell? ⟨gb109, 0, none⟩ = some (.int .i64 a0_0) := (kce BK109.out 0).trans rfl
          have hcz39_1 : wc.cell? ⟨gb109, 1, none⟩ = some (.int .i64 a0_1) := (kce BK109.out 1).trans rfl
          have hfz39_0 := kfr BK109.out 0
          have hfz39_1 := kfr BK109.out 1
          have hcz40_0 : wc.cell? ⟨gb110, 0, none⟩ = some (.int .i64 a1_0) := (kce BK110.out 0).trans rfl
          have hcz40_1 : wc.cell? ⟨gb110, 1, none⟩ = some (.int .i64 a1_1) := (kce BK110.out 1).trans rfl
          have hcz40_2 : wc.cell? ⟨gb110, 2, none⟩ = some (.string a1_2) := (kce BK110.out 2).trans rfl
          have hfz40_0 := kfr BK110.out 0
          have hfz40_1 := kfr BK110.out 1
          have hfz40_2 := kfr BK110.out 2
          go_wp2
          repeat (go_quiet (fail); try go_wp2)
          go_ret
          exact ⟨by first | rfl | (simp [errW_none, errW_some] <;> rfl) | (simp [*, errW_none, errW_some] <;> rfl), by repeat (first | (with_reducible first | exact HB.out | apply bal | apply pdn | apply bd1 | refine bst ?_ GE109.out | refine bst ?_ GE110.out) | exact HB.out)⟩
         ·rw [if_neg c37] at H
          have c37b0 : (a1_1 == 0) = false := beq_eq_false_iff_ne.mpr c37
          have c37b1 : (a1_1 != 0) = true := bne_iff_ne.mpr c37
          obtain rfl := Option.some.inj H
          have hnb41 := NB109_110.out
          have hnc41 := NB110_109.out
          have hcz42_0 : wc.cell? ⟨gb109, 0, none⟩ = some (.int .i64 a0_0) := (kce BK109.out 0).trans rfl
          have hcz42_1 : wc.cell? ⟨gb109, 1, none⟩ = some (.int .i64 a0_1) := (kce BK109.out 1).trans rfl
          have hfz42_0 := kfr BK109.out 0
          have hfz42_1 := kfr BK109.out 1
          have hcz43_0 : wc.cell? ⟨gb110, 0, none⟩ = some (.int .i64 a1_0) := (kce BK110.out 0).trans rfl
          have hcz43_1 : wc.cell? ⟨gb110, 1, none⟩ = some (.int .i64 a1_1) := (kce BK110.out 1).trans rfl
          have hcz43_2 : wc.cell? ⟨gb110, 2, none⟩ = some (.string a1_2) := (kce BK110.out 2).trans rfl
          have hfz43_0 := kfr BK110.out 0
          have hfz43_1 := kfr BK110.out 1
          have hfz43_2 := kfr BK110.out 2
          go_wp2
          repeat (go_quiet (fail); try go_wp2)
          go_ret
          exact ⟨by first | rfl | (simp [errW_none, errW_some] <;> rfl) | (simp [*, errW_none, errW_some] <;> rfl), by repeat (first | (with_reducible first | exact HB.out | apply bal | apply pdn | apply bd1 | refine bst ?_ GE109.out | refine bst ?_ GE110.out) | exact HB.out)⟩
        ·rw [if_neg c36] at H
         have c36b0 : (a0_0 == 1) = false := beq_eq_false_iff_ne.mpr c36
         have c36b1 : (a0_0 != 1) = true := bne_iff_ne.mpr c36
         obtain rfl := Option.some.inj H
         have hnb44 := NB109_110.out
         have hnc44 := NB110_109.out
         have hcz45_0 : wc.cell? ⟨gb109, 0, none⟩ = some (.int .i64 a0_0) := (kce BK109.out 0).trans rfl
         have hcz45_1 : wc.cell? ⟨gb109, 1, none⟩ = some (.int .i64 a0_1) := (kce BK109.out 1).trans rfl
         have hfz45_0 := kfr BK109.out 0
         have hfz45_1 := kfr BK109.out 1
         go_wp2
         repeat (go_quiet (fail); try go_wp2)
         go_ret
         exact ⟨by first | rfl | (simp [errW_none, errW_some] <;> rfl) | (simp [*, errW_none, errW_some] <;> rfl), by repeat (first | (with_reducible first | exact HB.out | apply bal | apply pdn | apply bd1 | refine bst ?_ GE109.out | refine bst ?_ GE110.out) | exact HB.out)⟩
       ·rw [if_neg c35] at H
        have c35b0 : (a1_0 == 4) = false := beq_eq_false_iff_ne.mpr c35
        have c35b1 : (a1_0 != 4) = true := bne_iff_ne.mpr c35
        by_cases c46 : a1_0 = 5
        ·rw [if_pos c46] at H
         have c46b0 : (a1_0 == 5) = true := beq_iff_eq.mpr c46
         have c46b1 : (a1_0 != 5) = false := bne_eq_false_iff_eq.mpr c46
         clear c46
         by_cases c47 : a0_0 = 1
         ·rw [if_pos c47] at H
          have c47b0 : (a0_0 == 1) = true := beq_iff_eq.mpr c47
          have c47b1 : (a0_0 != 1) = false := bne_eq_false_iff_eq.mpr c47
          clear c47
          by_cases c48 : t112 = true
          ·subst c48
           have H1 : (some (a1_2.toList == ([] : List UInt8))) = some r := by rw [if_pos rfl] at H; exact H
           clear H
           have H := H1
           clear H1
           obtain rfl := Option.some.inj H
           have hnb49 := NB109_110.out
           have hnc49 := NB110_109.out
           have hcz50_0 : wc.cell? ⟨gb109, 0, none⟩ = some (.int .i64 a0_0) := (kce BK109.out 0).trans rfl
           have hcz50_1 : wc.cell? ⟨gb109, 1, none⟩ = some (.int .i64 a0_1) := (kce BK109.out 1).trans rfl
           have hfz50_0 := kfr BK109.out 0
           have hfz50_1 := kfr BK109.out 1
           have hcz51_0 : wc.cell? ⟨gb110, 0, none⟩ = some (.int .i64 a1_0) := (kce BK110.out 0).trans rfl
           have hcz51_1 : wc.cell? ⟨gb110, 1, none⟩ = some (.int .i64 a1_1) := (kce BK110.out 1).trans rfl
           have hcz51_2 : wc.cell? ⟨gb110, 2, none⟩ = some (.string a1_2) := (kce BK110.out 2).trans rfl
           have hfz51_0 := kfr BK110.out 0
           have hfz51_1 := kfr BK110.out 1
           have hfz51_2 := kfr BK110.out 2
           go_wp2
           repeat (go_quiet (fail); try go_wp2)
           go_ret
           exact ⟨by first | rfl | (simp [errW_none, errW_some] <;> rfl) | (simp [*, errW_none, errW_some] <;> rfl), by repeat (first | (with_reducible first | exact HB.out | apply bal | apply pdn | apply bd1 | refine bst ?_ GE109.out | refine bst ?_ GE110.out) | exact HB.out)⟩
          ·replace c48 := Bool.eq_false_iff.mpr c48
           subst c48
           have H1 : (some false) = some r := by rw [if_neg (show ¬ (false = true) by decide)] at H; exact H
           clear H
           have H := H1
           clear H1
           obtain rfl := Option.some.inj H
           have hnb52 := NB109_110.out
           have hnc52 := NB110_109.out
           have hcz53_0 : wc.cell? ⟨gb109, 0, none⟩ = some (.int .i64 a0_0) := (kce BK109.out 0).trans rfl
           have hcz53_1 : wc.cell? ⟨gb109, 1, none⟩ = some (.int .i64 a0_1) := (kce BK109.out 1).trans rfl
           have hfz53_0 := kfr BK109.out 0
           have hfz53_1 := kfr BK109.out 1
           go_wp2
           repeat (go_quiet (fail); try go_wp2)
           go_ret
           exact ⟨by first | rfl | (simp [errW_none, errW_some] <;> rfl) | (simp [*, errW_none, errW_some] <;> rfl), by repeat (first | (with_reducible first | exact HB.out | apply bal | apply pdn | apply bd1 | refine bst ?_ GE109.out | refine bst ?_ GE110.out) | exact HB.out)⟩
         ·rw [if_neg c47] at H
          have c47b0 : (a0_0 == 1) = false := beq_eq_false_iff_ne.mpr c47
          have c47b1 : (a0_0 != 1) = true := bne_iff_ne.mpr c47
          obtain rfl := Option.some.inj H
          have hnb54 := NB109_110.out
          have hnc54 := NB110_109.out
          have hcz55_0 : wc.cell? ⟨gb109, 0, none⟩ = some (.int .i64 a0_0) := (kce BK109.out 0).trans rfl
          have hcz55_1 : wc.cell? ⟨gb109, 1, none⟩ = some (.int .i64 a0_1) := (kce BK109.out 1).trans rfl
          have hfz55_0 := kfr BK109.out 0
          have hfz55_1 := kfr BK109.out 1
          go_wp2
          repeat (go_quiet (fail); try go_wp2)
          go_ret
          exact ⟨by first | rfl | (simp [errW_none, errW_some] <;> rfl) | (simp [*, errW_none, errW_some] <;> rfl), by repeat (first | (with_reducible first | exact HB.out | apply bal | apply pdn | apply bd1 | refine bst ?_ GE109.out | refine bst ?_ GE110.out) | exact HB.out)⟩
        ·rw [if_neg c46] at H
         have c46b0 : (a1_0 == 5) = false := beq_eq_false_iff_ne.mpr c46
         have c46b1 : (a1_0 != 5) = true := bne_iff_ne.mpr c46
         obtain rfl := Option.some.inj H
         go_wp2
         repeat (go_quiet (fail); try go_wp2)
         go_ret
         exact ⟨by first | rfl | (simp [errW_none, errW_some] <;> rfl) | (simp [*, errW_none, errW_some] <;> rfl), by repeat (first | (with_reducible first | exact HB.out | apply bal | apply pdn | apply bd1 | refine bst ?_ GE109.out | refine bst ?_ GE110.out) | exact HB.out)⟩
 ·replace c4 := Bool.eq_false_iff.mpr c4
  subst c4
  have H1 : (some false) = some r := by rw [if_neg (show ¬ (false = true) by decide)] at H; exact H
  clear H
  have H := H1
  clear H1
  obtain rfl := Option.some.inj H
  go_enter Try.func53, Try.ntmps53
  go_wp2_with (first | ((with_reducible refine gate_dst (N := 2) rfl ?_); refine box_event ?hg (N := 2) ?hd (cs := #[.int .i64 a0_0, .int .i64 a0_1]) (t := 84) ?hr ?_; (case hd => rfl); (case hg => rfl); (case hr => first | (go_simp; done) | (go_simp; rfl)); intro gb109 hg w56 hbox hb; have n0_ := am (below_step (by repeat (first | (with_reducible first | exact HB.out | apply bal | apply pdn | apply bd1) | exact HB.out)) hb); have n1_ := am (hbox); have n2_ := am ((by rw [hg]; exact (below_size (by repeat (first | (with_reducible first | exact HB.out | apply bal | apply pdn | apply bd1) | exact HB.out))) : w.heap.size ≤ gb109)); have n3_ := am ((by rw [hg]; exact (below_size (by repeat (first | (with_reducible first | exact HB.out | apply bal | apply pdn | apply bd1) | exact HB.out))) : w.heap.size ≤ gb109)); clear HB; have HB := n0_; have BK109 := n1_; have GW109 := n2_; have GE109 := n3_; clear n0_ n1_ n2_ n3_; clear hb hbox hg) | ((with_reducible refine gate_dst (N := 3) rfl ?_); refine box_event ?hg (N := 3) ?hd (cs := #[.int .i64 a1_0, .int .i64 a1_1, .string a1_2]) (t := 60) ?hr ?_; (case hd => rfl); (case hg => rfl); (case hr => first | (go_simp; done) | (go_simp; rfl)); intro gb110 hg w57 hbox hb; have n0_ := am (kbb (g := gb109) (o := .cells #[.int .i64 a0_0, .int .i64 a0_1] 84 (0, 0)) (by (with_reducible repeat (first | apply kdn | apply kdr | apply kal)); exact BK109.out) hb); have n1_ := am (below_step (by repeat (first | (with_reducible first | exact HB.out | apply bal | apply pdn | apply bd1 | refine bst ?_ GE109.out) | exact HB.out)) hb); have n2_ := am (hbox); have n3_ := am ((by rw [hg]; exact (below_size (by repeat (first | (with_reducible first | exact HB.out | apply bal | apply pdn | apply bd1 | refine bst ?_ GE109.out) | exact HB.out))) : w.heap.size ≤ gb110)); have n4_ := am ((by rw [hg]; exact (below_size (by repeat (first | (with_reducible first | exact HB.out | apply bal | apply pdn | apply bd1 | refine bst ?_ GE109.out) | exact HB.out))) : w.heap.size ≤ gb110)); have n5_ := am ((by rw [hg]; exact Nat.ne_of_lt (blk_lt (g := gb109) (o := .cells #[.int .i64 a0_0, .int .i64 a0_1] 84 (0, 0)) (by (with_reducible repeat (first | apply kdn | apply kdr | apply kal)); exact BK109.out)) : gb109 ≠ gb110)); have n6_ := am ((by rw [hg]; exact Nat.ne_of_gt (blk_lt (g := gb109) (o := .cells #[.int .i64 a0_0, .int .i64 a0_1] 84 (0, 0)) (by (with_reducible repeat (first | apply kdn | apply kdr | apply kal)); exact BK109.out)) : gb110 ≠ gb109)); clear BK109; clear HB; have BK109 := n0_; have HB := n1_; have BK110 := n2_; have GW110 := n3_; have GE110 := n4_; have NB109_110 := n5_; have NB110_109 := n6_; clear n0_ n1_ n2_ n3_ n4_ n5_ n6_; clear hb hbox hg; have hnb58 := NB109_110.out; have hnc58 := NB110_109.out; have hcz59_0 : w57.cell? ⟨gb109, 0, none⟩ = some (.int .i64 a0_0) := (kce BK109.out 0).trans rfl; have hcz59_1 : w57.cell? ⟨gb109, 1, none⟩ = some (.int .i64 a0_1) := (kce BK109.out 1).trans rfl; have hfz59_0 := kfr BK109.out 0; have hfz59_1 := kfr BK109.out 1) | (go_at_call 101; (with_reducible refine (spec_CodeOk.calls a0_0 a0_1 false _ A3.out).mono ?_); rintro e w60 ⟨rfl, hb⟩; have n0_ := am (kbb (g := gb109) (o := .cells #[.int .i64 a0_0, .int .i64 a0_1] 84 (0, 0)) (by (with_reducible repeat (first | apply kdn | apply kdr | apply kal)); exact BK109.out) hb); have n1_ := am (kbb (g := gb110) (o := .cells #[.int .i64 a1_0, .int .i64 a1_1, .string a1_2] 60 (0, 0)) (by (with_reducible repeat (first | apply kdn | apply kdr | apply kal)); exact BK110.out) hb); have n2_ := am (below_step (by repeat (first | (with_reducible first | exact HB.out | apply bal | apply pdn | apply bd1 | refine bst ?_ GE109.out | refine bst ?_ GE110.out) | exact HB.out)) hb); clear BK109; clear BK110; clear HB; have BK109 := n0_; have BK110 := n1_; have HB := n2_; clear n0_ n1_ n2_; (try clear hb); (try clear hb2); (try clear hk); (try clear hi)))
  repeat (go_quiet (first | ((with_reducible refine gate_dst (N := 2) rfl ?_); refine box_event ?hg (N := 2) ?hd (cs := #[.int .i64 a0_0, .int .i64 a0_1]) (t := 84) ?hr ?_; (case hd => rfl); (case hg => rfl); (case hr => first | (go_simp; done) | (go_simp; rfl)); intro gb109 hg w56 hbox hb; have n0_ := am (below_step (by repeat (first | (with_reducible first | exact HB.out | apply bal | apply pdn | apply bd1) | exact HB.out)) hb); have n1_ := am (hbox); have n2_ := am ((by rw [hg]; exact (below_size (by repeat (first | (with_reducible first | exact HB.out | apply bal | apply pdn | apply bd1) | exact HB.out))) : w.heap.size ≤ gb109)); have n3_ := am ((by rw [hg]; exact (below_size (by repeat (first | (with_reducible first | exact HB.out | apply bal | apply pdn | apply bd1) | exact HB.out))) : w.heap.size ≤ gb109)); clear HB; have HB := n0_; have BK109 := n1_; have GW109 := n2_; have GE109 := n3_; clear n0_ n1_ n2_ n3_; clear hb hbox hg) | ((with_reducible refine gate_dst (N := 3) rfl ?_); refine box_event ?hg (N := 3) ?hd (cs := #[.int .i64 a1_0, .int .i64 a1_1, .string a1_2]) (t := 60) ?hr ?_; (case hd => rfl); (case hg => rfl); (case hr => first | (go_simp; done) | (go_simp; rfl)); intro gb110 hg w57 hbox hb; have n0_ := am (kbb (g := gb109) (o := .cells #[.int .i64 a0_0, .int .i64 a0_1] 84 (0, 0)) (by (with_reducible repeat (first | apply kdn | apply kdr | apply kal)); exact BK109.out) hb); have n1_ := am (below_step (by repeat (first | (with_reducible first | exact HB.out | apply bal | apply pdn | apply bd1 | refine bst ?_ GE109.out) | exact HB.out)) hb); have n2_ := am (hbox); have n3_ := am ((by rw [hg]; exact (below_size (by repeat (first | (with_reducible first | exact HB.out | apply bal | apply pdn | apply bd1 | refine bst ?_ GE109.out) | exact HB.out))) : w.heap.size ≤ gb110)); have n4_ := am ((by rw [hg]; exact (below_size (by repeat (first | (with_reducible first | exact HB.out | apply bal | apply pdn | apply bd1 | refine bst ?_ GE109.out) | exact HB.out))) : w.heap.size ≤ gb110)); have n5_ := am ((by rw [hg]; exact Nat.ne_of_lt (blk_lt (g := gb109) (o := .cells #[.int .i64 a0_0, .int .i64 a0_1] 84 (0, 0)) (by (with_reducible repeat (first | apply kdn | apply kdr | apply kal)); exact BK109.out)) : gb109 ≠ gb110)); have n6_ := am ((by rw [hg]; exact Nat.ne_of_gt (blk_lt (g := gb109) (o := .cells #[.int .i64 a0_0, .int .i64 a0_1] 84 (0, 0)) (by (with_reducible repeat (first | apply kdn | apply kdr | apply kal)); exact BK109.out)) : gb110 ≠ gb109)); clear BK109; clear HB; have BK109 := n0_; have HB := n1_; have BK110 := n2_; have GW110 := n3_; have GE110 := n4_; have NB109_110 := n5_; have NB110_109 := n6_; clear n0_ n1_ n2_ n3_ n4_ n5_ n6_; clear hb hbox hg; have hnb58 := NB109_110.out; have hnc58 := NB110_109.out; have hcz59_0 : w57.cell? ⟨gb109, 0, none⟩ = some (.int .i64 a0_0) := (kce BK109.out 0).trans rfl; have hcz59_1 : w57.cell? ⟨gb109, 1, none⟩ = some (.int .i64 a0_1) := (kce BK109.out 1).trans rfl; have hfz59_0 := kfr BK109.out 0; have hfz59_1 := kfr BK109.out 1) | (go_at_call 101; (with_reducible refine (spec_CodeOk.calls a0_0 a0_1 false _ A3.out).mono ?_); rintro e w60 ⟨rfl, hb⟩; have n0_ := am (kbb (g := gb109) (o := .cells #[.int .i64 a0_0, .int .i64 a0_1] 84 (0, 0)) (by (with_reducible repeat (first | apply kdn | apply kdr | apply kal)); exact BK109.out) hb); have n1_ := am (kbb (g := gb110) (o := .cells #[.int .i64 a1_0, .int .i64 a1_1, .string a1_2] 60 (0, 0)) (by (with_reducible repeat (first | apply kdn | apply kdr | apply kal)); exact BK110.out) hb); have n2_ := am (below_step (by repeat (first | (with_reducible first | exact HB.out | apply bal | apply pdn | apply bd1 | refine bst ?_ GE109.out | refine bst ?_ GE110.out) | exact HB.out)) hb); clear BK109; clear BK110; clear HB; have BK109 := n0_; have BK110 := n1_; have HB := n2_; clear n0_ n1_ n2_; (try clear hb); (try clear hb2); (try clear hk); (try clear hi))); try go_wp2_with (first | ((with_reducible refine gate_dst (N := 2) rfl ?_); refine box_event ?hg (N := 2) ?hd (cs := #[.int .i64 a0_0, .int .i64 a0_1]) (t := 84) ?hr ?_; (case hd => rfl); (case hg => rfl); (case hr => first | (go_simp; done) | (go_simp; rfl)); intro gb109 hg w56 hbox hb; have n0_ := am (below_step (by repeat (first | (with_reducible first | exact HB.out | apply bal | apply pdn | apply bd1) | exact HB.out)) hb); have n1_ := am (hbox); have n2_ := am ((by rw [hg]; exact (below_size (by repeat (first | (with_reducible first | exact HB.out | apply bal | apply pdn | apply bd1) | exact HB.out))) : w.heap.size ≤ gb109)); have n3_ := am ((by rw [hg]; exact (below_size (by repeat (first | (with_reducible first | exact HB.out | apply bal | apply pdn | apply bd1) | exact HB.out))) : w.heap.size ≤ gb109)); clear HB; have HB := n0_; have BK109 := n1_; have GW109 := n2_; have GE109 := n3_; clear n0_ n1_ n2_ n3_; clear hb hbox hg) | ((with_reducible refine gate_dst (N := 3) rfl ?_); refine box_event ?hg (N := 3) ?hd (cs := #[.int .i64 a1_0, .int .i64 a1_1, .string a1_2]) (t := 60) ?hr ?_; (case hd => rfl); (case hg => rfl); (case hr => first | (go_simp; done) | (go_simp; rfl)); intro gb110 hg w57 hbox hb; have n0_ := am (kbb (g := gb109) (o := .cells #[.int .i64 a0_0, .int .i64 a0_1] 84 (0, 0)) (by (with_reducible repeat (first | apply kdn | apply kdr | apply kal)); exact BK109.out) hb); have n1_ := am (below_step (by repeat (first | (with_reducible first | exact HB.out | apply bal | apply pdn | apply bd1 | refine bst ?_ GE109.out) | exact HB.out)) hb); have n2_ := am (hbox); have n3_ := am ((by rw [hg]; exact (below_size (by repeat (first | (with_reducible first | exact HB.out | apply bal | apply pdn | apply bd1 | refine bst ?_ GE109.out) | exact HB.out))) : w.heap.size ≤ gb110)); have n4_ := am ((by rw [hg]; exact (below_size (by repeat (first | (with_reducible first | exact HB.out | apply bal | apply pdn | apply bd1 | refine bst ?_ GE109.out) | exact HB.out))) : w.heap.size ≤ gb110)); have n5_ := am ((by rw [hg]; exact Nat.ne_of_lt (blk_lt (g := gb109) (o := .cells #[.int .i64 a0_0, .int .i64 a0_1] 84 (0, 0)) (by (with_reducible repeat (first | apply kdn | apply kdr | apply kal)); exact BK109.out)) : gb109 ≠ gb110)); have n6_ := am ((by rw [hg]; exact Nat.ne_of_gt (blk_lt (g := gb109) (o := .cells #[.int .i64 a0_0, .int .i64 a0_1] 84 (0, 0)) (by (with_reducible repeat (first | apply kdn | apply kdr | apply kal)); exact BK109.out)) : gb110 ≠ gb109)); clear BK109; clear HB; have BK109 := n0_; have HB := n1_; have BK110 := n2_; have GW110 := n3_; have GE110 := n4_; have NB109_110 := n5_; have NB110_109 := n6_; clear n0_ n1_ n2_ n3_ n4_ n5_ n6_; clear hb hbox hg; have hnb58 := NB109_110.out; have hnc58 := NB110_109.out; have hcz59_0 : w57.cell? ⟨gb109, 0, none⟩ = some (.int .i64 a0_0) := (kce BK109.out 0).trans rfl; have hcz59_1 : w57.cell? ⟨gb109, 1, none⟩ = some (.int .i64 a0_1) := (kce BK109.out 1).trans rfl; have hfz59_0 := kfr BK109.out 0; have hfz59_1 := kfr BK109.out 1) | (go_at_call 101; (with_reducible refine (spec_CodeOk.calls a0_0 a0_1 false _ A3.out).mono ?_); rintro e w60 ⟨rfl, hb⟩; have n0_ := am (kbb (g := gb109) (o := .cells #[.int .i64 a0_0, .int .i64 a0_1] 84 (0, 0)) (by (with_reducible repeat (first | apply kdn | apply kdr | apply kal)); exact BK109.out) hb); have n1_ := am (kbb (g := gb110) (o := .cells #[.int .i64 a1_0, .int .i64 a1_1, .string a1_2] 60 (0, 0)) (by (with_reducible repeat (first | apply kdn | apply kdr | apply kal)); exact BK110.out) hb); have n2_ := am (below_step (by repeat (first | (with_reducible first | exact HB.out | apply bal | apply pdn | apply bd1 | refine bst ?_ GE109.out | refine bst ?_ GE110.out) | exact HB.out)) hb); clear BK109; clear BK110; clear HB; have BK109 := n0_; have BK110 := n1_; have HB := n2_; clear n0_ n1_ n2_; (try clear hb); (try clear hb2); (try clear hk); (try clear hi))))
  go_ret
  exact ⟨by first | rfl | (simp [errW_none, errW_some] <;> rfl) | (simp [*, errW_none, errW_some] <;> rfl), by repeat (first | (with_reducible first | exact HB.out | apply bal | apply pdn | apply bd1 | refine bst ?_ GE109.out | refine bst ?_ GE110.out) | exact HB.out)⟩

/-! ### spec_l16Plain: function 83 -/
def spec_l16Plain.f  : Option (Int × Int) := some (1, 0)
set_option maxHeartbeats 8000000 in
set_option maxRecDepth 100000 in
theorem spec_l16Plain.calls  (r1 : Int) (r2 : Int) (w : World) (h : spec_l16Plain.f  = some (r1, r2)) :
  Calls Try.prog 83 #[] w fun e w' => e = .returned (.agg #[.int .i64 r1, .int .i64 r2]) ∧ Below w.heap.size w w' := by
 have hu84 := Try.underlying84
 have HB := am (Below.refl w.heap.size w)
 have H : (some (1, 0)) = some (r1, r2) := h
 clear h
 simp only [Option.some.injEq, Prod.mk.injEq] at H
 obtain ⟨rfl, rfl⟩ := H
 go_enter Try.func83, Try.ntmps83
 go_wp2_with (first | ((with_reducible refine gate_dst (N := 0) rfl ?_); refine box_event ?hg (N := 0) ?hd (cs := #[.int .i64 0, .int .i64 0]) (t := 84) ?hr ?_; (case hd => rfl); (case hg => rfl); (case hr => first | (go_simp; done) | (go_simp; rfl)); intro gb113 hg w1 hbox hb; have n0_ := am (below_step (by repeat (first | (with_reducible first | exact HB.out | apply bal | apply pdn | apply bd1) | exact HB.out)) hb); have n1_ := am (hbox); have n2_ := am ((by rw [hg]; exact (below_size (by repeat (first | (with_reducible first | exact HB.out | apply bal | apply pdn | apply bd1) | exact HB.out))) : w.heap.size ≤ gb113)); have n3_ := am ((by rw [hg]; exact (below_size (by repeat (first | (with_reducible first | exact HB.out | apply bal | apply pdn | apply bd1) | exact HB.out))) : w.heap.size ≤ gb113)); clear HB; have HB := n0_; have BK113 := n1_; have GW113 := n2_; have GE113 := n3_; clear n0_ n1_ n2_ n3_; clear hb hbox hg; have hcz2_0 : w1.cell? ⟨gb113, 0, none⟩ = some (.int .i64 0) := (kce BK113.out 0).trans rfl; have hcz2_1 : w1.cell? ⟨gb113, 1, none⟩ = some (.int .i64 0) := (kce BK113.out 1).trans rfl; have hfz2_0 := kfr BK113.out 0; have hfz2_1 := kfr BK113.out 1))
 refine bodyPost_ret (results_cell_row rfl _ _ gb113 84 #[.int .i64 1, .int .i64 0] (0, 0) _ rfl (by (with_reducible repeat (first | apply kdn | apply kdr | apply kal)); refine blk_put (cs := #[.int .i64 1, .int .i64 0]) ?_ 1 _ rfl; (with_reducible repeat (first | apply kdn | apply kdr | apply kal)); refine blk_put (cs := #[.int .i64 0, .int .i64 0]) ?_ 0 _ rfl; (with_reducible repeat (first | apply kdn | apply kdr | apply kal)); exact BK113.out) Try.underlying84 rfl (by kernel_rfl)) rfl ?_
 exact ⟨by first | rfl | (simp [errW_none, errW_some] <;> rfl) | (simp [*, errW_none, errW_some] <;> rfl), by repeat (first | (with_reducible first | exact HB.out | apply bal | apply pdn | apply bd1 | refine bst ?_ GE113.out) | exact HB.out)⟩

end Go.Proofs.Ythphhklbliambaa.MFnExactApplyOps
