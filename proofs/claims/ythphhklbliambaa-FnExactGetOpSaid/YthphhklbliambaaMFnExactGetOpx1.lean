-- Written by a program of this session (wip/tools/myprint.py) over the kit's print: it is not the kit's print.
import Derived.Test.YthphhklbliambaaExtra
import Derived.Test.YthphhklbliambaaMFnExactGetOpx0
namespace Go.Proofs.Ythphhklbliambaa.MFnExactGetOp
open Go.RowKit Go.Proofs.YthphhklbliambaaW.PrintWords Go.Proofs.YthphhklbliambaaW.PrintLast Go.Proofs.YthphhklbliambaaW.PrintMore
open List renaming setIfInBounds_toArray → sit, set_cons_zero → scz, set_cons_succ → scs, map_toArray → mta, map_cons → mco, map_nil → mni, length_drop → lnd, length_take → lnt
attribute [local go_sem] max2_int min2_int max_two min_two max_three min_three max_four min_four   -- for this text's walks alone
set_option linter.unusedVariables false
set_option linter.unusedSimpArgs false

/-! ### spec_l00In: function 57 -/
def spec_l00In.f (a0 : Int) (a1 : Int) (a2 : Int) : Option (Bool) := if a0 ≥ a1 then (some (decide (a0 ≤ a2))) else (some false)
set_option maxHeartbeats 8000000 in
set_option maxRecDepth 100000 in
theorem spec_l00In.calls (a0 : Int) (a1 : Int) (a2 : Int) (r : Bool) (w : World) (h : spec_l00In.f a0 a1 a2 = some r) :
  Calls Try.prog 57 #[.int .i64 a0, .int .i64 a1, .int .i64 a2] w fun e w' => e = .returned (.bool r) ∧ Drawn0 w w' := by
 have H : (if a0 ≥ a1 then (some (decide (a0 ≤ a2))) else (some false)) = some r := h
 clear h
 by_cases c4 : a0 ≥ a1
 ·rw [if_pos c4] at H
  have c4b0 : decide (a1 ≤ a0) = true := decide_eq_true c4
  clear c4
  obtain rfl := Option.some.inj H
  go_enter Try.func57, Try.ntmps57
  go_wp2
  go_ret
  exact ⟨by first | rfl | (simp; done) | (simp [*]; done), by repeat (first | exact Drawn0.refl _ | apply Drawn0.step)⟩
 ·rw [if_neg c4] at H
  have c4b0 : decide (a1 ≤ a0) = false := decide_eq_false c4
  clear c4
  obtain rfl := Option.some.inj H
  go_enter Try.func57, Try.ntmps57
  go_wp2
  go_ret
  exact ⟨by first | rfl | (simp; done) | (simp [*]; done), by repeat (first | exact Drawn0.refl _ | apply Drawn0.step)⟩

/-! ### spec_l04Code: function 126 -/
def spec_l04Code.f (a0_0 : Int) (a0_1 : Int) : Option (Bool) := (spec_l00In.f a0_0 1 4).bind fun t102 => (if t102 = true then ((spec_l00In.f a0_1 0 3).bind fun t103 => (some t103)) else (some false))
set_option maxHeartbeats 8000000 in
set_option maxRecDepth 100000 in
theorem spec_l04Code.calls (a0_0 : Int) (a0_1 : Int) (r : Bool) (w : World) (h : spec_l04Code.f a0_0 a0_1 = some r) :
  Calls Try.prog 126 #[.agg #[.int .i64 a0_0, .int .i64 a0_1]] w fun e w' => e = .returned (.bool r) ∧ Below w.heap.size w w' := by
 have hu84 := Try.underlying84
 have HB := am (Below.refl w.heap.size w)
 have H : ((spec_l00In.f a0_0 1 4).bind fun t102 => (if t102 = true then ((spec_l00In.f a0_1 0 3).bind fun t103 => (some t103)) else (some false))) = some r := h
 clear h
 replace H := Option.bind_eq_some_iff.mp H
 obtain ⟨t102, A20, H⟩ := H
 replace H : (if t102 = true then ((spec_l00In.f a0_1 0 3).bind fun t103 => (some t103)) else (some false)) = some r := H
 have A2 := am A20
 clear A20
 by_cases c3 : t102 = true
 ·subst c3
  have H1 : ((spec_l00In.f a0_1 0 3).bind fun t103 => (some t103)) = some r := by rw [if_pos rfl] at H; exact H
  clear H
  have H := H1
  clear H1
  replace H := Option.bind_eq_some_iff.mp H
  obtain ⟨t103, A40, H⟩ := H
  replace H : (some t103) = some r := H
  have A4 := am A40
  clear A40
  obtain rfl := Option.some.inj H
  go_enter Try.func126, Try.ntmps126
  go_wp2_with (first | ((with_reducible refine gate_dst (N := 1) rfl ?_); refine box_event ?hg (N := 1) ?hd (cs := #[.int .i64 a0_0, .int .i64 a0_1]) (t := 84) ?hr ?_; (case hd => rfl); (case hg => rfl); (case hr => first | (go_simp; done) | (go_simp; rfl)); intro gb101 hg w5 hbox hb; have n0_ := am (below_step (by repeat (first | (with_reducible first | exact HB.out | apply bal | apply pdn | apply bd1) | exact HB.out)) hb); have n1_ := am (hbox); have n2_ := am ((by rw [hg]; exact (below_size (by repeat (first | (with_reducible first | exact HB.out | apply bal | apply pdn | apply bd1) | exact HB.out))) : w.heap.size ≤ gb101)); have n3_ := am ((by rw [hg]; exact (below_size (by repeat (first | (with_reducible first | exact HB.out | apply bal | apply pdn | apply bd1) | exact HB.out))) : w.heap.size ≤ gb101)); clear HB; have HB := n0_; have BK101 := n1_; have GW101 := n2_; have GE101 := n3_; clear n0_ n1_ n2_ n3_; clear hb hbox hg; have hcz6_0 : w5.cell? ⟨gb101, 0, none⟩ = some (.int .i64 a0_0) := (kce BK101.out 0).trans rfl; have hcz6_1 : w5.cell? ⟨gb101, 1, none⟩ = some (.int .i64 a0_1) := (kce BK101.out 1).trans rfl; have hfz6_0 := kfr BK101.out 0; have hfz6_1 := kfr BK101.out 1) | ((with_reducible refine gate_callee (f := 57) rfl ?_); refine goesL_ (some 5) rfl rfl Try.func57 (by kernel_rfl) rfl #[.int .i64 a0_0, .int .i64 1, .int .i64 4] rfl (by (try simp only [mta, mco, mni]); first | done | rfl | (simp only [lnd, lnt]; rfl)) ?_; (with_reducible refine (spec_l00In.calls a0_0 1 4 true _ A2.out).mono ?_); rintro e w' ⟨rfl, ⟨nd, rfl⟩⟩; refine ⟨_, rfl, ?_⟩) | (go_at_call 57; (with_reducible refine (spec_l00In.calls a0_1 0 3 t103 _ A4.out).mono ?_); rintro e w' ⟨rfl, ⟨nd, rfl⟩⟩))
  go_ret
  exact ⟨by first | rfl | (simp [errW_none, errW_some] <;> rfl) | (simp [*, errW_none, errW_some] <;> rfl), by repeat (first | (with_reducible first | exact HB.out | apply bal | apply pdn | apply bd1 | refine bst ?_ GE101.out) | exact HB.out)⟩
 ·replace c3 := Bool.eq_false_iff.mpr c3
  subst c3
  have H1 : (some false) = some r := by rw [if_neg (show ¬ (false = true) by decide)] at H; exact H
  clear H
  have H := H1
  clear H1
  obtain rfl := Option.some.inj H
  go_enter Try.func126, Try.ntmps126
  go_wp2_with (first | ((with_reducible refine gate_dst (N := 1) rfl ?_); refine box_event ?hg (N := 1) ?hd (cs := #[.int .i64 a0_0, .int .i64 a0_1]) (t := 84) ?hr ?_; (case hd => rfl); (case hg => rfl); (case hr => first | (go_simp; done) | (go_simp; rfl)); intro gb101 hg w7 hbox hb; have n0_ := am (below_step (by repeat (first | (with_reducible first | exact HB.out | apply bal | apply pdn | apply bd1) | exact HB.out)) hb); have n1_ := am (hbox); have n2_ := am ((by rw [hg]; exact (below_size (by repeat (first | (with_reducible first | exact HB.out | apply bal | apply pdn | apply bd1) | exact HB.out))) : w.heap.size ≤ gb101)); have n3_ := am ((by rw [hg]; exact (below_size (by repeat (first | (with_reducible first | exact HB.out | apply bal | apply pdn | apply bd1) | exact HB.out))) : w.heap.size ≤ gb101)); clear HB; have HB := n0_; have BK101 := n1_; have GW101 := n2_; have GE101 := n3_; clear n0_ n1_ n2_ n3_; clear hb hbox hg; have hcz8_0 : w7.cell? ⟨gb101, 0, none⟩ = some (.int .i64 a0_0) := (kce BK101.out 0).trans rfl; have hcz8_1 : w7.cell? ⟨gb101, 1, none⟩ = some (.int .i64 a0_1) := (kce BK101.out 1).trans rfl; have hfz8_0 := kfr BK101.out 0; have hfz8_1 := kfr BK101.out 1) | ((with_reducible refine gate_callee (f := 57) rfl ?_); refine goesL_ (some 5) rfl rfl Try.func57 (by kernel_rfl) rfl #[.int .i64 a0_0, .int .i64 1, .int .i64 4] rfl (by (try simp only [mta, mco, mni]); first | done | rfl | (simp only [lnd, lnt]; rfl)) ?_; (with_reducible refine (spec_l00In.calls a0_0 1 4 false _ A2.out).mono ?_); rintro e w' ⟨rfl, ⟨nd, rfl⟩⟩; refine ⟨_, rfl, ?_⟩))
  go_ret
  exact ⟨by first | rfl | (simp [errW_none, errW_some] <;> rfl) | (simp [*, errW_none, errW_some] <;> rfl), by repeat (first | (with_reducible first | exact HB.out | apply bal | apply pdn | apply bd1 | refine bst ?_ GE101.out) | exact HB.out)⟩

/-! ### spec_CodeOk: function 101 -/
def spec_CodeOk.f (a0_0 : Int) (a0_1 : Int) : Option (Bool) := (spec_l04Code.f a0_0 a0_1).bind fun t105 => (some t105)
set_option maxHeartbeats 8000000 in
set_option maxRecDepth 100000 in
theorem spec_CodeOk.calls (a0_0 : Int) (a0_1 : Int) (r : Bool) (w : World) (h : spec_CodeOk.f a0_0 a0_1 = some r) :
  Calls Try.prog 101 #[.agg #[.int .i64 a0_0, .int .i64 a0_1]] w fun e w' => e = .returned (.bool r) ∧ Below w.heap.size w w' := by
 have hu84 := Try.underlying84
 have HB := am (Below.refl w.heap.size w)
 have H : ((spec_l04Code.f a0_0 a0_1).bind fun t105 => (some t105)) = some r := h
 clear h
 replace H := Option.bind_eq_some_iff.mp H
 obtain ⟨t105, A20, H⟩ := H
 replace H : (some t105) = some r := H
 have A2 := am A20
 clear A20
 obtain rfl := Option.some.inj H
 go_enter Try.func101, Try.ntmps101
 go_wp2_with (first | ((with_reducible refine gate_dst (N := 1) rfl ?_); refine box_event ?hg (N := 1) ?hd (cs := #[.int .i64 a0_0, .int .i64 a0_1]) (t := 84) ?hr ?_; (case hd => rfl); (case hg => rfl); (case hr => first | (go_simp; done) | (go_simp; rfl)); intro gb104 hg w3 hbox hb; have n0_ := am (below_step (by repeat (first | (with_reducible first | exact HB.out | apply bal | apply pdn | apply bd1) | exact HB.out)) hb); have n1_ := am (hbox); have n2_ := am ((by rw [hg]; exact (below_size (by repeat (first | (with_reducible first | exact HB.out | apply bal | apply pdn | apply bd1) | exact HB.out))) : w.heap.size ≤ gb104)); have n3_ := am ((by rw [hg]; exact (below_size (by repeat (first | (with_reducible first | exact HB.out | apply bal | apply pdn | apply bd1) | exact HB.out))) : w.heap.size ≤ gb104)); clear HB; have HB := n0_; have BK104 := n1_; have GW104 := n2_; have GE104 := n3_; clear n0_ n1_ n2_ n3_; clear hb hbox hg; have hcz4_0 : w3.cell? ⟨gb104, 0, none⟩ = some (.int .i64 a0_0) := (kce BK104.out 0).trans rfl; have hcz4_1 : w3.cell? ⟨gb104, 1, none⟩ = some (.int .i64 a0_1) := (kce BK104.out 1).trans rfl; have hfz4_0 := kfr BK104.out 0; have hfz4_1 := kfr BK104.out 1) | ((with_reducible refine gate_callee (f := 126) rfl ?_); refine goesL_ (some 4) rfl rfl Try.func126 (by kernel_rfl) rfl #[.agg #[.int .i64 a0_0, .int .i64 a0_1]] rfl (by (try simp only [mta, mco, mni]); first | done | rfl | (simp only [lnd, lnt]; rfl)) ?_; (with_reducible refine (spec_l04Code.calls a0_0 a0_1 t105 _ A2.out).mono ?_); rintro e w5 ⟨rfl, hb⟩; refine ⟨_, rfl, ?_⟩; have n0_ := am (kbb (g := gb104) (o := .cells #[.int .i64 a0_0, .int .i64 a0_1] 84 (0, 0)) (by (with_reducible repeat (first | apply kdn | apply kdr | apply kal)); exact BK104.out) hb); have n1_ := am (below_step (by repeat (first | (with_reducible first | exact HB.out | apply bal | apply pdn | apply bd1 | refine bst ?_ GE104.out) | exact HB.out)) hb); clear BK104; clear HB; have BK104 := n0_; have HB := n1_; clear n0_ n1_; (try clear hb); (try clear hb2); (try clear hk); (try clear hi)))
 go_ret
 exact ⟨by first | rfl | (simp [errW_none, errW_some] <;> rfl) | (simp [*, errW_none, errW_some] <;> rfl), by repeat (first | (with_reducible first | exact HB.out | apply bal | apply pdn | apply bd1 | refine bst ?_ GE104.out) | exact HB.out)⟩

/-! ### spec_OpOk: function 53 -/
def spec_OpOk.j0 : Nat → Bool → Bool → Int → Bool → Int → Int → Int → Int → ByteArray → Option (Bool)
 | 0, _, _, _, _, _, _, _, _, _ => none
 | k + 1, x5, x6, x18, x19, x107000, x107001, x108000, x108001, x108002 => if x19 = true then (if x108001 = 0 then (some (x108002.toList == ([] : List UInt8))) else (some false)) else (if x18 = 2 then (if x108001 = 0 then (some x5) else (some false)) else (if x18 = 3 then (if x107000 = 1 then (if x6 = true then (some x5) else (some false)) else (some false)) else (if x18 = 4 then (if x107000 = 1 then (if x108001 = 0 then (some x5) else (some false)) else (some false)) else (if x18 = 5 then (if x107000 = 1 then (if x6 = true then (some (x108002.toList == ([] : List UInt8))) else (some false)) else (some false)) else (some false)))))
def spec_OpOk.f (k : Nat) (a0_0 : Int) (a0_1 : Int) (a1_0 : Int) (a1_1 : Int) (a1_2 : ByteArray) : Option (Bool) := (spec_CodeOk.f a0_0 a0_1).bind fun t108 => (if t108 = true then ((spec_l00In.f a1_1 0 64).bind fun t109 => (if a1_0 = 1 then (spec_OpOk.j0 k (decide ((a1_2.size : Int) ≤ 64)) t109 a1_0 (a1_0 == 1) a0_0 a0_1 a1_0 a1_1 a1_2) else (spec_OpOk.j0 k (decide ((a1_2.size : Int) ≤ 64)) t109 a1_0 (a1_0 == 6) a0_0 a0_1 a1_0 a1_1 a1_2))) else (some false))
theorem spec_OpOk.mono_l : ∀ k, (∀ y0 y1 y2 y3 y4 y5 y6 y7 y8, LeO (spec_OpOk.j0 k y0 y1 y2 y3 y4 y5 y6 y7 y8) (spec_OpOk.j0 (k + 1) y0 y1 y2 y3 y4 y5 y6 y7 y8))
 | 0 => fun _ _ _ _ _ _ _ _ _ r h => by simp [spec_OpOk.j0] at h
 | k + 1 => by
  have ih0 := spec_OpOk.mono_l k
  ·intro y0 y1 y2 y3 y4 y5 y6 y7 y8
   unfold spec_OpOk.j0
   repeat' first
   | (with_reducible exact ih0 _ _ _ _ _ _ _ _ _)
   | (with_reducible exact LeO.refl _)
   | (with_reducible exact LeO.none _)
   | (with_reducible refine LeO.ite ?_ ?_)
   | (with_reducible refine LeO.bind ?_ (fun _ => ?_))
   | exact ih0 _ _ _ _ _ _ _ _ _
   | exact LeO.none _
   | refine LeO.ite ?_ ?_
   | refine LeO.bind ?_ (fun _ => ?_)
theorem spec_OpOk.mono : ∀ a0 a1 a2 a3 a4 k, LeO (spec_OpOk.f k a0 a1 a2 a3 a4) (spec_OpOk.f (k + 1) a0 a1 a2 a3 a4) := by
 intro a0 a1 a2 a3 a4 k
 have ih0 := spec_OpOk.mono_l k
 unfold spec_OpOk.f
 repeat' first
   | (with_reducible exact ih0 _ _ _ _ _ _ _ _ _)
   | (with_reducible exact LeO.refl _)
   | (with_reducible exact LeO.none _)
   | (with_reducible refine LeO.ite ?_ ?_)
   | (with_reducible refine LeO.bind ?_ (fun _ => ?_))
   | exact ih0 _ _ _ _ _ _ _ _ _
   | exact LeO.none _
   | refine LeO.ite ?_ ?_
   | refine LeO.bind ?_ (fun _ => ?_)
set_option maxHeartbeats 8000000 in
set_option maxRecDepth 100000 in
theorem spec_OpOk.calls (k : Nat) (a0_0 : Int) (a0_1 : Int) (a1_0 : Int) (a1_1 : Int) (a1_2 : ByteArray) (r : Bool) (w : World) (h : spec_OpOk.f k a0_0 a0_1 a1_0 a1_1 a1_2 = some r) :
  Calls Try.prog 53 #[.agg #[.int .i64 a0_0, .int .i64 a0_1], .agg #[.int .i64 a1_0, .int .i64 a1_1, .string a1_2]] w fun e w' => e = .returned (.bool r) ∧ Below w.heap.size w w' := by
 have hu84 := Try.underlying84
 have hu60 := Try.underlying60
 have HB := am (Below.refl w.heap.size w)
 have H : ((spec_CodeOk.f a0_0 a0_1).bind fun t108 => (if t108 = true then ((spec_l00In.f a1_1 0 64).bind fun t109 => (if a1_0 = 1 then (spec_OpOk.j0 k (decide ((a1_2.size : Int) ≤ 64)) t109 a1_0 (a1_0 == 1) a0_0 a0_1 a1_0 a1_1 a1_2) else (spec_OpOk.j0 k (decide ((a1_2.size : Int) ≤ 64)) t109 a1_0 (a1_0 == 6) a0_0 a0_1 a1_0 a1_1 a1_2))) else (some false))) = some r := h
 clear h
 replace H := Option.bind_eq_some_iff.mp H
 obtain ⟨t108, A30, H⟩ := H
 replace H : (if t108 = true then ((spec_l00In.f a1_1 0 64).bind fun t109 => (if a1_0 = 1 then (spec_OpOk.j0 k (decide ((a1_2.size : Int) ≤ 64)) t109 a1_0 (a1_0 == 1) a0_0 a0_1 a1_0 a1_1 a1_2) else (spec_OpOk.j0 k (decide ((a1_2.size : Int) ≤ 64)) t109 a1_0 (a1_0 == 6) a0_0 a0_1 a1_0 a1_1 a1_2))) else (some false)) = some r := H
 have A3 := am A30
 clear A30
 by_cases c4 : t108 = true
 ·subst c4
  have H1 : ((spec_l00In.f a1_1 0 64).bind fun t109 => (if a1_0 = 1 then (spec_OpOk.j0 k (decide ((a1_2.size : Int) ≤ 64)) t109 a1_0 (a1_0 == 1) a0_0 a0_1 a1_0 a1_1 a1_2) else (spec_OpOk.j0 k (decide ((a1_2.size : Int) ≤ 64)) t109 a1_0 (a1_0 == 6) a0_0 a0_1 a1_0 a1_1 a1_2))) = some r := by rw [if_pos rfl] at H; exact H
  clear H
  have H := H1
  clear H1
  replace H := Option.bind_eq_some_iff.mp H
  obtain ⟨t109, A50, H⟩ := H
  replace H : (if a1_0 = 1 then (spec_OpOk.j0 k (decide ((a1_2.size : Int) ≤ 64)) t109 a1_0 (a1_0 == 1) a0_0 a0_1 a1_0 a1_1 a1_2) else (spec_OpOk.j0 k (decide ((a1_2.size : Int) ≤ 64)) t109 a1_0 (a1_0 == 6) a0_0 a0_1 a1_0 a1_1 a1_2)) = some r := H
  have A5 := am A50
  clear A50
  have HC6 := am H
  clear H
  go_enter Try.func53, Try.ntmps53
  go_upto_if 19 with (first | ((with_reducible refine gate_dst (N := 2) rfl ?_); refine box_event ?hg (N := 2) ?hd (cs := #[.int .i64 a0_0, .int .i64 a0_1]) (t := 84) ?hr ?_; (case hd => rfl); (case hg => rfl); (case hr => first | (go_simp; done) | (go_simp; rfl)); intro gb106 hg w7 hbox hb; have n0_ := am (below_step (by repeat (first | (with_reducible first | exact HB.out | apply bal | apply pdn | apply bd1) | exact HB.out)) hb); have n1_ := am (hbox); have n2_ := am ((by rw [hg]; exact (below_size (by repeat (first | (with_reducible first | exact HB.out | apply bal | apply pdn | apply bd1) | exact HB.out))) : w.heap.size ≤ gb106)); have n3_ := am ((by rw [hg]; exact (below_size (by repeat (first | (with_reducible first | exact HB.out | apply bal | apply pdn | apply bd1) | exact HB.out))) : w.heap.size ≤ gb106)); clear HB; have HB := n0_; have BK106 := n1_; have GW106 := n2_; have GE106 := n3_; clear n0_ n1_ n2_ n3_; clear hb hbox hg) | ((with_reducible refine gate_dst (N := 3) rfl ?_); refine box_event ?hg (N := 3) ?hd (cs := #[.int .i64 a1_0, .int .i64 a1_1, .string a1_2]) (t := 60) ?hr ?_; (case hd => rfl); (case hg => rfl); (case hr => first | (go_simp; done) | (go_simp; rfl)); intro gb107 hg w8 hbox hb; have n0_ := am (kbb (g := gb106) (o := .cells #[.int .i64 a0_0, .int .i64 a0_1] 84 (0, 0)) (by (with_reducible repeat (first | apply kdn | apply kdr | apply kal)); exact BK106.out) hb); have n1_ := am (below_step (by repeat (first | (with_reducible first | exact HB.out | apply bal | apply pdn | apply bd1 | refine bst ?_ GE106.out) | exact HB.out)) hb); have n2_ := am (hbox); have n3_ := am ((by rw [hg]; exact (below_size (by repeat (first | (with_reducible first | exact HB.out | apply bal | apply pdn | apply bd1 | refine bst ?_ GE106.out) | exact HB.out))) : w.heap.size ≤ gb107)); have n4_ := am ((by rw [hg]; exact (below_size (by repeat (first | (with_reducible first | exact HB.out | apply bal | apply pdn | apply bd1 | refine bst ?_ GE106.out) | exact HB.out))) : w.heap.size ≤ gb107)); have n5_ := am ((by rw [hg]; exact Nat.ne_of_lt (blk_lt (g := gb106) (o := .cells #[.int .i64 a0_0, .int .i64 a0_1] 84 (0, 0)) (by (with_reducible repeat (first | apply kdn | apply kdr | apply kal)); exact BK106.out)) : gb106 ≠ gb107)); have n6_ := am ((by rw [hg]; exact Nat.ne_of_gt (blk_lt (g := gb106) (o := .cells #[.int .i64 a0_0, .int .i64 a0_1] 84 (0, 0)) (by (with_reducible repeat (first | apply kdn | apply kdr | apply kal)); exact BK106.out)) : gb107 ≠ gb106)); clear BK106; clear HB; have BK106 := n0_; have HB := n1_; have BK107 := n2_; have GW107 := n3_; have GE107 := n4_; have NB106_107 := n5_; have NB107_106 := n6_; clear n0_ n1_ n2_ n3_ n4_ n5_ n6_; clear hb hbox hg; have hnb9 := NB106_107.out; have hnc9 := NB107_106.out; have hcz10_0 : w8.cell? ⟨gb106, 0, none⟩ = some (.int .i64 a0_0) := (kce BK106.out 0).trans rfl; have hcz10_1 : w8.cell? ⟨gb106, 1, none⟩ = some (.int .i64 a0_1) := (kce BK106.out 1).trans rfl; have hfz10_0 := kfr BK106.out 0; have hfz10_1 := kfr BK106.out 1) | (go_at_call 101; (with_reducible refine (spec_CodeOk.calls a0_0 a0_1 true _ A3.out).mono ?_); rintro e w11 ⟨rfl, hb⟩; have n0_ := am (kbb (g := gb106) (o := .cells #[.int .i64 a0_0, .int .i64 a0_1] 84 (0, 0)) (by (with_reducible repeat (first | apply kdn | apply kdr | apply kal)); exact BK106.out) hb); have n1_ := am (kbb (g := gb107) (o := .cells #[.int .i64 a1_0, .int .i64 a1_1, .string a1_2] 60 (0, 0)) (by (with_reducible repeat (first | apply kdn | apply kdr | apply kal)); exact BK107.out) hb); have n2_ := am (below_step (by repeat (first | (with_reducible first | exact HB.out | apply bal | apply pdn | apply bd1 | refine bst ?_ GE106.out | refine bst ?_ GE107.out) | exact HB.out)) hb); clear BK106; clear BK107; clear HB; have BK106 := n0_; have BK107 := n1_; have HB := n2_; clear n0_ n1_ n2_; (try clear hb); (try clear hb2); (try clear hk); (try clear hi); have hcz12_0 : w11.cell? ⟨gb107, 0, none⟩ = some (.int .i64 a1_0) := (kce BK107.out 0).trans rfl; have hcz12_1 : w11.cell? ⟨gb107, 1, none⟩ = some (.int .i64 a1_1) := (kce BK107.out 1).trans rfl; have hcz12_2 : w11.cell? ⟨gb107, 2, none⟩ = some (.string a1_2) := (kce BK107.out 2).trans rfl; have hfz12_0 := kfr BK107.out 0; have hfz12_1 := kfr BK107.out 1; have hfz12_2 := kfr BK107.out 2) | (go_at_call 57; (with_reducible refine (spec_l00In.calls a1_1 0 64 t109 _ A5.out).mono ?_); rintro e w' ⟨rfl, ⟨nd, rfl⟩⟩; (try first | exact ⟨rfl, _, World.drewN_drewN _ _ _⟩ | exact ⟨rfl, _, Eq.trans (World.drewN_drewN _ _ _) (congrArg (World.drewN _) (Nat.add_assoc _ _ _))⟩)))
  repeat (go_quiet (first | ((with_reducible refine gate_dst (N := 2) rfl ?_); refine box_event ?hg (N := 2) ?hd (cs := #[.int .i64 a0_0, .int .i64 a0_1]) (t := 84) ?hr ?_; (case hd => rfl); (case hg => rfl); (case hr => first | (go_simp; done) | (go_simp; rfl)); intro gb106 hg w7 hbox hb; have n0_ := am (below_step (by repeat (first | (with_reducible first | exact HB.out | apply bal | apply pdn | apply bd1) | exact HB.out)) hb); have n1_ := am (hbox); have n2_ := am ((by rw [hg]; exact (below_size (by repeat (first | (with_reducible first | exact HB.out | apply bal | apply pdn | apply bd1) | exact HB.out))) : w.heap.size ≤ gb106)); have n3_ := am ((by rw [hg]; exact (below_size (by repeat (first | (with_reducible first | exact HB.out | apply bal | apply pdn | apply bd1) | exact HB.out))) : w.heap.size ≤ gb106)); clear HB; have HB := n0_; have BK106 := n1_; have GW106 := n2_; have GE106 := n3_; clear n0_ n1_ n2_ n3_; clear hb hbox hg) | ((with_reducible refine gate_dst (N := 3) rfl ?_); refine box_event ?hg (N := 3) ?hd (cs := #[.int .i64 a1_0, .int .i64 a1_1, .string a1_2]) (t := 60) ?hr ?_; (case hd => rfl); (case hg => rfl); (case hr => first | (go_simp; done) | (go_simp; rfl)); intro gb107 hg w8 hbox hb; have n0_ := am (kbb (g := gb106) (o := .cells #[.int .i64 a0_0, .int .i64 a0_1] 84 (0, 0)) (by (with_reducible repeat (first | apply kdn | apply kdr | apply kal)); exact BK106.out) hb); have n1_ := am (below_step (by repeat (first | (with_reducible first | exact HB.out | apply bal | apply pdn | apply bd1 | refine bst ?_ GE106.out) | exact HB.out)) hb); have n2_ := am (hbox); have n3_ := am ((by rw [hg]; exact (below_size (by repeat (first | (with_reducible first | exact HB.out | apply bal | apply pdn | apply bd1 | refine bst ?_ GE106.out) | exact HB.out))) : w.heap.size ≤ gb107)); have n4_ := am ((by rw [hg]; exact (below_size (by repeat (first | (with_reducible first | exact HB.out | apply bal | apply pdn | apply bd1 | refine bst ?_ GE106.out) | exact HB.out))) : w.heap.size ≤ gb107)); have n5_ := am ((by rw [hg]; exact Nat.ne_of_lt (blk_lt (g := gb106) (o := .cells #[.int .i64 a0_0, .int .i64 a0_1] 84 (0, 0)) (by (with_reducible repeat (first | apply kdn | apply kdr | apply kal)); exact BK106.out)) : gb106 ≠ gb107)); have n6_ := am ((by rw [hg]; exact Nat.ne_of_gt (blk_lt (g := gb106) (o := .cells #[.int .i64 a0_0, .int .i64 a0_1] 84 (0, 0)) (by (with_reducible repeat (first | apply kdn | apply kdr | apply kal)); exact BK106.out)) : gb107 ≠ gb106)); clear BK106; clear HB; have BK106 := n0_; have HB := n1_; have BK107 := n2_; have GW107 := n3_; have GE107 := n4_; have NB106_107 := n5_; have NB107_106 := n6_; clear n0_ n1_ n2_ n3_ n4_ n5_ n6_; clear hb hbox hg; have hnb9 := NB106_107.out; have hnc9 := NB107_106.out; have hcz10_0 : w8.cell? ⟨gb106, 0, none⟩ = some (.int .i64 a0_0) := (kce BK106.out 0).trans rfl; have hcz10_1 : w8.cell? ⟨gb106, 1, none⟩ = some (.int .i64 a0_1) := (kce BK106.out 1).trans rfl; have hfz10_0 := kfr BK106.out 0; have hfz10_1 := kfr BK106.out 1) | (go_at_call 101; (with_reducible refine (spec_CodeOk.calls a0_0 a0_1 true _ A3.out).mono ?_); rintro e w11 ⟨rfl, hb⟩; have n0_ := am (kbb (g := gb106) (o := .cells #[.int .i64 a0_0, .int .i64 a0_1] 84 (0, 0)) (by (with_reducible repeat (first | apply kdn | apply kdr | apply kal)); exact BK106.out) hb); have n1_ := am (kbb (g := gb107) (o := .cells #[.int .i64 a1_0, .int .i64 a1_1, .string a1_2] 60 (0, 0)) (by (with_reducible repeat (first | apply kdn | apply kdr | apply kal)); exact BK107.out) hb); have n2_ := am (below_step (by repeat (first | (with_reducible first | exact HB.out | apply bal | apply pdn | apply bd1 | refine bst ?_ GE106.out | refine bst ?_ GE107.out) | exact HB.out)) hb); clear BK106; clear BK107; clear HB; have BK106 := n0_; have BK107 := n1_; have HB := n2_; clear n0_ n1_ n2_; (try clear hb); (try clear hb2); (try clear hk); (try clear hi); have hcz12_0 : w11.cell? ⟨gb107, 0, none⟩ = some (.int .i64 a1_0) := (kce BK107.out 0).trans rfl; have hcz12_1 : w11.cell? ⟨gb107, 1, none⟩ = some (.int .i64 a1_1) := (kce BK107.out 1).trans rfl; have hcz12_2 : w11.cell? ⟨gb107, 2, none⟩ = some (.string a1_2) := (kce BK107.out 2).trans rfl; have hfz12_0 := kfr BK107.out 0; have hfz12_1 := kfr BK107.out 1; have hfz12_2 := kfr BK107.out 2) | (go_at_call 57; (with_reducible refine (spec_l00In.calls a1_1 0 64 t109 _ A5.out).mono ?_); rintro e w' ⟨rfl, ⟨nd, rfl⟩⟩; (try first | exact ⟨rfl, _, World.drewN_drewN _ _ _⟩ | exact ⟨rfl, _, Eq.trans (World.drewN_drewN _ _ _) (congrArg (World.drewN _) (Nat.add_assoc _ _ _))⟩))); go_upto_if 19 with (first | ((with_reducible refine gate_dst (N := 2) rfl ?_); refine box_event ?hg (N := 2) ?hd (cs := #[.int .i64 a0_0, .int .i64 a0_1]) (t := 84) ?hr ?_; (case hd => rfl); (case hg => rfl); (case hr => first | (go_simp; done) | (go_simp; rfl)); intro gb106 hg w7 hbox hb; have n0_ := am (below_step (by repeat (first | (with_reducible first | exact HB.out | apply bal | apply pdn | apply bd1) | exact HB.out)) hb); have n1_ := am (hbox); have n2_ := am ((by rw [hg]; exact (below_size (by repeat (first | (with_reducible first | exact HB.out | apply bal | apply pdn | apply bd1) | exact HB.out))) : w.heap.size ≤ gb106)); have n3_ := am ((by rw [hg]; exact (below_size (by repeat (first | (with_reducible first | exact HB.out | apply bal | apply pdn | apply bd1) | exact HB.out))) : w.heap.size ≤ gb106)); clear HB; have HB := n0_; have BK106 := n1_; have GW106 := n2_; have GE106 := n3_; clear n0_ n1_ n2_ n3_; clear hb hbox hg) | ((with_reducible refine gate_dst (N := 3) rfl ?_); refine box_event ?hg (N := 3) ?hd (cs := #[.int .i64 a1_0, .int .i64 a1_1, .string a1_2]) (t := 60) ?hr ?_; (case hd => rfl); (case hg => rfl); (case hr => first | (go_simp; done) | (go_simp; rfl)); intro gb107 hg w8 hbox hb; have n0_ := am (kbb (g := gb106) (o := .cells #[.int .i64 a0_0, .int .i64 a0_1] 84 (0, 0)) (by (with_reducible repeat (first | apply kdn | apply kdr | apply kal)); exact BK106.out) hb); have n1_ := am (below_step (by repeat (first | (with_reducible first | exact HB.out | apply bal | apply pdn | apply bd1 | refine bst ?_ GE106.out) | exact HB.out)) hb); have n2_ := am (hbox); have n3_ := am ((by rw [hg]; exact (below_size (by repeat (first | (with_reducible first | exact HB.out | apply bal | apply pdn | apply bd1 | refine bst ?_ GE106.out) | exact HB.out))) : w.heap.size ≤ gb107)); have n4_ := am ((by rw [hg]; exact (below_size (by repeat (first | (with_reducible first | exact HB.out | apply bal | apply pdn | apply bd1 | refine bst ?_ GE106.out) | exact HB.out))) : w.heap.size ≤ gb107)); have n5_ := am ((by rw [hg]; exact Nat.ne_of_lt (blk_lt (g := gb106) (o := .cells #[.int .i64 a0_0, .int .i64 a0_1] 84 (0, 0)) (by (with_reducible repeat (first | apply kdn | apply kdr | apply kal)); exact BK106.out)) : gb106 ≠ gb107)); have n6_ := am ((by rw [hg]; exact Nat.ne_of_gt (blk_lt (g := gb106) (o := .cells #[.int .i64 a0_0, .int .i64 a0_1] 84 (0, 0)) (by (with_reducible repeat (first | apply kdn | apply kdr | apply kal)); exact BK106.out)) : gb107 ≠ gb106)); clear BK106; clear HB; have BK106 := n0_; have HB := n1_; have BK107 := n2_; have GW107 := n3_; have GE107 := n4_; have NB106_107 := n5_; have NB107_106 := n6_; clear n0_ n1_ n2_ n3_ n4_ n5_ n6_; clear hb hbox hg; have hnb9 := NB106_107.out; have hnc9 := NB107_106.out; have hcz10_0 : w8.cell? ⟨gb106, 0, none⟩ = some (.int .i64 a0_0) := (kce BK106.out 0).trans rfl; have hcz10_1 : w8.cell? ⟨gb106, 1, none⟩ = some (.int .i64 a0_1) := (kce BK106.out 1).trans rfl; have hfz10_0 := kfr BK106.out 0; have hfz10_1 := kfr BK106.out 1) | (go_at_call 101; (with_reducible refine (spec_CodeOk.calls a0_0 a0_1 true _ A3.out).mono ?_); rintro e w11 ⟨rfl, hb⟩; have n0_ := am (kbb (g := gb106) (o := .cells #[.int .i64 a0_0, .int .i64 a0_1] 84 (0, 0)) (by (with_reducible repeat (first | apply kdn | apply kdr | apply kal)); exact BK106.out) hb); have n1_ := am (kbb (g := gb107) (o := .cells #[.int .i64 a1_0, .int .i64 a1_1, .string a1_2] 60 (0, 0)) (by (with_reducible repeat (first | apply kdn | apply kdr | apply kal)); exact BK107.out) hb); have n2_ := am (below_step (by repeat (first | (with_reducible first | exact HB.out | apply bal | apply pdn | apply bd1 | refine bst ?_ GE106.out | refine bst ?_ GE107.out) | exact HB.out)) hb); clear BK106; clear BK107; clear HB; have BK106 := n0_; have BK107 := n1_; have HB := n2_; clear n0_ n1_ n2_; (try clear hb); (try clear hb2); (try clear hk); (try clear hi); have hcz12_0 : w11.cell? ⟨gb107, 0, none⟩ = some (.int .i64 a1_0) := (kce BK107.out 0).trans rfl; have hcz12_1 : w11.cell? ⟨gb107, 1, none⟩ = some (.int .i64 a1_1) := (kce BK107.out 1).trans rfl; have hcz12_2 : w11.cell? ⟨gb107, 2, none⟩ = some (.string a1_2) := (kce BK107.out 2).trans rfl; have hfz12_0 := kfr BK107.out 0; have hfz12_1 := kfr BK107.out 1; have hfz12_2 := kfr BK107.out 2) | (go_at_call 57; (with_reducible refine (spec_l00In.calls a1_1 0 64 t109 _ A5.out).mono ?_); rintro e w' ⟨rfl, ⟨nd, rfl⟩⟩; (try first | exact ⟨rfl, _, World.drewN_drewN _ _ _⟩ | exact ⟨rfl, _, Eq.trans (World.drewN_drewN _ _ _) (congrArg (World.drewN _) (Nat.add_assoc _ _ _))⟩))))
  (try simp only [Act.put, sit, scz, scs])
  go_cut [19] (fun v19 wc => ∃ (kq : Nat) (x19_5 : Bool), v19 = .bool x19_5 ∧ Aside0 (spec_OpOk.j0 kq (decide ((a1_2.size : Int) ≤ 64)) t109 a1_0 x19_5 a0_0 a0_1 a1_0 a1_1 a1_2 = some r) ∧ Aside0 (kq ≤ k) ∧ Aside0 (wc.heap[gb106]? = some (.cells #[.int .i64 a0_0, .int .i64 a0_1] 84 (0, 0))) ∧ Aside0 (wc.heap[gb107]? = some (.cells #[.int .i64 a1_0, .int .i64 a1_1, .string a1_2] 60 (0, 0))) ∧ Aside0 (Below w.heap.size w wc))
  case first =>
   have H := HC6.out
   clear HC6
   by_cases c13 : a1_0 = 1
   ·rw [if_pos c13] at H
    have c13b0 : (a1_0 == 1) = true := beq_iff_eq.mpr c13
    have c13b1 : (a1_0 != 1) = false := bne_eq_false_iff_eq.mpr c13
    clear c13
    (first | rw [c13b0] | (simp only [i64_w, i32_w]; rw [c13b0]) | skip)
    have H' := am H
    clear H
    go_wp2
    repeat (go_quiet (fail); try go_wp2)
    go_meet
    case rel => exact ⟨_, ((a1_0 == 1)), (by first | rfl | (simp; done) | (simp [*]; done)), H', ⟨by first | omega | exact Nat.le_refl _⟩, ⟨by (with_reducible repeat (first | apply kdn | apply kdr | apply kal)); exact BK106.out⟩, ⟨by (with_reducible repeat (first | apply kdn | apply kdr | apply kal)); exact BK107.out⟩, ⟨by repeat (first | (with_reducible first | exact HB.out | apply bal | apply pdn | apply bd1 | refine bst ?_ GE106.out | refine bst ?_ GE107.out) | exact HB.out)⟩⟩
   ·rw [if_neg c13] at H
    have c13b0 : (a1_0 == 1) = false := beq_eq_false_iff_ne.mpr c13
    have c13b1 : (a1_0 != 1) = true := bne_iff_ne.mpr c13
    (first | rw [c13b0] | (simp only [i64_w, i32_w]; rw [c13b0]) | skip)
    have H' := am H
    clear H
    go_wp2
    repeat (go_quiet (fail); try go_wp2)
    go_meet
    case rel => exact ⟨_, ((a1_0 == 6)), (by first | rfl | (simp; done) | (simp [*]; done)), H', ⟨by first | omega | exact Nat.le_refl _⟩, ⟨by (with_reducible repeat (first | apply kdn | apply kdr | apply kal)); exact BK106.out⟩, ⟨by (with_reducible repeat (first | apply kdn | apply kdr | apply kal)); exact BK107.out⟩, ⟨by repeat (first | (with_reducible first | exact HB.out | apply bal | apply pdn | apply bd1 | refine bst ?_ GE106.out | refine bst ?_ GE107.out) | exact HB.out)⟩⟩
  case rest =>
   clear HC6
   obtain ⟨kq, x19_5, rfl, HA, HJ5, BK106, BK107, HB⟩ := hcut
   cases kq with
   | zero => exact absurd HA.out (by simp [spec_OpOk.j0])
   | succ kj5 =>
    have H := HA.out
    clear HA
    simp only [spec_OpOk.j0] at H
    by_cases c14 : x19_5 = true
    ·subst c14
     have H1 : (if a1_1 = 0 then (some (a1_2.toList == ([] : List UInt8))) else (some false)) = some r := by rw [if_pos rfl] at H; exact H
     clear H
     have H := H1
     clear H1
     by_cases c15 : a1_1 = 0
     ·rw [if_pos c15] at H
      have c15b0 : (a1_1 == 0) = true := beq_iff_eq.mpr c15
      have c15b1 : (a1_1 != 0) = false := bne_eq_false_iff_eq.mpr c15
      clear c15
      obtain rfl := Option.some.inj H
      have hnb16 := NB107_106.out
      have hnc16 := NB106_107.out
      have hcz17_0 : wc.cell? ⟨gb107, 0, none⟩ = some (.int .i64 a1_0) := (kce BK107.out 0).trans rfl
      have hcz17_1 : wc.cell? ⟨gb107, 1, none⟩ = some (.int .i64 a1_1) := (kce BK107.out 1).trans rfl
      have hcz17_2 : wc.cell? ⟨gb107, 2, none⟩ = some (.string a1_2) := (kce BK107.out 2).trans rfl
      have hfz17_0 := kfr BK107.out 0
      have hfz17_1 := kfr BK107.out 1
      have hfz17_2 := kfr BK107.out 2
      go_wp2
      repeat (go_quiet (fail); try go_wp2)
      go_ret
      exact ⟨by first | rfl | (simp [errW_none, errW_some] <;> rfl) | (simp [*, errW_none, errW_some] <;> rfl), by repeat (first | (with_reducible first | exact HB.out | apply bal | apply pdn | apply bd1 | refine bst ?_ GE106.out | refine bst ?_ GE107.out) | exact HB.out)⟩
     ·rw [if_neg c15] at H
      have c15b0 : (a1_1 == 0) = false := beq_eq_false_iff_ne.mpr c15
      have c15b1 : (a1_1 != 0) = true := bne_iff_ne.mpr c15
      obtain rfl := Option.some.inj H
      have hnb18 := NB107_106.out
      have hnc18 := NB106_107.out
      have hcz19_0 : wc.cell? ⟨gb107, 0, none⟩ = some (.int .i64 a1_0) := (kce BK107.out 0).trans rfl
      have hcz19_1 : wc.cell? ⟨gb107, 1, none⟩ = some (.int .i64 a1_1) := (kce BK107.out 1).trans rfl
      have hcz19_2 : wc.cell? ⟨gb107, 2, none⟩ = some (.string a1_2) := (kce BK107.out 2).trans rfl
      have hfz19_0 := kfr BK107.out 0
      have hfz19_1 := kfr BK107.out 1
      have hfz19_2 := kfr BK107.out 2
      go_wp2
      repeat (go_quiet (fail); try go_wp2)
      go_ret
      exact ⟨by first | rfl | (simp [errW_none, errW_some] <;> rfl) | (simp [*, errW_none, errW_some] <;> rfl), by repeat (first | (with_reducible first | exact HB.out | apply bal | apply pdn | apply bd1 | refine bst ?_ GE106.out | refine bst ?_ GE107.out) | exact HB.out)⟩
    ·replace c14 := Bool.eq_false_iff.mpr c14
     subst c14
     have H1 : (if a1_0 = 2 then (if a1_1 = 0 then (some (decide ((a1_2.size : Int) ≤ 64))) else (some false)) else (if a1_0 = 3 then (if a0_0 = 1 then (if t109 = true then (some (decide ((a1_2.size : Int) ≤ 64))) else (some false)) else (some false)) else (if a1_0 = 4 then (if a0_0 = 1 then (if a1_1 = 0 then (some (decide ((a1_2.size : Int) ≤ 64))) else (some false)) else (some false)) else (if a1_0 = 5 then (if a0_0 = 1 then (if t109 = true then (some (a1_2.toList == ([] : List UInt8))) else (some false)) else (some false)) else (some false))))) = some r := by rw [if_neg (show ¬ (false = true) by decide)] at H; exact H
     clear H
     have H := H1
     clear H1
     by_cases c20 : a1_0 = 2
     ·rw [if_pos c20] at H
      have c20b0 : (a1_0 == 2) = true := beq_iff_eq.mpr c20
      have c20b1 : (a1_0 != 2) = false := bne_eq_false_iff_eq.mpr c20
      clear c20
      by_cases c21 : a1_1 = 0
      ·rw [if_pos c21] at H
       have c21b0 : (a1_1 == 0) = true := beq_iff_eq.mpr c21
       have c21b1 : (a1_1 != 0) = false := bne_eq_false_iff_eq.mpr c21
       clear c21
       obtain rfl := Option.some.inj H
       have hnb22 := NB107_106.out
       have hnc22 := NB106_107.out
       have hcz23_0 : wc.cell? ⟨gb107, 0, none⟩ = some (.int .i64 a1_0) := (kce BK107.out 0).trans rfl
       have hcz23_1 : wc.cell? ⟨gb107, 1, none⟩ = some (.int .i64 a1_1) := (kce BK107.out 1).trans rfl
       have hcz23_2 : wc.cell? ⟨gb107, 2, none⟩ = some (.string a1_2) := (kce BK107.out 2).trans rfl
       have hfz23_0 := kfr BK107.out 0
       have hfz23_1 := kfr BK107.out 1
       have hfz23_2 := kfr BK107.out 2
       go_wp2
       repeat (go_quiet (fail); try go_wp2)
       go_ret
       exact ⟨by first | rfl | (simp [errW_none, errW_some] <;> rfl) | (simp [*, errW_none, errW_some] <;> rfl), by repeat (first | (with_reducible first | exact HB.out | apply bal | apply pdn | apply bd1 | refine bst ?_ GE106.out | refine bst ?_ GE107.out) | exact HB.out)⟩
      ·rw [if_neg c21] at H
       have c21b0 : (a1_1 == 0) = false := beq_eq_false_iff_ne.mpr c21
       have c21b1 : (a1_1 != 0) = true := bne_iff_ne.mpr c21
       obtain rfl := Option.some.inj H
       have hnb24 := NB107_106.out
       have hnc24 := NB106_107.out
       have hcz25_0 : wc.cell? ⟨gb107, 0, none⟩ = some (.int .i64 a1_0) := (kce BK107.out 0).trans rfl
       have hcz25_1 : wc.cell? ⟨gb107, 1, none⟩ = some (.int .i64 a1_1) := (kce BK107.out 1).trans rfl
       have hcz25_2 : wc.cell? ⟨gb107, 2, none⟩ = some (.string a1_2) := (kce BK107.out 2).trans rfl
       have hfz25_0 := kfr BK107.out 0
       have hfz25_1 := kfr BK107.out 1
       have hfz25_2 := kfr BK107.out 2
       go_wp2
       repeat (go_quiet (fail); try go_wp2)
       go_ret
       exact ⟨by first | rfl | (simp [errW_none, errW_some] <;> rfl) | (simp [*, errW_none, errW_some] <;> rfl), by repeat (first | (with_reducible first | exact HB.out | apply bal | apply pdn | apply bd1 | refine bst ?_ GE106.out | refine bst ?_ GE107.out) | exact HB.out)⟩
     ·rw [if_neg c20] at H
      have c20b0 : (a1_0 == 2) = false := beq_eq_false_iff_ne.mpr c20
      have c20b1 : (a1_0 != 2) = true := bne_iff_ne.mpr c20
      by_cases c26 : a1_0 = 3
      ·rw [if_pos c26] at H
       have c26b0 : (a1_0 == 3) = true := beq_iff_eq.mpr c26
       have c26b1 : (a1_0 != 3) = false := bne_eq_false_iff_eq.mpr c26
       clear c26
       by_cases c27 : a0_0 = 1
       ·rw [if_pos c27] at H
        have c27b0 : (a0_0 == 1) = true := beq_iff_eq.mpr c27
        have c27b1 : (a0_0 != 1) = false := bne_eq_false_iff_eq.mpr c27
        clear c27
        by_cases c28 : t109 = true
        ·subst c28
         have H1 : (some (decide ((a1_2.size : Int) ≤ 64))) = some r := by rw [if_pos rfl] at H; exact H
         clear H
         have H := H1
         clear H1
         obtain rfl := Option.some.inj H
         have hnb29 := NB106_107.out
         have hnc29 := NB107_106.out
         have hcz30_0 : wc.cell? ⟨gb106, 0, none⟩ = some (.int .i64 a0_0) := (kce BK106.out 0).trans rfl
         have hcz30_1 : wc.cell? ⟨gb106, 1, none⟩ = some (.int .i64 a0_1) := (kce BK106.out 1).trans rfl
         have hfz30_0 := kfr BK106.out 0
         have hfz30_1 := kfr BK106.out 1
         go_wp2
         repeat (go_quiet (fail); try go_wp2)
         go_ret
         exact ⟨by first | rfl | (simp [errW_none, errW_some] <;> rfl) | (simp [*, errW_none, errW_some] <;> rfl), by repeat (first | (with_reducible first | exact HB.out | apply bal | apply pdn | apply bd1 | refine bst ?_ GE106.out | refine bst ?_ GE107.out) | exact HB.out)⟩
        ·replace c28 := Bool.eq_false_iff.mpr c28
         subst c28
         have H1 : (some false) = some r := by rw [if_neg (show ¬ (false = true) by decide)] at H; exact H
         clear H
         have H := H1
         clear H1
         obtain rfl := Option.some.inj H
         have hnb31 := NB106_107.out
         have hnc31 := NB107_106.out
         have hcz32_0 : wc.cell? ⟨gb106, 0, none⟩ = some (.int .i64 a0_0) := (kce BK106.out 0).trans rfl
         have hcz32_1 : wc.cell? ⟨gb106, 1, none⟩ = some (.int .i64 a0_1) := (kce BK106.out 1).trans rfl
         have hfz32_0 := kfr BK106.out 0
         have hfz32_1 := kfr BK106.out 1
         go_wp2
         repeat (go_quiet (fail); try go_wp2)
         go_ret
         exact ⟨by first | rfl | (simp [errW_none, errW_some] <;> rfl) | (simp [*, errW_none, errW_some] <;> rfl), by repeat (first | (with_reducible first | exact HB.out | apply bal | apply pdn | apply bd1 | refine bst ?_ GE106.out | refine bst ?_ GE107.out) | exact HB.out)⟩
       ·rw [if_neg c27] at H
        have c27b0 : (a0_0 == 1) = false := beq_eq_false_iff_ne.mpr c27
        have c27b1 : (a0_0 != 1) = true := bne_iff_ne.mpr c27
        obtain rfl := Option.some.inj H
        have hnb33 := NB106_107.out
        have hnc33 := NB107_106.out
        have hcz34_0 : wc.cell? ⟨gb106, 0, none⟩ = some (.int .i64 a0_0) := (kce BK106.out 0).trans rfl
        have hcz34_1 : wc.cell? ⟨gb106, 1, none⟩ = some (.int .i64 a0_1) := (kce BK106.out 1).trans rfl
        have hfz34_0 := kfr BK106.out 0
        have hfz34_1 := kfr BK106.out 1
        go_wp2
        repeat (go_quiet (fail); try go_wp2)
        go_ret
        exact ⟨by first | rfl | (simp [errW_none, errW_some] <;> rfl) | (simp [*, errW_none, errW_some] <;> rfl), by repeat (first | (with_reducible first | exact HB.out | apply bal | apply pdn | apply bd1 | refine bst ?_ GE106.out | refine bst ?_ GE107.out) | exact HB.out)⟩
      ·rw [if_neg c26] at H
       have c26b0 : (a1_0 == 3) = false := beq_eq_false_iff_ne.mpr c26
       have c26b1 : (a1_0 != 3) = true := bne_iff_ne.mpr c26
       by_cases c35 : a1_0 = 4
       ·rw [if_pos c35] at H
        have c35b0 : (a1_0 == 4) = true := beq_iff_eq.mpr c35
        have c35b1 : (a1_0 != 4) = false := bne_eq_false_iff_eq.mpr c35
        clear c35
        by_cases c36 : a0_0 = 1
        ·rw [if_pos c36] at H
         have c36b0 : (a0_0 == 1) = true := beq_iff_eq.mpr c36
         have c36b1 : (a0_0 != 1) = false := bne_eq_false_iff_eq.mpr c36
         clear c36
         by_cases c37 : a1_1 = 0
         ·rw [if_pos c37] at H
          have c37b0 : (a1_1 == 0) = true := beq_iff_eq.mpr c37
          have c37b1 : (a1_1 != 0) = false := bne_eq_false_iff_eq.mpr c37
          clear c37
          obtain rfl := Option.some.inj H
          have hnb38 := NB106_107.out
          have hnc38 := NB107_106.out
          have hcz39_0 : wc.cell? ⟨gb106, 0, none⟩ = some (.int .i64 a0_0) := (kce BK106.out 0).trans rfl
          have hcz39_1 : wc.cell? ⟨gb106, 1, none⟩ = some (.int .i64 a0_1) := (kce BK106.out 1).trans rfl
          have hfz39_0 := kfr BK106.out 0
          have hfz39_1 := kfr BK106.out 1
          have hcz40_0 : wc.cell? ⟨gb107, 0, none⟩ = some (.int .i64 a1_0) := (kce BK107.out 0).trans rfl
          have hcz40_1 : wc.cell? ⟨gb107, 1, none⟩ = some (.int .i64 a1_1) := (kce BK107.out 1).trans rfl
          have hcz40_2 : wc.cell? ⟨gb107, 2, none⟩ = some (.string a1_2) := (kce BK107.out 2).trans rfl
          have hfz40_0 := kfr BK107.out 0
          have hfz40_1 := kfr BK107.out 1
          have hfz40_2 := kfr BK107.out 2
          go_wp2
          repeat (go_quiet (fail); try go_wp2)
          go_ret
          exact ⟨by first | rfl | (simp [errW_none, errW_some] <;> rfl) | (simp [*, errW_none, errW_some] <;> rfl), by repeat (first | (with_reducible first | exact HB.out | apply bal | apply pdn | apply bd1 | refine bst ?_ GE106.out | refine bst ?_ GE107.out) | exact HB.out)⟩
         ·rw [if_neg c37] at H
          have c37b0 : (a1_1 == 0) = false := beq_eq_false_iff_ne.mpr c37
          have c37b1 : (a1_1 != 0) = true := bne_iff_ne.mpr c37
          obtain rfl := Option.some.inj H
          have hnb41 := NB106_107.out
          have hnc41 := NB107_106.out
          have hcz42_0 : wc.cell? ⟨gb106, 0, none⟩ = some (.int .i64 a0_0) := (kce BK106.out 0).trans rfl
          have hcz42_1 : wc.cell? ⟨gb106, 1, none⟩ = some (.int .i64 a0_1) := (kce BK106.out 1).trans rfl
          have hfz42_0 := kfr BK106.out 0
          have hfz42_1 := kfr BK106.out 1
          have hcz43_0 : wc.cell? ⟨gb107, 0, none⟩ = some (.int .i64 a1_0) := (kce BK107.out 0).trans rfl
          have hcz43_1 : wc.cell? ⟨gb107, 1, none⟩ = some (.int .i64 a1_1) := (kce BK107.out 1).trans rfl
          have hcz43_2 : wc.cell? ⟨gb107, 2, none⟩ = some (.string a1_2) := (kce BK107.out 2).trans rfl
          have hfz43_0 := kfr BK107.out 0
          have hfz43_1 := kfr BK107.out 1
          have hfz43_2 := kfr BK107.out 2
          go_wp2
          repeat (go_quiet (fail); try go_wp2)
          go_ret
          exact ⟨by first | rfl | (simp [errW_none, errW_some] <;> rfl) | (simp [*, errW_none, errW_some] <;> rfl), by repeat (first | (with_reducible first | exact HB.out | apply bal | apply pdn | apply bd1 | refine bst ?_ GE106.out | refine bst ?_ GE107.out) | exact HB.out)⟩
        ·rw [if_neg c36] at H
         have c36b0 : (a0_0 == 1) = false := beq_eq_false_iff_ne.mpr c36
         have c36b1 : (a0_0 != 1) = true := bne_iff_ne.mpr c36
         obtain rfl := Option.some.inj H
         have hnb44 := NB106_107.out
         have hnc44 := NB107_106.out
         have hcz45_0 : wc.cell? ⟨gb106, 0, none⟩ = some (.int .i64 a0_0) := (kce BK106.out 0).trans rfl
         have hcz45_1 : wc.cell? ⟨gb106, 1, none⟩ = some (.int .i64 a0_1) := (kce BK106.out 1).trans rfl
         have hfz45_0 := kfr BK106.out 0
         have hfz45_1 := kfr BK106.out 1
         go_wp2
         repeat (go_quiet (fail); try go_wp2)
         go_ret
         exact ⟨by first | rfl | (simp [errW_none, errW_some] <;> rfl) | (simp [*, errW_none, errW_some] <;> rfl), by repeat (first | (with_reducible first | exact HB.out | apply bal | apply pdn | apply bd1 | refine bst ?_ GE106.out | refine bst ?_ GE107.out) | exact HB.out)⟩
       ·rw [if_neg c35] at H
        have c35b0 : (a1_0 == 4) = false := beq_eq_false_iff_ne.mpr c35
        have c35b1 : (a1_0 != 4) = true := bne_iff_ne.mpr c35
        by_cases c46 : a1_0 = 5
        ·rw [if_pos c46] at H
         have c46b0 : (a1_0 == 5) = true := beq_iff_eq.mpr c46
         have c46b1 : (a1_0 != 5) = false := bne_eq_false_iff_eq.mpr c46
         clear c46
         by_cases c47 : a0_0 = 1
         ·rw [if_pos c47] at H
          have c47b0 : (a0_0 == 1) = true := beq_iff_eq.mpr c47
          have c47b1 : (a0_0 != 1) = false := bne_eq_false_iff_eq.mpr c47
          clear c47
          by_cases c48 : t109 = true
          ·subst c48
           have H1 : (some (a1_2.toList == ([] : List UInt8))) = some r := by rw [if_pos rfl] at H; exact H
           clear H
           have H := H1
           clear H1
           obtain rfl := Option.some.inj H
           have hnb49 := NB106_107.out
           have hnc49 := NB107_106.out
           have hcz50_0 : wc.cell? ⟨gb106, 0, none⟩ = some (.int .i64 a0_0) := (kce BK106.out 0).trans rfl
           have hcz50_1 : wc.cell? ⟨gb106, 1, none⟩ = some (.int .i64 a0_1) := (kce BK106.out 1).trans rfl
           have hfz50_0 := kfr BK106.out 0
           have hfz50_1 := kfr BK106.out 1
           have hcz51_0 : wc.cell? ⟨gb107, 0, none⟩ = some (.int .i64 a1_0) := (kce BK107.out 0).trans rfl
           have hcz51_1 : wc.cell? ⟨gb107, 1, none⟩ = some (.int .i64 a1_1) := (kce BK107.out 1).trans rfl
           have hcz51_2 : wc.cell? ⟨gb107, 2, none⟩ = some (.string a1_2) := (kce BK107.out 2).trans rfl
           have hfz51_0 := kfr BK107.out 0
           have hfz51_1 := kfr BK107.out 1
           have hfz51_2 := kfr BK107.out 2
           go_wp2
           repeat (go_quiet (fail); try go_wp2)
           go_ret
           exact ⟨by first | rfl | (simp [errW_none, errW_some] <;> rfl) | (simp [*, errW_none, errW_some] <;> rfl), by repeat (first | (with_reducible first | exact HB.out | apply bal | apply pdn | apply bd1 | refine bst ?_ GE106.out | refine bst ?_ GE107.out) | exact HB.out)⟩
          ·replace c48 := Bool.eq_false_iff.mpr c48
           subst c48
           have H1 : (some false) = some r := by rw [if_neg (show ¬ (false = true) by decide)] at H; exact H
           clear H
           have H := H1
           clear H1
           obtain rfl := Option.some.inj H
           have hnb52 := NB106_107.out
           have hnc52 := NB107_106.out
           have hcz53_0 : wc.cell? ⟨gb106, 0, none⟩ = some (.int .i64 a0_0) := (kce BK106.out 0).trans rfl
           have hcz53_1 : wc.cell? ⟨gb106, 1, none⟩ = some (.int .i64 a0_1) := (kce BK106.out 1).trans rfl
           have hfz53_0 := kfr BK106.out 0
           have hfz53_1 := kfr BK106.out 1
           go_wp2
           repeat (go_quiet (fail); try go_wp2)
           go_ret
           exact ⟨by first | rfl | (simp [errW_none, errW_some] <;> rfl) | (simp [*, errW_none, errW_some] <;> rfl), by repeat (first | (with_reducible first | exact HB.out | apply bal | apply pdn | apply bd1 | refine bst ?_ GE106.out | refine bst ?_ GE107.out) | exact HB.out)⟩
         ·rw [if_neg c47] at H
          have c47b0 : (a0_0 == 1) = false := beq_eq_false_iff_ne.mpr c47
          have c47b1 : (a0_0 != 1) = true := bne_iff_ne.mpr c47
          obtain rfl := Option.some.inj H
          have hnb54 := NB106_107.out
          have hnc54 := NB107_106.out
          have hcz55_0 : wc.cell? ⟨gb106, 0, none⟩ = some (.int .i64 a0_0) := (kce BK106.out 0).trans rfl
          have hcz55_1 : wc.cell? ⟨gb106, 1, none⟩ = some (.int .i64 a0_1) := (kce BK106.out 1).trans rfl
          have hfz55_0 := kfr BK106.out 0
          have hfz55_1 := kfr BK106.out 1
          go_wp2
          repeat (go_quiet (fail); try go_wp2)
          go_ret
          exact ⟨by first | rfl | (simp [errW_none, errW_some] <;> rfl) | (simp [*, errW_none, errW_some] <;> rfl), by repeat (first | (with_reducible first | exact HB.out | apply bal | apply pdn | apply bd1 | refine bst ?_ GE106.out | refine bst ?_ GE107.out) | exact HB.out)⟩
        ·rw [if_neg c46] at H
         have c46b0 : (a1_0 == 5) = false := beq_eq_false_iff_ne.mpr c46
         have c46b1 : (a1_0 != 5) = true := bne_iff_ne.mpr c46
         obtain rfl := Option.some.inj H
         go_wp2
         repeat (go_quiet (fail); try go_wp2)
         go_ret
         exact ⟨by first | rfl | (simp [errW_none, errW_some] <;> rfl) | (simp [*, errW_none, errW_some] <;> rfl), by repeat (first | (with_reducible first | exact HB.out | apply bal | apply pdn | apply bd1 | refine bst ?_ GE106.out | refine bst ?_ GE107.out) | exact HB.out)⟩
 ·replace c4 := Bool.eq_false_iff.mpr c4
  subst c4
  have H1 : (some false) = some r := by rw [if_neg (show ¬ (false = true) by decide)] at H; exact H
  clear H
  have H := H1
  clear H1
  obtain rfl := Option.some.inj H
  go_enter Try.func53, Try.ntmps53
  go_wp2_with (first | ((with_reducible refine gate_dst (N := 2) rfl ?_); refine box_event ?hg (N := 2) ?hd (cs := #[.int .i64 a0_0, .int .i64 a0_1]) (t := 84) ?hr ?_; (case hd => rfl); (case hg => rfl); (case hr => first | (go_simp; done) | (go_simp; rfl)); intro gb106 hg w56 hbox hb; have n0_ := am (below_step (by repeat (first | (with_reducible first | exact HB.out | apply bal | apply pdn | apply bd1) | exact HB.out)) hb); have n1_ := am (hbox); have n2_ := am ((by rw [hg]; exact (below_size (by repeat (first | (with_reducible first | exact HB.out | apply bal | apply pdn | apply bd1) | exact HB.out))) : w.heap.size ≤ gb106)); have n3_ := am ((by rw [hg]; exact (below_size (by repeat (first | (with_reducible first | exact HB.out | apply bal | apply pdn | apply bd1) | exact HB.out))) : w.heap.size ≤ gb106)); clear HB; have HB := n0_; have BK106 := n1_; have GW106 := n2_; have GE106 := n3_; clear n0_ n1_ n2_ n3_; clear hb hbox hg) | ((with_reducible refine gate_dst (N := 3) rfl ?_); refine box_event ?hg (N := 3) ?hd (cs := #[.int .i64 a1_0, .int .i64 a1_1, .string a1_2]) (t := 60) ?hr ?_; (case hd => rfl); (case hg => rfl); (case hr => first | (go_simp; done) | (go_simp; rfl)); intro gb107 hg w57 hbox hb; have n0_ := am (kbb (g := gb106) (o := .cells #[.int .i64 a0_0, .int .i64 a0_1] 84 (0, 0)) (by (with_reducible repeat (first | apply kdn | apply kdr | apply kal)); exact BK106.out) hb); have n1_ := am (below_step (by repeat (first | (with_reducible first | exact HB.out | apply bal | apply pdn | apply bd1 | refine bst ?_ GE106.out) | exact HB.out)) hb); have n2_ := am (hbox); have n3_ := am ((by rw [hg]; exact (below_size (by repeat (first | (with_reducible first | exact HB.out | apply bal | apply pdn | apply bd1 | refine bst ?_ GE106.out) | exact HB.out))) : w.heap.size ≤ gb107)); have n4_ := am ((by rw [hg]; exact (below_size (by repeat (first | (with_reducible first | exact HB.out | apply bal | apply pdn | apply bd1 | refine bst ?_ GE106.out) | exact HB.out))) : w.heap.size ≤ gb107)); have n5_ := am ((by rw [hg]; exact Nat.ne_of_lt (blk_lt (g := gb106) (o := .cells #[.int .i64 a0_0, .int .i64 a0_1] 84 (0, 0)) (by (with_reducible repeat (first | apply kdn | apply kdr | apply kal)); exact BK106.out)) : gb106 ≠ gb107)); have n6_ := am ((by rw [hg]; exact Nat.ne_of_gt (blk_lt (g := gb106) (o := .cells #[.int .i64 a0_0, .int .i64 a0_1] 84 (0, 0)) (by (with_reducible repeat (first | apply kdn | apply kdr | apply kal)); exact BK106.out)) : gb107 ≠ gb106)); clear BK106; clear HB; have BK106 := n0_; have HB := n1_; have BK107 := n2_; have GW107 := n3_; have GE107 := n4_; have NB106_107 := n5_; have NB107_106 := n6_; clear n0_ n1_ n2_ n3_ n4_ n5_ n6_; clear hb hbox hg; have hnb58 := NB106_107.out; have hnc58 := NB107_106.out; have hcz59_0 : w57.cell? ⟨gb106, 0, none⟩ = some (.int .i64 a0_0) := (kce BK106.out 0).trans rfl; have hcz59_1 : w57.cell? ⟨gb106, 1, none⟩ = some (.int .i64 a0_1) := (kce BK106.out 1).trans rfl; have hfz59_0 := kfr BK106.out 0; have hfz59_1 := kfr BK106.out 1) | (go_at_call 101; (with_reducible refine (spec_CodeOk.calls a0_0 a0_1 false _ A3.out).mono ?_); rintro e w60 ⟨rfl, hb⟩; have n0_ := am (kbb (g := gb106) (o := .cells #[.int .i64 a0_0, .int .i64 a0_1] 84 (0, 0)) (by (with_reducible repeat (first | apply kdn | apply kdr | apply kal)); exact BK106.out) hb); have n1_ := am (kbb (g := gb107) (o := .cells #[.int .i64 a1_0, .int .i64 a1_1, .string a1_2] 60 (0, 0)) (by (with_reducible repeat (first | apply kdn | apply kdr | apply kal)); exact BK107.out) hb); have n2_ := am (below_step (by repeat (first | (with_reducible first | exact HB.out | apply bal | apply pdn | apply bd1 | refine bst ?_ GE106.out | refine bst ?_ GE107.out) | exact HB.out)) hb); clear BK106; clear BK107; clear HB; have BK106 := n0_; have BK107 := n1_; have HB := n2_; clear n0_ n1_ n2_; (try clear hb); (try clear hb2); (try clear hk); (try clear hi)))
  repeat (go_quiet (first | ((with_reducible refine gate_dst (N := 2) rfl ?_); refine box_event ?hg (N := 2) ?hd (cs := #[.int .i64 a0_0, .int .i64 a0_1]) (t := 84) ?hr ?_; (case hd => rfl); (case hg => rfl); (case hr => first | (go_simp; done) | (go_simp; rfl)); intro gb106 hg w56 hbox hb; have n0_ := am (below_step (by repeat (first | (with_reducible first | exact HB.out | apply bal | apply pdn | apply bd1) | exact HB.out)) hb); have n1_ := am (hbox); have n2_ := am ((by rw [hg]; exact (below_size (by repeat (first | (with_reducible first | exact HB.out | apply bal | apply pdn | apply bd1) | exact HB.out))) : w.heap.size ≤ gb106)); have n3_ := am ((by rw [hg]; exact (below_size (by repeat (first | (with_reducible first | exact HB.out | apply bal | apply pdn | apply bd1) | exact HB.out))) : w.heap.size ≤ gb106)); clear HB; have HB := n0_; have BK106 := n1_; have GW106 := n2_; have GE106 := n3_; clear n0_ n1_ n2_ n3_; clear hb hbox hg) | ((with_reducible refine gate_dst (N := 3) rfl ?_); refine box_event ?hg (N := 3) ?hd (cs := #[.int .i64 a1_0, .int .i64 a1_1, .string a1_2]) (t := 60) ?hr ?_; (case hd => rfl); (case hg => rfl); (case hr => first | (go_simp; done) | (go_simp; rfl)); intro gb107 hg w57 hbox hb; have n0_ := am (kbb (g := gb106) (o := .cells #[.int .i64 a0_0, .int .i64 a0_1] 84 (0, 0)) (by (with_reducible repeat (first | apply kdn | apply kdr | apply kal)); exact BK106.out) hb); have n1_ := am (below_step (by repeat (first | (with_reducible first | exact HB.out | apply bal | apply pdn | apply bd1 | refine bst ?_ GE106.out) | exact HB.out)) hb); have n2_ := am (hbox); have n3_ := am ((by rw [hg]; exact (below_size (by repeat (first | (with_reducible first | exact HB.out | apply bal | apply pdn | apply bd1 | refine bst ?_ GE106.out) | exact HB.out))) : w.heap.size ≤ gb107)); have n4_ := am ((by rw [hg]; exact (below_size (by repeat (first | (with_reducible first | exact HB.out | apply bal | apply pdn | apply bd1 | refine bst ?_ GE106.out) | exact HB.out))) : w.heap.size ≤ gb107)); have n5_ := am ((by rw [hg]; exact Nat.ne_of_lt (blk_lt (g := gb106) (o := .cells #[.int .i64 a0_0, .int .i64 a0_1] 84 (0, 0)) (by (with_reducible repeat (first | apply kdn | apply kdr | apply kal)); exact BK106.out)) : gb106 ≠ gb107)); have n6_ := am ((by rw [hg]; exact Nat.ne_of_gt (blk_lt (g := gb106) (o := .cells #[.int .i64 a0_0, .int .i64 a0_1] 84 (0, 0)) (by (with_reducible repeat (first | apply kdn | apply kdr | apply kal)); exact BK106.out)) : gb107 ≠ gb106)); clear BK106; clear HB; have BK106 := n0_; have HB := n1_; have BK107 := n2_; have GW107 := n3_; have GE107 := n4_; have NB106_107 := n5_; have NB107_106 := n6_; clear n0_ n1_ n2_ n3_ n4_ n5_ n6_; clear hb hbox hg; have hnb58 := NB106_107.out; have hnc58 := NB107_106.out; have hcz59_0 : w57.cell? ⟨gb106, 0, none⟩ = some (.int .i64 a0_0) := (kce BK106.out 0).trans rfl; have hcz59_1 : w57.cell? ⟨gb106, 1, none⟩ = some (.int .i64 a0_1) := (kce BK106.out 1).trans rfl; have hfz59_0 := kfr BK106.out 0; have hfz59_1 := kfr BK106.out 1) | (go_at_call 101; (with_reducible refine (spec_CodeOk.calls a0_0 a0_1 false _ A3.out).mono ?_); rintro e w60 ⟨rfl, hb⟩; have n0_ := am (kbb (g := gb106) (o := .cells #[.int .i64 a0_0, .int .i64 a0_1] 84 (0, 0)) (by (with_reducible repeat (first | apply kdn | apply kdr | apply kal)); exact BK106.out) hb); have n1_ := am (kbb (g := gb107) (o := .cells #[.int .i64 a1_0, .int .i64 a1_1, .string a1_2] 60 (0, 0)) (by (with_reducible repeat (first | apply kdn | apply kdr | apply kal)); exact BK107.out) hb); have n2_ := am (below_step (by repeat (first | (with_reducible first | exact HB.out | apply bal | apply pdn | apply bd1 | refine bst ?_ GE106.out | refine bst ?_ GE107.out) | exact HB.out)) hb); clear BK106; clear BK107; clear HB; have BK106 := n0_; have BK107 := n1_; have HB := n2_; clear n0_ n1_ n2_; (try clear hb); (try clear hb2); (try clear hk); (try clear hi))); try go_wp2_with (first | ((with_reducible refine gate_dst (N := 2) rfl ?_); refine box_event ?hg (N := 2) ?hd (cs := #[.int .i64 a0_0, .int .i64 a0_1]) (t := 84) ?hr ?_; (case hd => rfl); (case hg => rfl); (case hr => first | (go_simp; done) | (go_simp; rfl)); intro gb106 hg w56 hbox hb; have n0_ := am (below_step (by repeat (first | (with_reducible first | exact HB.out | apply bal | apply pdn | apply bd1) | exact HB.out)) hb); have n1_ := am (hbox); have n2_ := am ((by rw [hg]; exact (below_size (by repeat (first | (with_reducible first | exact HB.out | apply bal | apply pdn | apply bd1) | exact HB.out))) : w.heap.size ≤ gb106)); have n3_ := am ((by rw [hg]; exact (below_size (by repeat (first | (with_reducible first | exact HB.out | apply bal | apply pdn | apply bd1) | exact HB.out))) : w.heap.size ≤ gb106)); clear HB; have HB := n0_; have BK106 := n1_; have GW106 := n2_; have GE106 := n3_; clear n0_ n1_ n2_ n3_; clear hb hbox hg) | ((with_reducible refine gate_dst (N := 3) rfl ?_); refine box_event ?hg (N := 3) ?hd (cs := #[.int .i64 a1_0, .int .i64 a1_1, .string a1_2]) (t := 60) ?hr ?_; (case hd => rfl); (case hg => rfl); (case hr => first | (go_simp; done) | (go_simp; rfl)); intro gb107 hg w57 hbox hb; have n0_ := am (kbb (g := gb106) (o := .cells #[.int .i64 a0_0, .int .i64 a0_1] 84 (0, 0)) (by (with_reducible repeat (first | apply kdn | apply kdr | apply kal)); exact BK106.out) hb); have n1_ := am (below_step (by repeat (first | (with_reducible first | exact HB.out | apply bal | apply pdn | apply bd1 | refine bst ?_ GE106.out) | exact HB.out)) hb); have n2_ := am (hbox); have n3_ := am ((by rw [hg]; exact (below_size (by repeat (first | (with_reducible first | exact HB.out | apply bal | apply pdn | apply bd1 | refine bst ?_ GE106.out) | exact HB.out))) : w.heap.size ≤ gb107)); have n4_ := am ((by rw [hg]; exact (below_size (by repeat (first | (with_reducible first | exact HB.out | apply bal | apply pdn | apply bd1 | refine bst ?_ GE106.out) | exact HB.out))) : w.heap.size ≤ gb107)); have n5_ := am ((by rw [hg]; exact Nat.ne_of_lt (blk_lt (g := gb106) (o := .cells #[.int .i64 a0_0, .int .i64 a0_1] 84 (0, 0)) (by (with_reducible repeat (first | apply kdn | apply kdr | apply kal)); exact BK106.out)) : gb106 ≠ gb107)); have n6_ := am ((by rw [hg]; exact Nat.ne_of_gt (blk_lt (g := gb106) (o := .cells #[.int .i64 a0_0, .int .i64 a0_1] 84 (0, 0)) (by (with_reducible repeat (first | apply kdn | apply kdr | apply kal)); exact BK106.out)) : gb107 ≠ gb106)); clear BK106; clear HB; have BK106 := n0_; have HB := n1_; have BK107 := n2_; have GW107 := n3_; have GE107 := n4_; have NB106_107 := n5_; have NB107_106 := n6_; clear n0_ n1_ n2_ n3_ n4_ n5_ n6_; clear hb hbox hg; have hnb58 := NB106_107.out; have hnc58 := NB107_106.out; have hcz59_0 : w57.cell? ⟨gb106, 0, none⟩ = some (.int .i64 a0_0) := (kce BK106.out 0).trans rfl; have hcz59_1 : w57.cell? ⟨gb106, 1, none⟩ = some (.int .i64 a0_1) := (kce BK106.out 1).trans rfl; have hfz59_0 := kfr BK106.out 0; have hfz59_1 := kfr BK106.out 1) | (go_at_call 101; (with_reducible refine (spec_CodeOk.calls a0_0 a0_1 false _ A3.out).mono ?_); rintro e w60 ⟨rfl, hb⟩; have n0_ := am (kbb (g := gb106) (o := .cells #[.int .i64 a0_0, .int .i64 a0_1] 84 (0, 0)) (by (with_reducible repeat (first | apply kdn | apply kdr | apply kal)); exact BK106.out) hb); have n1_ := am (kbb (g := gb107) (o := .cells #[.int .i64 a1_0, .int .i64 a1_1, .string a1_2] 60 (0, 0)) (by (with_reducible repeat (first | apply kdn | apply kdr | apply kal)); exact BK107.out) hb); have n2_ := am (below_step (by repeat (first | (with_reducible first | exact HB.out | apply bal | apply pdn | apply bd1 | refine bst ?_ GE106.out | refine bst ?_ GE107.out) | exact HB.out)) hb); clear BK106; clear BK107; clear HB; have BK106 := n0_; have BK107 := n1_; have HB := n2_; clear n0_ n1_ n2_; (try clear hb); (try clear hb2); (try clear hk); (try clear hi))))
  go_ret
  exact ⟨by first | rfl | (simp [errW_none, errW_some] <;> rfl) | (simp [*, errW_none, errW_some] <;> rfl), by repeat (first | (with_reducible first | exact HB.out | apply bal | apply pdn | apply bd1 | refine bst ?_ GE106.out | refine bst ?_ GE107.out) | exact HB.out)⟩

/-! ### spec_l16Plain: function 83 -/
def spec_l16Plain.f  : Option (Int × Int) := some (1, 0)
set_option maxHeartbeats 8000000 in
set_option maxRecDepth 100000 in
theorem spec_l16Plain.calls  (r1 : Int) (r2 : Int) (w : World) (h : spec_l16Plain.f  = some (r1, r2)) :
  Calls Try.prog 83 #[] w fun e w' => e = .returned (.agg #[.int .i64 r1, .int .i64 r2]) ∧ Below w.heap.size w w' := by
 have hu84 := Try.underlying84
 have HB := am (Below.refl w.heap.size w)
 have H : (some (1, 0)) = some (r1, r2) := h
 clear h
 simp only [Option.some.injEq, Prod.mk.injEq] at H
 obtain ⟨rfl, rfl⟩ := H
 go_enter Try.func83, Try.ntmps83
 go_wp2_with (first | ((with_reducible refine gate_dst (N := 0) rfl ?_); refine box_event ?hg (N := 0) ?hd (cs := #[.int .i64 0, .int .i64 0]) (t := 84) ?hr ?_; (case hd => rfl); (case hg => rfl); (case hr => first | (go_simp; done) | (go_simp; rfl)); intro gb110 hg w1 hbox hb; have n0_ := am (below_step (by repeat (first | (with_reducible first | exact HB.out | apply bal | apply pdn | apply bd1) | exact HB.out)) hb); have n1_ := am (hbox); have n2_ := am ((by rw [hg]; exact (below_size (by repeat (first | (with_reducible first | exact HB.out | apply bal | apply pdn | apply bd1) | exact HB.out))) : w.heap.size ≤ gb110)); have n3_ := am ((by rw [hg]; exact (below_size (by repeat (first | (with_reducible first | exact HB.out | apply bal | apply pdn | apply bd1) | exact HB.out))) : w.heap.size ≤ gb110)); clear HB; have HB := n0_; have BK110 := n1_; have GW110 := n2_; have GE110 := n3_; clear n0_ n1_ n2_ n3_; clear hb hbox hg; have hcz2_0 : w1.cell? ⟨gb110, 0, none⟩ = some (.int .i64 0) := (kce BK110.out 0).trans rfl; have hcz2_1 : w1.cell? ⟨gb110, 1, none⟩ = some (.int .i64 0) := (kce BK110.out 1).trans rfl; have hfz2_0 := kfr BK110.out 0; have hfz2_1 := kfr BK110.out 1))
 refine bodyPost_ret (results_cell_row rfl _ _ gb110 84 #[.int .i64 1, .int .i64 0] (0, 0) _ rfl (by (with_reducible repeat (first | apply kdn | apply kdr | apply kal)); refine blk_put (cs := #[.int .i64 1, .int .i64 0]) ?_ 1 _ rfl; (with_reducible repeat (first | apply kdn | apply kdr | apply kal)); refine blk_put (cs := #[.int .i64 0, .int .i64 0]) ?_ 0 _ rfl; (with_reducible repeat (first | apply kdn | apply kdr | apply kal)); exact BK110.out) Try.underlying84 rfl (by kernel_rfl)) rfl ?_
 exact ⟨by first | rfl | (simp [errW_none, errW_some] <;> rfl) | (simp [*, errW_none, errW_some] <;> rfl), by repeat (first | (with_reducible first | exact HB.out | apply bal | apply pdn | apply bd1 | refine bst ?_ GE110.out) | exact HB.out)⟩

/-! ### spec_l01Get: function 131 -/
mutual
def spec_l01Get.l0 : Nat → ByteArray → Int → Int → Int → Int → Option (Int × Int × Bool)
 | 0, _, _, _, _, _ => none
 | k + 1, x0, x1, x7, x8, x9 => if x9 < (x0.size : Int) then (spec_l01Get.j1 k x0 x1 x7 x8 x9 (decide (x9 < (wrap64 (x1 + 9))))) else (spec_l01Get.j1 k x0 x1 x7 x8 x9 false)
def spec_l01Get.j1 : Nat → ByteArray → Int → Int → Int → Int → Bool → Option (Int × Int × Bool)
 | 0, _, _, _, _, _, _ => none
 | k + 1, x0, x1, x7, x8, x9, x21 => if x21 = true then (if 0 ≤ x9 then (if x9 < (x0.size : Int) then (if x9 = (wrap64 (x1 + 8)) then (spec_l01Get.j2 k x0 x1 x7 x8 x9 (wrap64 (bt x0 x9)) (decide ((wrap64 (bt x0 x9)) > 64))) else (spec_l01Get.j2 k x0 x1 x7 x8 x9 (wrap64 (bt x0 x9)) false)) else (none)) else (none)) else (some (0, 0, false))
def spec_l01Get.j2 : Nat → ByteArray → Int → Int → Int → Int → Int → Bool → Option (Int × Int × Bool)
 | 0, _, _, _, _, _, _, _ => none
 | k + 1, x0, x1, x7, x8, x9, x10, x35 => if x35 = true then (some (0, 0, false)) else (if x10 < 128 then (if x10 = 0 then (if x9 > x1 then (some (0, 0, false)) else (if (wrap64 (x7 + (wrap64 ((Int.tmod x10 128) * x8)))) > 4611686018427387904 then (some (0, 0, false)) else (some (wrap64 (x7 + (wrap64 ((Int.tmod x10 128) * x8))), wrap64 (x9 + 1), true)))) else (if (wrap64 (x7 + (wrap64 ((Int.tmod x10 128) * x8)))) > 4611686018427387904 then (some (0, 0, false)) else (some (wrap64 (x7 + (wrap64 ((Int.tmod x10 128) * x8))), wrap64 (x9 + 1), true)))) else (spec_l01Get.l0 k x0 x1 (wrap64 (x7 + (wrap64 ((Int.tmod x10 128) * x8)))) (wrap64 (x8 * 128)) (wrap64 (x9 + 1))))
end
def spec_l01Get.f (k : Nat) (a0 : ByteArray) (a1 : Int) : Option (Int × Int × Bool) := spec_l01Get.l0 k a0 a1 0 1 a1
theorem spec_l01Get.mono_l : ∀ k, (∀ y0 y1 y2 y3 y4, LeO (spec_l01Get.l0 k y0 y1 y2 y3 y4) (spec_l01Get.l0 (k + 1) y0 y1 y2 y3 y4)) ∧ (∀ y0 y1 y2 y3 y4 y5, LeO (spec_l01Get.j1 k y0 y1 y2 y3 y4 y5) (spec_l01Get.j1 (k + 1) y0 y1 y2 y3 y4 y5)) ∧ (∀ y0 y1 y2 y3 y4 y5 y6, LeO (spec_l01Get.j2 k y0 y1 y2 y3 y4 y5 y6) (spec_l01Get.j2 (k + 1) y0 y1 y2 y3 y4 y5 y6))
 | 0 => ⟨fun _ _ _ _ _ r h => by simp [spec_l01Get.l0] at h, fun _ _ _ _ _ _ r h => by simp [spec_l01Get.j1] at h, fun _ _ _ _ _ _ _ r h => by simp [spec_l01Get.j2] at h⟩
 | k + 1 => by
  obtain ⟨ih0, ih1, ih2⟩ := spec_l01Get.mono_l k
  refine ⟨?_, ?_, ?_⟩
  ·intro y0 y1 y2 y3 y4
   unfold spec_l01Get.l0
   repeat' first
   | (with_reducible exact ih0 _ _ _ _ _)
   | (with_reducible exact ih1 _ _ _ _ _ _)
   | (with_reducible exact ih2 _ _ _ _ _ _ _)
   | (with_reducible exact LeO.refl _)
   | (with_reducible exact LeO.none _)
   | (with_reducible refine LeO.ite ?_ ?_)
   | (with_reducible refine LeO.bind ?_ (fun _ => ?_))
   | exact ih0 _ _ _ _ _
   | exact ih1 _ _ _ _ _ _
   | exact ih2 _ _ _ _ _ _ _
   | exact LeO.none _
   | refine LeO.ite ?_ ?_
   | refine LeO.bind ?_ (fun _ => ?_)
  ·intro y0 y1 y2 y3 y4 y5
   unfold spec_l01Get.j1
   repeat' first
   | (with_reducible exact ih0 _ _ _ _ _)
   | (with_reducible exact ih1 _ _ _ _ _ _)
   | (with_reducible exact ih2 _ _ _ _ _ _ _)
   | (with_reducible exact LeO.refl _)
   | (with_reducible exact LeO.none _)
   | (with_reducible refine LeO.ite ?_ ?_)
   | (with_reducible refine LeO.bind ?_ (fun _ => ?_))
   | exact ih0 _ _ _ _ _
   | exact ih1 _ _ _ _ _ _
   | exact ih2 _ _ _ _ _ _ _
   | exact LeO.none _
   | refine LeO.ite ?_ ?_
   | refine LeO.bind ?_ (fun _ => ?_)
  ·intro y0 y1 y2 y3 y4 y5 y6
   unfold spec_l01Get.j2
   repeat' first
   | (with_reducible exact ih0 _ _ _ _ _)
   | (with_reducible exact ih1 _ _ _ _ _ _)
   | (with_reducible exact ih2 _ _ _ _ _ _ _)
   | (with_reducible exact LeO.refl _)
   | (with_reducible exact LeO.none _)
   | (with_reducible refine LeO.ite ?_ ?_)
   | (with_reducible refine LeO.bind ?_ (fun _ => ?_))
   | exact ih0 _ _ _ _ _
   | exact ih1 _ _ _ _ _ _
   | exact ih2 _ _ _ _ _ _ _
   | exact LeO.none _
   | refine LeO.ite ?_ ?_
   | refine LeO.bind ?_ (fun _ => ?_)
theorem spec_l01Get.mono : ∀ a0 a1 k, LeO (spec_l01Get.f k a0 a1) (spec_l01Get.f (k + 1) a0 a1) := by
 intro a0 a1 k
 obtain ⟨ih0, ih1, ih2⟩ := spec_l01Get.mono_l k
 unfold spec_l01Get.f
 repeat' first
   | (with_reducible exact ih0 _ _ _ _ _)
   | (with_reducible exact ih1 _ _ _ _ _ _)
   | (with_reducible exact ih2 _ _ _ _ _ _ _)
   | (with_reducible exact LeO.refl _)
   | (with_reducible exact LeO.none _)
   | (with_reducible refine LeO.ite ?_ ?_)
   | (with_reducible refine LeO.bind ?_ (fun _ => ?_))
   | exact ih0 _ _ _ _ _
   | exact ih1 _ _ _ _ _ _
   | exact ih2 _ _ _ _ _ _ _
   | exact LeO.none _
   | refine LeO.ite ?_ ?_
   | refine LeO.bind ?_ (fun _ => ?_)
set_option maxHeartbeats 8000000 in
set_option maxRecDepth 100000 in
theorem spec_l01Get.calls (k : Nat) (a0 : ByteArray) (a1 : Int) (r1 : Int) (r2 : Int) (r3 : Bool) (w : World) (h : spec_l01Get.f k a0 a1 = some (r1, r2, r3)) :
  Calls Try.prog 131 #[.string a0, .int .i64 a1] w fun e w' => e = .returned (.tuple #[.int .i64 r1, .int .i64 r2, .bool r3]) ∧ Drawn0 w w' := by
 have H : (spec_l01Get.l0 k a0 a1 0 1 a1) = some (r1, r2, r3) := h
 clear h
 have H' := am H
 clear H
 go_enter Try.func131, Try.ntmps131
 go_wp2
 go_loopg [7, 8, 9] k (fun kq v7 v8 v9 w' => ∃ (x7_1 : Int) (x8_1 : Int) (x9_1 : Int), v7 = .int .i64 x7_1 ∧ v8 = .int .i64 x8_1 ∧ v9 = .int .i64 x9_1 ∧ Aside0 (spec_l01Get.l0 kq a0 a1 x7_1 x8_1 x9_1 = some (r1, r2, r3)) ∧ Aside0 (kq ≤ k) ∧ Drawn0 w w')
 case atStart => exact ⟨(0), (1), (a1), (by first | rfl | (simp; done) | (simp [*]; done)), (by first | rfl | (simp; done) | (simp [*]; done)), (by first | rfl | (simp; done) | (simp [*]; done)), H', ⟨Nat.le_refl _⟩, by repeat (first | exact Drawn0.refl _ | apply Drawn0.step)⟩
 case round =>
  clear H'
  obtain ⟨x7_1, x8_1, x9_1, rfl, rfl, rfl, HA, HK1, ⟨m1, rfl⟩⟩ := hrel
  cases gk with
  | zero => exact absurd HA.out (by simp [spec_l01Get.l0])
  | succ k1 =>
   have H := HA.out
   clear HA
   simp only [spec_l01Get.l0] at H
   have HC3 := am H
   clear H
   go_upto_region 4 with (fail)
   go_cut [21] (fun v21 wc => ∃ (kq : Nat) (x21_2 : Bool), v21 = .bool x21_2 ∧ Aside0 (spec_l01Get.j1 kq a0 a1 x7_1 x8_1 x9_1 x21_2 = some (r1, r2, r3)) ∧ Aside0 (kq ≤ k1) ∧ Drawn0 w wc)
   case first =>
    have H := HC3.out
    clear HC3
    by_cases c4 : x9_1 < (a0.size : Int)
    ·rw [if_pos c4] at H
     have c4b0 : decide (x9_1 < (a0.size : Int)) = true := decide_eq_true c4
     clear c4
     (first | rw [c4b0] | (simp only [i64_w, i32_w]; rw [c4b0]) | skip)
     have H' := am H
     clear H
     go_wp2
     go_meet
     case rel => exact ⟨_, (decide (x9_1 < (wrap64 (a1 + 9)))), (by first | rfl | (simp; done) | (simp [*]; done)), H', ⟨by have := HK1.out; first | omega | exact Nat.le_refl _⟩, by repeat (first | exact Drawn0.refl _ | apply Drawn0.step)⟩
    ·rw [if_neg c4] at H
     have c4b0 : decide (x9_1 < (a0.size : Int)) = false := decide_eq_false c4
     clear c4
     (first | rw [c4b0] | (simp only [i64_w, i32_w]; rw [c4b0]) | skip)
     have H' := am H
     clear H
     go_wp2
     go_meet
     case rel => exact ⟨_, (false), (by first | rfl | (simp; done) | (simp [*]; done)), H', ⟨by have := HK1.out; first | omega | exact Nat.le_refl _⟩, by repeat (first | exact Drawn0.refl _ | apply Drawn0.step)⟩
   case rest =>
    clear HC3
    obtain ⟨kq, x21_2, rfl, HA, HJ2, ⟨mc2, rfl⟩⟩ := hcut
    cases kq with
    | zero => exact absurd HA.out (by simp [spec_l01Get.j1])
    | succ kj2 =>
     have H := HA.out
     clear HA
     simp only [spec_l01Get.j1] at H
     by_cases c5 : x21_2 = true
     ·subst c5
      have H1 : (if 0 ≤ x9_1 then (if x9_1 < (a0.size : Int) then (if x9_1 = (wrap64 (a1 + 8)) then (spec_l01Get.j2 kj2 a0 a1 x7_1 x8_1 x9_1 (wrap64 (bt a0 x9_1)) (decide ((wrap64 (bt a0 x9_1)) > 64))) else (spec_l01Get.j2 kj2 a0 a1 x7_1 x8_1 x9_1 (wrap64 (bt a0 x9_1)) false)) else (none)) else (none)) = some (r1, r2, r3) := by rw [if_pos rfl] at H; exact H
      clear H
      have H := H1
      clear H1
      by_cases c6 : 0 ≤ x9_1
      ·rw [if_pos c6] at H
       have c6b0 : decide (0 ≤ x9_1) = true := decide_eq_true c6
       clear c6
       by_cases c7 : x9_1 < (a0.size : Int)
       ·rw [if_pos c7] at H
        have c7b0 : decide (x9_1 < (a0.size : Int)) = true := decide_eq_true c7
        clear c7
        have HC9 := am H
        clear H
        have p8 : 0 ≤ (x9_1 : Int) := of_decide_eq_true (by first | (with_reducible assumption) | assumption)
        have q8 : x9_1 < (a0.size : Int) := of_decide_eq_true (by first | (with_reducible assumption) | assumption)
        have hx8 := bt_at a0 x9_1
        replace p8 := eq_true p8
        replace q8 := eq_true q8
        go_upto_region 7 with (fail)
        go_cut [35] (fun v35 wc => ∃ (kq : Nat) (x35_8 : Bool), v35 = .bool x35_8 ∧ Aside0 (spec_l01Get.j2 kq a0 a1 x7_1 x8_1 x9_1 (wrap64 (bt a0 x9_1)) x35_8 = some (r1, r2, r3)) ∧ Aside0 (kq ≤ kj2) ∧ Drawn0 w wc)
        case first =>
         have H := HC9.out
         clear HC9
         by_cases c10 : x9_1 = (wrap64 (a1 + 8))
         ·rw [if_pos c10] at H
          have c10b0 : (x9_1 == (wrap64 (a1 + 8))) = true := beq_iff_eq.mpr c10
          have c10b1 : (x9_1 != (wrap64 (a1 + 8))) = false := bne_eq_false_iff_eq.mpr c10
          clear c10
          (first | rw [c10b0] | (simp only [i64_w, i32_w]; rw [c10b0]) | skip)
          have H' := am H
          clear H
          go_wp2
          go_meet
          case rel => exact ⟨_, (decide ((wrap64 (bt a0 x9_1)) > 64)), (by first | rfl | (simp; done) | (simp [*]; done)), H', ⟨by have := HK1.out; have := HJ2.out; first | omega | exact Nat.le_refl _⟩, by repeat (first | exact Drawn0.refl _ | apply Drawn0.step)⟩
         ·rw [if_neg c10] at H
          have c10b0 : (x9_1 == (wrap64 (a1 + 8))) = false := beq_eq_false_iff_ne.mpr c10
          have c10b1 : (x9_1 != (wrap64 (a1 + 8))) = true := bne_iff_ne.mpr c10
          (first | rw [c10b0] | (simp only [i64_w, i32_w]; rw [c10b0]) | skip)
          have H' := am H
          clear H
          go_wp2
          go_meet
          case rel => exact ⟨_, (false), (by first | rfl | (simp; done) | (simp [*]; done)), H', ⟨by have := HK1.out; have := HJ2.out; first | omega | exact Nat.le_refl _⟩, by repeat (first | exact Drawn0.refl _ | apply Drawn0.step)⟩
        case rest =>
         clear HC9
         obtain ⟨kq, x35_8, rfl, HA, HJ8, ⟨mc8, rfl⟩⟩ := hcut
         cases kq with
         | zero => exact absurd HA.out (by simp [spec_l01Get.j2])
         | succ kj8 =>
          have H := HA.out
          clear HA
          simp only [spec_l01Get.j2] at H
          by_cases c11 : x35_8 = true
          ·subst c11
           have H1 : (some (0, 0, false)) = some (r1, r2, r3) := by rw [if_pos rfl] at H; exact H
           clear H
           have H := H1
           clear H1
           simp only [Option.some.injEq, Prod.mk.injEq] at H
           obtain ⟨rfl, rfl, rfl⟩ := H
           go_wp2
           go_ret3
           exact ⟨by first | rfl | (simp; done) | (simp [*]; done), by repeat (first | exact Drawn0.refl _ | apply Drawn0.step)⟩
          ·replace c11 := Bool.eq_false_iff.mpr c11
           subst c11
           have H1 : (if (wrap64 (bt a0 x9_1)) < 128 then (if (wrap64 (bt a0 x9_1)) = 0 then (if x9_1 > a1 then (some (0, 0, false)) else (if (wrap64 (x7_1 + (wrap64 ((Int.tmod (wrap64 (bt a0 x9_1)) 128) * x8_1)))) > 4611686018427387904 then (some (0, 0, false)) else (some (wrap64 (x7_1 + (wrap64 ((Int.tmod (wrap64 (bt a0 x9_1)) 128) * x8_1))), wrap64 (x9_1 + 1), true)))) else (if (wrap64 (x7_1 + (wrap64 ((Int.tmod (wrap64 (bt a0 x9_1)) 128) * x8_1)))) > 4611686018427387904 then (some (0, 0, false)) else (some (wrap64 (x7_1 + (wrap64 ((Int.tmod (wrap64 (bt a0 x9_1)) 128) * x8_1))), wrap64 (x9_1 + 1), true)))) else (spec_l01Get.l0 kj8 a0 a1 (wrap64 (x7_1 + (wrap64 ((Int.tmod (wrap64 (bt a0 x9_1)) 128) * x8_1)))) (wrap64 (x8_1 * 128)) (wrap64 (x9_1 + 1)))) = some (r1, r2, r3) := by rw [if_neg (show ¬ (false = true) by decide)] at H; exact H
           clear H
           have H := H1
           clear H1
           by_cases c12 : (wrap64 (bt a0 x9_1)) < 128
           ·rw [if_pos c12] at H
            have c12b0 : decide ((wrap64 (bt a0 x9_1)) < 128) = true := decide_eq_true c12
            clear c12
            by_cases c13 : (wrap64 (bt a0 x9_1)) = 0
            ·rw [if_pos c13] at H
             have c13b0 : ((wrap64 (bt a0 x9_1)) == 0) = true := beq_iff_eq.mpr c13
             have c13b1 : ((wrap64 (bt a0 x9_1)) != 0) = false := bne_eq_false_iff_eq.mpr c13
             clear c13
             by_cases c14 : x9_1 > a1
             ·rw [if_pos c14] at H
              have c14b0 : decide (a1 < x9_1) = true := decide_eq_true c14
              clear c14
              simp only [Option.some.injEq, Prod.mk.injEq] at H
              obtain ⟨rfl, rfl, rfl⟩ := H
              go_wp2
              go_ret3
              exact ⟨by first | rfl | (simp; done) | (simp [*]; done), by repeat (first | exact Drawn0.refl _ | apply Drawn0.step)⟩
             ·rw [if_neg c14] at H
              have c14b0 : decide (a1 < x9_1) = false := decide_eq_false c14
              clear c14
              by_cases c15 : (wrap64 (x7_1 + (wrap64 ((Int.tmod (wrap64 (bt a0 x9_1)) 128) * x8_1)))) > 4611686018427387904
              ·rw [if_pos c15] at H
               have c15b0 : decide (4611686018427387904 < (wrap64 (x7_1 + (wrap64 ((Int.tmod (wrap64 (bt a0 x9_1)) 128) * x8_1))))) = true := decide_eq_true c15
               clear c15
               simp only [Option.some.injEq, Prod.mk.injEq] at H
               obtain ⟨rfl, rfl, rfl⟩ := H
               go_wp2
               go_ret3
               exact ⟨by first | rfl | (simp; done) | (simp [*]; done), by repeat (first | exact Drawn0.refl _ | apply Drawn0.step)⟩
              ·rw [if_neg c15] at H
               have c15b0 : decide (4611686018427387904 < (wrap64 (x7_1 + (wrap64 ((Int.tmod (wrap64 (bt a0 x9_1)) 128) * x8_1))))) = false := decide_eq_false c15
               clear c15
               simp only [Option.some.injEq, Prod.mk.injEq] at H
               obtain ⟨rfl, rfl, rfl⟩ := H
               go_wp2
               go_ret3
               exact ⟨by first | rfl | (simp; done) | (simp [*]; done), by repeat (first | exact Drawn0.refl _ | apply Drawn0.step)⟩
            ·rw [if_neg c13] at H
             have c13b0 : ((wrap64 (bt a0 x9_1)) == 0) = false := beq_eq_false_iff_ne.mpr c13
             have c13b1 : ((wrap64 (bt a0 x9_1)) != 0) = true := bne_iff_ne.mpr c13
             by_cases c16 : (wrap64 (x7_1 + (wrap64 ((Int.tmod (wrap64 (bt a0 x9_1)) 128) * x8_1)))) > 4611686018427387904
             ·rw [if_pos c16] at H
              have c16b0 : decide (4611686018427387904 < (wrap64 (x7_1 + (wrap64 ((Int.tmod (wrap64 (bt a0 x9_1)) 128) * x8_1))))) = true := decide_eq_true c16
              clear c16
              simp only [Option.some.injEq, Prod.mk.injEq] at H
              obtain ⟨rfl, rfl, rfl⟩ := H
              go_wp2
              go_ret3
              exact ⟨by first | rfl | (simp; done) | (simp [*]; done), by repeat (first | exact Drawn0.refl _ | apply Drawn0.step)⟩
             ·rw [if_neg c16] at H
              have c16b0 : decide (4611686018427387904 < (wrap64 (x7_1 + (wrap64 ((Int.tmod (wrap64 (bt a0 x9_1)) 128) * x8_1))))) = false := decide_eq_false c16
              clear c16
              simp only [Option.some.injEq, Prod.mk.injEq] at H
              obtain ⟨rfl, rfl, rfl⟩ := H
              go_wp2
              go_ret3
              exact ⟨by first | rfl | (simp; done) | (simp [*]; done), by repeat (first | exact Drawn0.refl _ | apply Drawn0.step)⟩
           ·rw [if_neg c12] at H
            have c12b0 : decide ((wrap64 (bt a0 x9_1)) < 128) = false := decide_eq_false c12
            clear c12
            have H' := am H
            clear H
            go_wp2
            go_roundg kj8
            case measure => have := HK1.out; have := HJ2.out; have := HJ8.out; omega
            case rel => exact ⟨(wrap64 (x7_1 + (wrap64 ((Int.tmod (wrap64 (bt a0 x9_1)) 128) * x8_1)))), (wrap64 (x8_1 * 128)), (wrap64 (x9_1 + 1)), (by first | rfl | (simp; done) | (simp [*]; done)), (by first | rfl | (simp; done) | (simp [*]; done)), (by first | rfl | (simp; done) | (simp [*]; done)), H', ⟨by have := HK1.out; have := HJ2.out; have := HJ8.out; omega⟩, by repeat (first | exact Drawn0.refl _ | apply Drawn0.step)⟩
       ·rw [if_neg c7] at H
        exact absurd H (by simp)
      ·rw [if_neg c6] at H
       exact absurd H (by simp)
     ·replace c5 := Bool.eq_false_iff.mpr c5
      subst c5
      have H1 : (some (0, 0, false)) = some (r1, r2, r3) := by rw [if_neg (show ¬ (false = true) by decide)] at H; exact H
      clear H
      have H := H1
      clear H1
      simp only [Option.some.injEq, Prod.mk.injEq] at H
      obtain ⟨rfl, rfl, rfl⟩ := H
      go_wp2
      go_ret3
      exact ⟨by first | rfl | (simp; done) | (simp [*]; done), by repeat (first | exact Drawn0.refl _ | apply Drawn0.step)⟩

/-! ### spec_GetVar: function 118 -/
def spec_GetVar.f (k : Nat) (a0 : ByteArray) : Option (Int × Int × Bool) := (spec_l01Get.f k a0 0).bind fun bt111 => (some (bt111.1, bt111.2.1, bt111.2.2))
theorem spec_GetVar.mono : ∀ a0 k, LeO (spec_GetVar.f k a0) (spec_GetVar.f (k + 1) a0) := by
 intro a0 k
 unfold spec_GetVar.f
 repeat' first
   | (with_reducible exact spec_l01Get.mono _ _ _)
   | (with_reducible exact LeO.refl _)
   | (with_reducible exact LeO.none _)
   | (with_reducible refine LeO.ite ?_ ?_)
   | (with_reducible refine LeO.bind ?_ (fun _ => ?_))
   | exact spec_l01Get.mono _ _ _
   | exact LeO.none _
   | refine LeO.ite ?_ ?_
   | refine LeO.bind ?_ (fun _ => ?_)
set_option maxHeartbeats 8000000 in
set_option maxRecDepth 100000 in
theorem spec_GetVar.calls (k : Nat) (a0 : ByteArray) (r1 : Int) (r2 : Int) (r3 : Bool) (w : World) (h : spec_GetVar.f k a0 = some (r1, r2, r3)) :
  Calls Try.prog 118 #[.string a0] w fun e w' => e = .returned (.tuple #[.int .i64 r1, .int .i64 r2, .bool r3]) ∧ Drawn0 w w' := by
 have H : ((spec_l01Get.f k a0 0).bind fun bt111 => (some (bt111.1, bt111.2.1, bt111.2.2))) = some (r1, r2, r3) := h
 clear h
 replace H := Option.bind_eq_some_iff.mp H
 obtain ⟨⟨t111, t112, t113⟩, A20, H⟩ := H
 replace H : (some (t111, t112, t113)) = some (r1, r2, r3) := H
 have A2 := am A20
 clear A20
 simp only [Option.some.injEq, Prod.mk.injEq] at H
 obtain ⟨rfl, rfl, rfl⟩ := H
 go_enter Try.func118, Try.ntmps118
 go_wp2_with (first | ((with_reducible refine gate_callee (f := 131) rfl ?_); refine goesL_ (some 10) rfl rfl Try.func131 (by kernel_rfl) rfl #[.string a0, .int .i64 0] rfl (by (try simp only [mta, mco, mni]); first | done | rfl | (simp only [lnd, lnt]; rfl)) ?_; (with_reducible refine (spec_l01Get.calls k a0 0 t111 t112 t113 _ A2.out).mono ?_); rintro e w' ⟨rfl, ⟨nd, rfl⟩⟩; refine ⟨_, rfl, ?_⟩))
 go_ret3
 exact ⟨by first | rfl | (simp; done) | (simp [*]; done), by repeat (first | exact Drawn0.refl _ | apply Drawn0.step)⟩

end Go.Proofs.Ythphhklbliambaa.MFnExactGetOp
